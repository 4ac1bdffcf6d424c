/-
  The code goes as its model: assessor/assessorlaw43.FingerprintRolls. (Printed by wip/sp/gen.py.)
-/
import Derived.Test.YtlnhijgieblmgaaDoorWRM
import Derived.Test.YtlnhijgieblmgaaDoorFct
import Derived.Test.YtlnhijgieblmgaaDoorWS
set_option linter.unusedVariables false
set_option linter.unusedSimpArgs false
namespace Go.Proofs.YtlnhijgieblmgaaDoor
open Go.RowKit

/- assessor/assessorlaw43.FingerprintRolls -/
set_option maxRecDepth 100000 in
set_option maxHeartbeats 4000000 in
theorem c_assessorlaw43_FingerprintRolls {Z : World} {ρ : PH} {L : List Atom} {w : World} (hT : Tabs ρ) (p0 : (List Int)) (vp0 : Value) (hp0 : RoSl ρ vp0 p0) (p1 : Int) (hp : Hp Z ρ (L) w) (r : Bool) (hm : m_assessorlaw43_FingerprintRolls p0 p1 = some r) :
    Calls Tryd.prog 5 #[vp0, (.int .i64 p1)] w (Ret fun v w' => v = (.bool r) ∧ Hp Z ρ (L) w') := by
  refine enter (N := 108) Tryd.func5 rfl rfl [(0, vp0), (1, (.int .i64 p1))] rfl (argsIn_mem ⟨rfl, rfl, trivial⟩) fun a hE => ?_
  unfold m_assessorlaw43_FingerprintRolls at hm
  refine k_seq ?_
  refine k_region ?_
  refine s_val (wk0 rfl) rfl rfl hE hp (v := (.bool false)) (ex_asn rfl hE rfl) ?_
  intro a hE
  refine s_nil ?_
  refine k_seq ?_
  refine k_seq ?_
  refine k_region ?_
  obtain ⟨x1, ex1, hm⟩ := bnd hm
  refine s_call (wk0 rfl) rfl rfl hE rfl [] trivial ent10 (c_assessorlaw43_awake hT hp x1 ex1) Ret.ret ?_
  intro v a w hR hE
  obtain ⟨rfl, hp⟩ := Ret.of hR
  have hp : Hp Z ρ (L) w := hp
  refine s_val (wk0 rfl) rfl rfl hE hp (v := (.bool (!x1))) (ex_not rfl hE rfl) ?_
  intro a hE
  refine s_nil ?_
  refine k_if hE rfl (fun hb1 => ?_) (fun hb1 => ?_)
  · replace hm := (it hb1).symm.trans hm
    refine k_seq ?_
    refine k_region ?_
    refine s_val (wk0 rfl) rfl rfl hE hp (v := (.bool false)) (ex_asn rfl hE rfl) ?_
    intro a hE
    refine s_nil ?_
    refine k_ret ?_
    obtain rfl := Option.some.inj hm
    exact ret1 hE rfl rfl ⟨_, rfl, rfl, hp⟩
  · replace hm := (ie hb1).symm.trans hm
    refine k_skip ?_
    refine k_seq ?_
    refine k_seq ?_
    refine k_region ?_
    refine s_val (wk0 rfl) rfl rfl hE hp (v := vp0) (ex_move rfl hE rfl) ?_
    intro a hE
    refine s_val (wk0 rfl) rfl rfl hE hp (v := (.int .i64 (p0.length : Int))) (ex_len rfl hE rfl (RoSl.len hp0 slty25)) ?_
    intro a hE
    refine s_val (wk0 rfl) rfl rfl hE hp (v := (.bool (decide (100 < (p0.length : Int))))) (ex_gtr rfl hE rfl rfl) ?_
    intro a hE
    refine s_val (wk0 rfl) rfl rfl hE hp (v := (.bool (decide (100 < (p0.length : Int))))) (ex_move rfl hE rfl) ?_
    intro a hE
    refine s_cut [_, _, _] (fun a w => Env 108 [(18, (.bool ((decide (100 < (p0.length : Int))) || (decide (p1 < 1))))), (0, vp0), (1, (.int .i64 p1))] a ∧ Hp Z ρ (L) w) ?_ ?_
    · rcases Bool.eq_false_or_eq_true (decide (100 < (p0.length : Int))) with hb2 | hb2
      ·
        refine s_skip (wk2 hE rfl rfl rfl hb2) rfl rfl hE ?_
        intro a hE
        refine s_skip (wk2 hE rfl rfl rfl hb2) rfl rfl hE ?_
        intro a hE
        refine s_val (wk0 rfl) rfl rfl hE hp (v := (.bool true)) (ex_pick1 rfl hE rfl hb2 rfl) ?_
        intro a hE
        have hE := hE.eqv (v' := (.bool ((decide (100 < (p0.length : Int))) || (decide (p1 < 1))))) (by rw [hb2]; rfl)
        exact s_nil ⟨hE.cut ⟨rfl, rfl, rfl, trivial⟩, hp⟩
      ·
        refine s_val (wk1 hE rfl rfl rfl hb2) rfl rfl hE hp (v := (.int .i64 p1)) (ex_move rfl hE rfl) ?_
        intro a hE
        refine s_val (wk1 hE rfl rfl rfl hb2) rfl rfl hE hp (v := (.bool (decide (p1 < 1)))) (ex_lss rfl hE rfl rfl) ?_
        intro a hE
        refine s_val (wk0 rfl) rfl rfl hE hp (v := (.bool (decide (p1 < 1)))) (ex_pick0 rfl hE rfl hb2 rfl) ?_
        intro a hE
        have hE := hE.eqv (v' := (.bool ((decide (100 < (p0.length : Int))) || (decide (p1 < 1))))) (by rw [hb2]; rfl)
        exact s_nil ⟨hE.cut ⟨rfl, rfl, rfl, trivial⟩, hp⟩
    · rintro a w ⟨hE, hp⟩
      refine s_val (wk0 rfl) rfl rfl hE hp (v := (.bool ((decide (100 < (p0.length : Int))) || (decide (p1 < 1))))) (ex_move rfl hE rfl) ?_
      intro a hE
      refine s_cut [_, _, _] (fun a w => Env 108 [(22, (.bool (((decide (100 < (p0.length : Int))) || (decide (p1 < 1))) || (decide (64 < p1))))), (0, vp0), (1, (.int .i64 p1))] a ∧ Hp Z ρ (L) w) ?_ ?_
      · rcases Bool.eq_false_or_eq_true ((decide (100 < (p0.length : Int))) || (decide (p1 < 1))) with hb3 | hb3
        ·
          refine s_skip (wk2 hE rfl rfl rfl hb3) rfl rfl hE ?_
          intro a hE
          refine s_skip (wk2 hE rfl rfl rfl hb3) rfl rfl hE ?_
          intro a hE
          refine s_val (wk0 rfl) rfl rfl hE hp (v := (.bool true)) (ex_pick1 rfl hE rfl hb3 rfl) ?_
          intro a hE
          have hE := hE.eqv (v' := (.bool (((decide (100 < (p0.length : Int))) || (decide (p1 < 1))) || (decide (64 < p1))))) (by rw [hb3]; rfl)
          exact s_nil ⟨hE.cut ⟨rfl, rfl, rfl, trivial⟩, hp⟩
        ·
          refine s_val (wk1 hE rfl rfl rfl hb3) rfl rfl hE hp (v := (.int .i64 p1)) (ex_move rfl hE rfl) ?_
          intro a hE
          refine s_val (wk1 hE rfl rfl rfl hb3) rfl rfl hE hp (v := (.bool (decide (64 < p1)))) (ex_gtr rfl hE rfl rfl) ?_
          intro a hE
          refine s_val (wk0 rfl) rfl rfl hE hp (v := (.bool (decide (64 < p1)))) (ex_pick0 rfl hE rfl hb3 rfl) ?_
          intro a hE
          have hE := hE.eqv (v' := (.bool (((decide (100 < (p0.length : Int))) || (decide (p1 < 1))) || (decide (64 < p1))))) (by rw [hb3]; rfl)
          exact s_nil ⟨hE.cut ⟨rfl, rfl, rfl, trivial⟩, hp⟩
      · rintro a w ⟨hE, hp⟩
        refine s_nil ?_
        refine k_if hE rfl (fun hb4 => ?_) (fun hb4 => ?_)
        · replace hm := (it hb4).symm.trans hm
          refine k_seq ?_
          refine k_region ?_
          refine s_val (wk0 rfl) rfl rfl hE hp (v := (.bool true)) (ex_asn rfl hE rfl) ?_
          intro a hE
          refine s_nil ?_
          refine k_ret ?_
          obtain rfl := Option.some.inj hm
          exact ret1 hE rfl rfl ⟨_, rfl, rfl, hp⟩
        · replace hm := (ie hb4).symm.trans hm
          refine k_skip ?_
          refine k_seq ?_
          refine k_region ?_
          refine s_val (wk0 rfl) rfl rfl hE hp (v := vp0) (ex_move rfl hE rfl) ?_
          intro a hE
          refine s_val (wk0 rfl) rfl rfl hE hp (v := (.int .i64 p1)) (ex_move rfl hE rfl) ?_
          intro a hE
          obtain ⟨x2, ex2, hm⟩ := bnd hm
          refine s_call (wk0 rfl) rfl rfl hE rfl [vp0, (.int .i64 p1)] ⟨rfl, rfl, trivial⟩ ent20 (c_fingerprint_Hashes hT p0 vp0 hp0 p1 hp x2 ex2) Ret.ret ?_
          intro v a w hR hE
          obtain ⟨v1, rfl, hp⟩ := Ret.of hR
          have hp : Hp Z ρ (OwnSl 3 v1 x2.1 :: L) w := hp
          refine s_val (wk0 rfl) rfl rfl hE hp (v := (.tuple #[v1, (.int .i64 x2.2)])) (ex_move rfl hE rfl) ?_
          intro a hE
          refine s_val (wk0 rfl) rfl rfl hE hp (v := v1) (ex_extract rfl hE rfl rfl) ?_
          intro a hE
          refine s_val (wk0 rfl) rfl rfl hE hp (v := (.int .i64 x2.2)) (ex_extract rfl hE rfl rfl) ?_
          intro a hE
          refine s_val (wk0 rfl) rfl rfl hE hp (v := v1) (ex_asn rfl hE rfl) ?_
          intro a hE
          refine s_val (wk0 rfl) rfl rfl hE hp (v := (.int .i64 x2.2)) (ex_asn rfl hE rfl) ?_
          intro a hE
          refine s_nil ?_
          refine k_seq ?_
          refine k_seq ?_
          refine k_region ?_
          refine s_val (wk0 rfl) rfl rfl hE hp (v := (.int .i64 x2.2)) (ex_move rfl hE rfl) ?_
          intro a hE
          refine s_val (wk0 rfl) rfl rfl hE hp (v := (.bool (!decide (x2.2 = 0)))) (ex_neq rfl hE rfl rfl) ?_
          intro a hE
          refine s_val (wk0 rfl) rfl rfl hE hp (v := (.bool (!decide (x2.2 = 0)))) (ex_move rfl hE rfl) ?_
          intro a hE
          obtain ⟨m1, hg1, hm⟩ := bnd hm
          refine s_cut [_, _, _, _, _, _, _, _, _, _] (fun a w => Env 108 [(41, (.bool m1)), (0, vp0), (1, (.int .i64 p1)), (5, v1)] a ∧ Hp Z ρ (OwnSl 3 v1 x2.1 :: L) w) ?_ ?_
          · rcases Bool.eq_false_or_eq_true (!decide (x2.2 = 0)) with hb5 | hb5
            ·
              replace hg1 := (it hb5).symm.trans hg1
              refine s_skip (wk2 hE rfl rfl rfl hb5) rfl rfl hE ?_
              intro a hE
              refine s_skip (wk2 hE rfl rfl rfl hb5) rfl rfl hE ?_
              intro a hE
              refine s_skip (wk2 hE rfl rfl rfl hb5) rfl rfl hE ?_
              intro a hE
              refine s_skip (wk2 hE rfl rfl rfl hb5) rfl rfl hE ?_
              intro a hE
              refine s_skip (wk2 hE rfl rfl rfl hb5) rfl rfl hE ?_
              intro a hE
              refine s_skip (wk2 hE rfl rfl rfl hb5) rfl rfl hE ?_
              intro a hE
              refine s_skip (wk2 hE rfl rfl rfl hb5) rfl rfl hE ?_
              intro a hE
              refine s_skip (wk2 hE rfl rfl rfl hb5) rfl rfl hE ?_
              intro a hE
              refine s_skip (wk2 hE rfl rfl rfl hb5) rfl rfl hE ?_
              intro a hE
              refine s_val (wk0 rfl) rfl rfl hE hp (v := (.bool true)) (ex_pick1 rfl hE rfl hb5 rfl) ?_
              intro a hE
              obtain rfl := Option.some.inj hg1
              exact s_nil ⟨hE.cut ⟨rfl, rfl, rfl, rfl, trivial⟩, hp⟩
            ·
              replace hg1 := (ie hb5).symm.trans hg1
              refine s_val (wk1 hE rfl rfl rfl hb5) rfl rfl hE hp (v := v1) (ex_move rfl hE rfl) ?_
              intro a hE
              refine s_val (wk1 hE rfl rfl rfl hb5) rfl rfl hE hp (v := (.int .i64 (x2.1.length : Int))) (ex_len rfl hE rfl (OwnSl.len hp 0 rfl slty25)) ?_
              intro a hE
              refine s_val (wk1 hE rfl rfl rfl hb5) rfl rfl hE hp (v := vp0) (ex_move rfl hE rfl) ?_
              intro a hE
              refine s_val (wk1 hE rfl rfl rfl hb5) rfl rfl hE hp (v := (.int .i64 (p0.length : Int))) (ex_len rfl hE rfl (RoSl.len hp0 slty25)) ?_
              intro a hE
              refine s_val (wk1 hE rfl rfl rfl hb5) rfl rfl hE hp (v := (.int .i64 p1)) (ex_move rfl hE rfl) ?_
              intro a hE
              obtain ⟨x3, ex3, hg1⟩ := bnd hg1
              refine s_val (wk1 hE rfl rfl rfl hb5) rfl rfl hE hp (v := (.int .i64 x3)) (ex_sub rfl hE rfl rfl (inK_some ex3)) ?_
              intro a hE
              obtain ⟨x4, ex4, hg1⟩ := bnd hg1
              refine s_val (wk1 hE rfl rfl rfl hb5) rfl rfl hE hp (v := (.int .i64 x4)) (ex_add rfl hE rfl rfl (inK_some ex4)) ?_
              intro a hE
              refine s_val (wk1 hE rfl rfl rfl hb5) rfl rfl hE hp (v := (.int .i64 (max 0 x4))) (ex_max rfl hE rfl rfl) ?_
              intro a hE
              refine s_val (wk1 hE rfl rfl rfl hb5) rfl rfl hE hp (v := (.bool (!decide ((x2.1.length : Int) = (max 0 x4))))) (ex_neq rfl hE rfl rfl) ?_
              intro a hE
              refine s_val (wk0 rfl) rfl rfl hE hp (v := (.bool (!decide ((x2.1.length : Int) = (max 0 x4))))) (ex_pick0 rfl hE rfl hb5 rfl) ?_
              intro a hE
              obtain rfl := Option.some.inj hg1
              exact s_nil ⟨hE.cut ⟨rfl, rfl, rfl, rfl, trivial⟩, hp⟩
          · rintro a w ⟨hE, hp⟩
            refine s_nil ?_
            refine k_if hE rfl (fun hb6 => ?_) (fun hb6 => ?_)
            · replace hm := (it hb6).symm.trans hm
              refine k_seq ?_
              refine k_region ?_
              refine s_val (wk0 rfl) rfl rfl hE hp (v := (.bool false)) (ex_asn rfl hE rfl) ?_
              intro a hE
              refine s_nil ?_
              refine k_ret ?_
              obtain rfl := Option.some.inj hm
              exact ret1 hE rfl rfl ⟨_, rfl, rfl, (hp.drop)⟩
            · replace hm := (ie hb6).symm.trans hm
              refine k_skip ?_
              refine k_seq ?_
              refine k_seq ?_
              refine k_region ?_
              refine s_val (wk0 rfl) rfl rfl hE hp (v := v1) (ex_move rfl hE rfl) ?_
              intro a hE
              refine s_val (wk0 rfl) rfl rfl hE hp (v := (.int .i64 (x2.1.length : Int))) (ex_len rfl hE rfl (OwnSl.len hp 0 rfl slty25)) ?_
              intro a hE
              refine s_val (wk0 rfl) rfl rfl hE hp (v := (.int .i64 0)) (ex_move rfl hE rfl) ?_
              intro a hE
              refine s_nil ?_
              obtain ⟨b1, hb7, hm⟩ := bnd hm
              refine k_block (fun a w => ∃ s : Unit, b1 = .brk s ∧ (Env 108 [] a ∧ Hp Z ρ (OwnSl 3 v1 x2.1 :: L) w)) ?_ ?_
              · refine k_loop hb7 (fun s a w => Env 108 [(0, vp0), (1, (.int .i64 p1)), (5, v1), (43, (.int .i64 (x2.1.length : Int))), (44, (.int .i64 s))] a ∧ Hp Z ρ (OwnSl 3 v1 x2.1 :: L) w) ?_ ?_
                · exact ⟨hE.cut ⟨rfl, rfl, rfl, rfl, rfl, trivial⟩, hp⟩
                · rintro lp1_0 st a w ⟨hE, hp⟩ hl1
                  have hE : Env 108 [(0, vp0), (1, (.int .i64 p1)), (5, v1), (43, (.int .i64 (x2.1.length : Int))), (44, (.int .i64 lp1_0))] a := hE
                  have hp : Hp Z ρ (OwnSl 3 v1 x2.1 :: L) w := hp
                  replace hl1 : m_assessorlaw43_FingerprintRolls_lp1 p0 p1 x2 lp1_0 = some st := hl1
                  unfold m_assessorlaw43_FingerprintRolls_lp1 at hl1
                  refine k_seq ?_
                  refine k_region ?_
                  refine s_val (wk0 rfl) rfl rfl hE hp (v := (.bool (decide (lp1_0 < (x2.1.length : Int))))) (ex_lss rfl hE rfl rfl) ?_
                  intro a hE
                  refine s_nil ?_
                  refine k_seq ?_
                  refine k_if hE rfl (fun hb8 => ?_) (fun hb8 => ?_)
                  · replace hl1 := (it hb8).symm.trans hl1
                    refine k_skip ?_
                    refine k_seq ?_
                    refine k_plain ?_
                    refine k_seq ?_
                    refine k_region ?_
                    refine s_val (wk0 rfl) rfl rfl hE hp (v := (.int .i64 lp1_0)) (ex_move rfl hE rfl) ?_
                    intro a hE
                    refine s_val (wk0 rfl) rfl rfl hE hp (v := (.int .i64 lp1_0)) (ex_asn rfl hE rfl) ?_
                    intro a hE
                    refine s_nil ?_
                    refine k_seq ?_
                    refine k_seq ?_
                    refine k_quiet (by kernel_rfl) (by kernel_rfl) hp ?_
                    refine q_val (wk0 rfl) rfl rfl hE (v := v1) (ex_move rfl hE rfl) ?_
                    intro a hE
                    refine q_val (wk0 rfl) rfl rfl hE (v := (.int .i64 lp1_0)) (ex_move rfl hE rfl) ?_
                    intro a hE
                    obtain ⟨x5, ex5, hl1⟩ := bnd hl1
                    obtain ⟨b2, b2o, b2r, b2v, b2f⟩ := OwnSl.at hp 0 rfl slty25 ex5
                    have b2f : ∀ (j : Nat) (u : Value), ([(.int .i64 x5)] : List Value)[j]? = some u → ∀ w, Hp Z ρ (OwnSl 3 v1 x2.1 :: L) w → w.cell? ⟨b2, b2o + j, none⟩ = some u := b2f
                    refine q_val (wk0 rfl) rfl rfl hE (v := (.pointer (some ⟨b2, b2o, none⟩))) (ex_index rfl hE rfl rfl b2r) ?_
                    intro a hE
                    refine q_val (wk0 rfl) rfl rfl hE (v := (.int .i64 x5)) (ex_load rfl hE rfl (fun w hw => run_ld1 varty3 (b2f 0 _ rfl w hw))) ?_
                    intro a hE
                    refine q_val (wk0 rfl) rfl rfl hE (v := vp0) (ex_move rfl hE rfl) ?_
                    intro a hE
                    refine q_val (wk0 rfl) rfl rfl hE (v := (.int .i64 lp1_0)) (ex_move rfl hE rfl) ?_
                    intro a hE
                    refine q_val (wk0 rfl) rfl rfl hE (v := (.int .i64 lp1_0)) (ex_move rfl hE rfl) ?_
                    intro a hE
                    refine q_val (wk0 rfl) rfl rfl hE (v := (.int .i64 p1)) (ex_move rfl hE rfl) ?_
                    intro a hE
                    obtain ⟨x6, ex6, hl1⟩ := bnd hl1
                    refine q_val (wk0 rfl) rfl rfl hE (v := (.int .i64 x6)) (ex_add rfl hE rfl rfl (inK_some ex6)) ?_
                    intro a hE
                    obtain ⟨x7, ex7, hl1⟩ := bnd hl1
                    obtain ⟨v2, v2r, f1⟩ := RoSl.part hp0 slty25 (some (.i64, lp1_0)) (some (.i64, x6)) rfl rfl ex7
                    refine q_val (wk0 rfl) rfl rfl hE (v := v2) (ex_sl rfl hE rfl (some (.i64, lp1_0)) (some (.i64, x6)) (by exact rfl) (by exact rfl) v2r) ?_
                    intro a hE
                    obtain ⟨x8, ex8, hl1⟩ := bnd hl1
                    refine q_call (wk0 rfl) rfl rfl hE rfl [v2] ⟨rfl, trivial⟩ ent17 (v := (.int .i64 x8)) (fun w hw => Calls.mono (c_fingerprint_Hash hT x7 v2 f1 hw x8 ex8) fun e w' ⟨v, he, hv, hh⟩ => ⟨by rw [he, hv], hh⟩) ?_
                    intro a hE
                    refine q_val (wk0 rfl) rfl rfl hE (v := (.bool (!decide (x5 = x8)))) (ex_neq rfl hE rfl rfl) ?_
                    intro a hE
                    refine q_val (wk0 rfl) rfl rfl hE (v := (.bool (!decide (x5 = x8)))) (ex_move rfl hE rfl) ?_
                    intro a hE
                    obtain ⟨m2, hg2, hl1⟩ := bnd hl1
                    refine q_cut [_, _, _, _, _, _] (fun a => Env 108 [(65, (.bool m2)), (0, vp0), (1, (.int .i64 p1)), (5, v1), (7, (.int .i64 lp1_0)), (43, (.int .i64 (x2.1.length : Int))), (44, (.int .i64 lp1_0))] a) ?_ ?_
                    · rcases Bool.eq_false_or_eq_true (!decide (x5 = x8)) with hb9 | hb9
                      ·
                        replace hg2 := (it hb9).symm.trans hg2
                        refine q_skip (wk2 hE rfl rfl rfl hb9) rfl rfl hE ?_
                        intro a hE
                        refine q_skip (wk2 hE rfl rfl rfl hb9) rfl rfl hE ?_
                        intro a hE
                        refine q_skip (wk2 hE rfl rfl rfl hb9) rfl rfl hE ?_
                        intro a hE
                        refine q_skip (wk2 hE rfl rfl rfl hb9) rfl rfl hE ?_
                        intro a hE
                        refine q_skip (wk2 hE rfl rfl rfl hb9) rfl rfl hE ?_
                        intro a hE
                        refine q_val (wk0 rfl) rfl rfl hE (v := (.bool true)) (ex_pick1 rfl hE rfl hb9 rfl) ?_
                        intro a hE
                        obtain rfl := Option.some.inj hg2
                        exact q_nil (hE.cut ⟨rfl, rfl, rfl, rfl, rfl, rfl, rfl, trivial⟩)
                      ·
                        replace hg2 := (ie hb9).symm.trans hg2
                        refine q_val (wk1 hE rfl rfl rfl hb9) rfl rfl hE (v := v1) (ex_move rfl hE rfl) ?_
                        intro a hE
                        refine q_val (wk1 hE rfl rfl rfl hb9) rfl rfl hE (v := (.int .i64 lp1_0)) (ex_move rfl hE rfl) ?_
                        intro a hE
                        obtain ⟨x9, ex9, hg2⟩ := bnd hg2
                        obtain ⟨b3, b3o, b3r, b3v, b3f⟩ := OwnSl.at hp 0 rfl slty25 ex9
                        have b3f : ∀ (j : Nat) (u : Value), ([(.int .i64 x9)] : List Value)[j]? = some u → ∀ w, Hp Z ρ (OwnSl 3 v1 x2.1 :: L) w → w.cell? ⟨b3, b3o + j, none⟩ = some u := b3f
                        refine q_val (wk1 hE rfl rfl rfl hb9) rfl rfl hE (v := (.pointer (some ⟨b3, b3o, none⟩))) (ex_index rfl hE rfl rfl b3r) ?_
                        intro a hE
                        refine q_val (wk1 hE rfl rfl rfl hb9) rfl rfl hE (v := (.int .i64 x9)) (ex_load rfl hE rfl (fun w hw => run_ld1 varty3 (b3f 0 _ rfl w hw))) ?_
                        intro a hE
                        refine q_val (wk1 hE rfl rfl rfl hb9) rfl rfl hE (v := (.bool (decide (x9 < 0)))) (ex_lss rfl hE rfl rfl) ?_
                        intro a hE
                        refine q_val (wk0 rfl) rfl rfl hE (v := (.bool (decide (x9 < 0)))) (ex_pick0 rfl hE rfl hb9 rfl) ?_
                        intro a hE
                        obtain rfl := Option.some.inj hg2
                        exact q_nil (hE.cut ⟨rfl, rfl, rfl, rfl, rfl, rfl, rfl, trivial⟩)
                    · intro a hE
                      refine q_val (wk0 rfl) rfl rfl hE (v := (.bool m2)) (ex_move rfl hE rfl) ?_
                      intro a hE
                      obtain ⟨m3, hg3, hl1⟩ := bnd hl1
                      refine q_cut [_, _, _, _, _, _] (fun a => Env 108 [(72, (.bool m3)), (0, vp0), (1, (.int .i64 p1)), (5, v1), (7, (.int .i64 lp1_0)), (43, (.int .i64 (x2.1.length : Int))), (44, (.int .i64 lp1_0))] a) ?_ ?_
                      · rcases Bool.eq_false_or_eq_true m2 with hb10 | hb10
                        ·
                          replace hg3 := (it hb10).symm.trans hg3
                          refine q_skip (wk2 hE rfl rfl rfl hb10) rfl rfl hE ?_
                          intro a hE
                          refine q_skip (wk2 hE rfl rfl rfl hb10) rfl rfl hE ?_
                          intro a hE
                          refine q_skip (wk2 hE rfl rfl rfl hb10) rfl rfl hE ?_
                          intro a hE
                          refine q_skip (wk2 hE rfl rfl rfl hb10) rfl rfl hE ?_
                          intro a hE
                          refine q_skip (wk2 hE rfl rfl rfl hb10) rfl rfl hE ?_
                          intro a hE
                          refine q_val (wk0 rfl) rfl rfl hE (v := (.bool true)) (ex_pick1 rfl hE rfl hb10 rfl) ?_
                          intro a hE
                          obtain rfl := Option.some.inj hg3
                          exact q_nil (hE.cut ⟨rfl, rfl, rfl, rfl, rfl, rfl, rfl, trivial⟩)
                        ·
                          replace hg3 := (ie hb10).symm.trans hg3
                          refine q_val (wk1 hE rfl rfl rfl hb10) rfl rfl hE (v := v1) (ex_move rfl hE rfl) ?_
                          intro a hE
                          refine q_val (wk1 hE rfl rfl rfl hb10) rfl rfl hE (v := (.int .i64 lp1_0)) (ex_move rfl hE rfl) ?_
                          intro a hE
                          obtain ⟨x10, ex10, hg3⟩ := bnd hg3
                          obtain ⟨b4, b4o, b4r, b4v, b4f⟩ := OwnSl.at hp 0 rfl slty25 ex10
                          have b4f : ∀ (j : Nat) (u : Value), ([(.int .i64 x10)] : List Value)[j]? = some u → ∀ w, Hp Z ρ (OwnSl 3 v1 x2.1 :: L) w → w.cell? ⟨b4, b4o + j, none⟩ = some u := b4f
                          refine q_val (wk1 hE rfl rfl rfl hb10) rfl rfl hE (v := (.pointer (some ⟨b4, b4o, none⟩))) (ex_index rfl hE rfl rfl b4r) ?_
                          intro a hE
                          refine q_val (wk1 hE rfl rfl rfl hb10) rfl rfl hE (v := (.int .i64 x10)) (ex_load rfl hE rfl (fun w hw => run_ld1 varty3 (b4f 0 _ rfl w hw))) ?_
                          intro a hE
                          refine q_val (wk1 hE rfl rfl rfl hb10) rfl rfl hE (v := (.bool (decide (2147483647 ≤ x10)))) (ex_geq rfl hE rfl rfl) ?_
                          intro a hE
                          refine q_val (wk0 rfl) rfl rfl hE (v := (.bool (decide (2147483647 ≤ x10)))) (ex_pick0 rfl hE rfl hb10 rfl) ?_
                          intro a hE
                          obtain rfl := Option.some.inj hg3
                          exact q_nil (hE.cut ⟨rfl, rfl, rfl, rfl, rfl, rfl, rfl, trivial⟩)
                      · intro a hE
                        refine q_nil fun w hp => ?_
                        have hp : Hp Z ρ (OwnSl 3 v1 x2.1 :: L) w := hp
                        refine k_if hE rfl (fun hb11 => ?_) (fun hb11 => ?_)
                        · replace hl1 := (it hb11).symm.trans hl1
                          refine k_seq ?_
                          refine k_region ?_
                          refine s_val (wk0 rfl) rfl rfl hE hp (v := (.bool false)) (ex_asn rfl hE rfl) ?_
                          intro a hE
                          refine s_nil ?_
                          refine k_ret ?_
                          refine ⟨_, (Option.some.inj hl1).symm, fun hb => ?_⟩
                          subst hb
                          obtain rfl := Option.some.inj hm
                          exact ret1 hE rfl rfl ⟨_, rfl, rfl, (hp.drop)⟩
                        · replace hl1 := (ie hb11).symm.trans hl1
                          refine k_skip ?_
                          refine k_seq ?_
                          refine k_region ?_
                          refine s_val (wk0 rfl) rfl rfl hE hp (v := (.int .i64 lp1_0)) (ex_move rfl hE rfl) ?_
                          intro a hE
                          refine s_val (wk0 rfl) rfl rfl hE hp (v := (.bool (decide (0 < lp1_0)))) (ex_gtr rfl hE rfl rfl) ?_
                          intro a hE
                          refine s_nil ?_
                          refine k_if hE rfl (fun hb12 => ?_) (fun hb12 => ?_)
                          · replace hl1 := (it hb12).symm.trans hl1
                            refine k_seq ?_
                            refine k_quiet (by kernel_rfl) (by kernel_rfl) hp ?_
                            refine q_val (wk0 rfl) rfl rfl hE (v := v1) (ex_move rfl hE rfl) ?_
                            intro a hE
                            refine q_val (wk0 rfl) rfl rfl hE (v := (.int .i64 lp1_0)) (ex_move rfl hE rfl) ?_
                            intro a hE
                            obtain ⟨x11, ex11, hl1⟩ := bnd hl1
                            refine q_val (wk0 rfl) rfl rfl hE (v := (.int .i64 x11)) (ex_sub rfl hE rfl rfl (inK_some ex11)) ?_
                            intro a hE
                            obtain ⟨x12, ex12, hl1⟩ := bnd hl1
                            obtain ⟨b5, b5o, b5r, b5v, b5f⟩ := OwnSl.at hp 0 rfl slty25 ex12
                            have b5f : ∀ (j : Nat) (u : Value), ([(.int .i64 x12)] : List Value)[j]? = some u → ∀ w, Hp Z ρ (OwnSl 3 v1 x2.1 :: L) w → w.cell? ⟨b5, b5o + j, none⟩ = some u := b5f
                            refine q_val (wk0 rfl) rfl rfl hE (v := (.pointer (some ⟨b5, b5o, none⟩))) (ex_index rfl hE rfl rfl b5r) ?_
                            intro a hE
                            refine q_val (wk0 rfl) rfl rfl hE (v := (.int .i64 x12)) (ex_load rfl hE rfl (fun w hw => run_ld1 varty3 (b5f 0 _ rfl w hw))) ?_
                            intro a hE
                            refine q_val (wk0 rfl) rfl rfl hE (v := vp0) (ex_move rfl hE rfl) ?_
                            intro a hE
                            refine q_val (wk0 rfl) rfl rfl hE (v := (.int .i64 lp1_0)) (ex_move rfl hE rfl) ?_
                            intro a hE
                            obtain ⟨x13, ex13, hl1⟩ := bnd hl1
                            refine q_val (wk0 rfl) rfl rfl hE (v := (.int .i64 x13)) (ex_sub rfl hE rfl rfl (inK_some ex13)) ?_
                            intro a hE
                            obtain ⟨x14, ex14, hl1⟩ := bnd hl1
                            obtain ⟨b6, b6o, b6c, b6r, b6k, b6f⟩ := RoSl.at hp0 slty25 ex14
                            obtain rfl : b6c = Enc.enc x14 := b6k
                            have b6f : AtP ρ b6 b6o [(.int .i64 x14)] := b6f
                            refine q_val (wk0 rfl) rfl rfl hE (v := (.pointer (some ⟨b6, b6o, none⟩))) (ex_index rfl hE rfl rfl b6r) ?_
                            intro a hE
                            refine q_val (wk0 rfl) rfl rfl hE (v := (.int .i64 x14)) (ex_load rfl hE rfl (fun w hw => run_ld1 varty3 (b6f.c 0 rfl w hw))) ?_
                            intro a hE
                            refine q_val (wk0 rfl) rfl rfl hE (v := vp0) (ex_move rfl hE rfl) ?_
                            intro a hE
                            refine q_val (wk0 rfl) rfl rfl hE (v := (.int .i64 lp1_0)) (ex_move rfl hE rfl) ?_
                            intro a hE
                            refine q_val (wk0 rfl) rfl rfl hE (v := (.int .i64 p1)) (ex_move rfl hE rfl) ?_
                            intro a hE
                            obtain ⟨x15, ex15, hl1⟩ := bnd hl1
                            refine q_val (wk0 rfl) rfl rfl hE (v := (.int .i64 x15)) (ex_add rfl hE rfl rfl (inK_some ex15)) ?_
                            intro a hE
                            obtain ⟨x16, ex16, hl1⟩ := bnd hl1
                            refine q_val (wk0 rfl) rfl rfl hE (v := (.int .i64 x16)) (ex_sub rfl hE rfl rfl (inK_some ex16)) ?_
                            intro a hE
                            obtain ⟨x17, ex17, hl1⟩ := bnd hl1
                            obtain ⟨b7, b7o, b7c, b7r, b7k, b7f⟩ := RoSl.at hp0 slty25 ex17
                            obtain rfl : b7c = Enc.enc x17 := b7k
                            have b7f : AtP ρ b7 b7o [(.int .i64 x17)] := b7f
                            refine q_val (wk0 rfl) rfl rfl hE (v := (.pointer (some ⟨b7, b7o, none⟩))) (ex_index rfl hE rfl rfl b7r) ?_
                            intro a hE
                            refine q_val (wk0 rfl) rfl rfl hE (v := (.int .i64 x17)) (ex_load rfl hE rfl (fun w hw => run_ld1 varty3 (b7f.c 0 rfl w hw))) ?_
                            intro a hE
                            refine q_val (wk0 rfl) rfl rfl hE (v := (.int .i64 p1)) (ex_move rfl hE rfl) ?_
                            intro a hE
                            obtain ⟨x18, ex18, hl1⟩ := bnd hl1
                            refine q_call (wk0 rfl) rfl rfl hE rfl [(.int .i64 x12), (.int .i64 x14), (.int .i64 x17), (.int .i64 p1)] ⟨rfl, rfl, rfl, rfl, trivial⟩ ent22 (v := (.tuple #[(.int .i64 x18.1), (.int .i64 x18.2)])) (fun w hw => Calls.mono (c_fingerprint_Roll hT x12 x14 x17 p1 hw x18 ex18) fun e w' ⟨v, he, hv, hh⟩ => ⟨by rw [he, hv], hh⟩) ?_
                            intro a hE
                            refine q_val (wk0 rfl) rfl rfl hE (v := (.tuple #[(.int .i64 x18.1), (.int .i64 x18.2)])) (ex_move rfl hE rfl) ?_
                            intro a hE
                            refine q_val (wk0 rfl) rfl rfl hE (v := (.int .i64 x18.1)) (ex_extract rfl hE rfl rfl) ?_
                            intro a hE
                            refine q_val (wk0 rfl) rfl rfl hE (v := (.int .i64 x18.2)) (ex_extract rfl hE rfl rfl) ?_
                            intro a hE
                            refine q_val (wk0 rfl) rfl rfl hE (v := (.int .i64 x18.1)) (ex_asn rfl hE rfl) ?_
                            intro a hE
                            refine q_val (wk0 rfl) rfl rfl hE (v := (.int .i64 x18.2)) (ex_asn rfl hE rfl) ?_
                            intro a hE
                            refine q_nil fun w hp => ?_
                            have hp : Hp Z ρ (OwnSl 3 v1 x2.1 :: L) w := hp
                            have hE := hE.cut (E' := [(0, vp0), (1, (.int .i64 p1)), (5, v1), (7, (.int .i64 lp1_0)), (8, (.int .i64 x18.1)), (9, (.int .i64 x18.2)), (43, (.int .i64 (x2.1.length : Int))), (44, (.int .i64 lp1_0))]) ⟨rfl, rfl, rfl, rfl, rfl, rfl, rfl, rfl, trivial⟩
                            refine k_seq ?_
                            refine k_region ?_
                            refine s_val (wk0 rfl) rfl rfl hE hp (v := (.int .i64 x18.2)) (ex_move rfl hE rfl) ?_
                            intro a hE
                            refine s_val (wk0 rfl) rfl rfl hE hp (v := (.bool (!decide (x18.2 = 0)))) (ex_neq rfl hE rfl rfl) ?_
                            intro a hE
                            refine s_val (wk0 rfl) rfl rfl hE hp (v := (.bool (!decide (x18.2 = 0)))) (ex_move rfl hE rfl) ?_
                            intro a hE
                            obtain ⟨m4, hg4, hl1⟩ := bnd hl1
                            refine s_cut [_, _, _, _, _, _, _] (fun a w => Env 108 [(106, (.bool m4)), (0, vp0), (1, (.int .i64 p1)), (5, v1), (43, (.int .i64 (x2.1.length : Int))), (44, (.int .i64 lp1_0))] a ∧ Hp Z ρ (OwnSl 3 v1 x2.1 :: L) w) ?_ ?_
                            · rcases Bool.eq_false_or_eq_true (!decide (x18.2 = 0)) with hb13 | hb13
                              ·
                                replace hg4 := (it hb13).symm.trans hg4
                                refine s_skip (wk2 hE rfl rfl rfl hb13) rfl rfl hE ?_
                                intro a hE
                                refine s_skip (wk2 hE rfl rfl rfl hb13) rfl rfl hE ?_
                                intro a hE
                                refine s_skip (wk2 hE rfl rfl rfl hb13) rfl rfl hE ?_
                                intro a hE
                                refine s_skip (wk2 hE rfl rfl rfl hb13) rfl rfl hE ?_
                                intro a hE
                                refine s_skip (wk2 hE rfl rfl rfl hb13) rfl rfl hE ?_
                                intro a hE
                                refine s_skip (wk2 hE rfl rfl rfl hb13) rfl rfl hE ?_
                                intro a hE
                                refine s_val (wk0 rfl) rfl rfl hE hp (v := (.bool true)) (ex_pick1 rfl hE rfl hb13 rfl) ?_
                                intro a hE
                                obtain rfl := Option.some.inj hg4
                                exact s_nil ⟨hE.cut ⟨rfl, rfl, rfl, rfl, rfl, rfl, trivial⟩, hp⟩
                              ·
                                replace hg4 := (ie hb13).symm.trans hg4
                                refine s_val (wk1 hE rfl rfl rfl hb13) rfl rfl hE hp (v := (.int .i64 x18.1)) (ex_move rfl hE rfl) ?_
                                intro a hE
                                refine s_val (wk1 hE rfl rfl rfl hb13) rfl rfl hE hp (v := v1) (ex_move rfl hE rfl) ?_
                                intro a hE
                                refine s_val (wk1 hE rfl rfl rfl hb13) rfl rfl hE hp (v := (.int .i64 lp1_0)) (ex_move rfl hE rfl) ?_
                                intro a hE
                                obtain ⟨x19, ex19, hg4⟩ := bnd hg4
                                obtain ⟨b8, b8o, b8r, b8v, b8f⟩ := OwnSl.at hp 0 rfl slty25 ex19
                                have b8f : ∀ (j : Nat) (u : Value), ([(.int .i64 x19)] : List Value)[j]? = some u → ∀ w, Hp Z ρ (OwnSl 3 v1 x2.1 :: L) w → w.cell? ⟨b8, b8o + j, none⟩ = some u := b8f
                                refine s_val (wk1 hE rfl rfl rfl hb13) rfl rfl hE hp (v := (.pointer (some ⟨b8, b8o, none⟩))) (ex_index rfl hE rfl rfl b8r) ?_
                                intro a hE
                                refine s_val (wk1 hE rfl rfl rfl hb13) rfl rfl hE hp (v := (.int .i64 x19)) (ex_load rfl hE rfl (fun w hw => run_ld1 varty3 (b8f 0 _ rfl w hw))) ?_
                                intro a hE
                                refine s_val (wk1 hE rfl rfl rfl hb13) rfl rfl hE hp (v := (.bool (!decide (x18.1 = x19)))) (ex_neq rfl hE rfl rfl) ?_
                                intro a hE
                                refine s_val (wk0 rfl) rfl rfl hE hp (v := (.bool (!decide (x18.1 = x19)))) (ex_pick0 rfl hE rfl hb13 rfl) ?_
                                intro a hE
                                obtain rfl := Option.some.inj hg4
                                exact s_nil ⟨hE.cut ⟨rfl, rfl, rfl, rfl, rfl, rfl, trivial⟩, hp⟩
                            · rintro a w ⟨hE, hp⟩
                              refine s_nil ?_
                              refine k_if hE rfl (fun hb14 => ?_) (fun hb14 => ?_)
                              · replace hl1 := (it hb14).symm.trans hl1
                                refine k_seq ?_
                                refine k_region ?_
                                refine s_val (wk0 rfl) rfl rfl hE hp (v := (.bool false)) (ex_asn rfl hE rfl) ?_
                                intro a hE
                                refine s_nil ?_
                                refine k_ret ?_
                                refine ⟨_, (Option.some.inj hl1).symm, fun hb => ?_⟩
                                subst hb
                                obtain rfl := Option.some.inj hm
                                exact ret1 hE rfl rfl ⟨_, rfl, rfl, (hp.drop)⟩
                              · replace hl1 := (ie hb14).symm.trans hl1
                                refine k_skip ?_
                                refine k_region ?_
                                obtain ⟨x20, ex20, hl1⟩ := bnd hl1
                                refine s_val (wk0 rfl) rfl rfl hE hp (v := (.int .i64 x20)) (ex_add rfl hE rfl rfl (inK_some ex20)) ?_
                                intro a hE
                                refine s_val (wk0 rfl) rfl rfl hE hp (v := (.int .i64 x20)) (ex_move rfl hE rfl) ?_
                                intro a hE
                                refine s_nil ?_
                                exact ⟨_, (Option.some.inj hl1).symm, hE.cut ⟨rfl, rfl, rfl, rfl, rfl, trivial⟩, hp⟩
                          · replace hl1 := (ie hb12).symm.trans hl1
                            refine k_skip ?_
                            refine k_region ?_
                            obtain ⟨x21, ex21, hl1⟩ := bnd hl1
                            refine s_val (wk0 rfl) rfl rfl hE hp (v := (.int .i64 x21)) (ex_add rfl hE rfl rfl (inK_some ex21)) ?_
                            intro a hE
                            refine s_val (wk0 rfl) rfl rfl hE hp (v := (.int .i64 x21)) (ex_move rfl hE rfl) ?_
                            intro a hE
                            refine s_nil ?_
                            exact ⟨_, (Option.some.inj hl1).symm, hE.cut ⟨rfl, rfl, rfl, rfl, rfl, trivial⟩, hp⟩
                  · replace hl1 := (ie hb8).symm.trans hl1
                    refine k_exit ?_
                    refine ⟨_, (Option.some.inj hl1).symm, fun hbb => ?_⟩
                    exact ⟨_, hbb.symm, hE.cut trivial, hp⟩
              · rintro a w ⟨b1s, rfl, hE, hp⟩
                dsimp only at hm
                refine k_seq ?_
                refine k_region ?_
                refine s_val (wk0 rfl) rfl rfl hE hp (v := (.bool true)) (ex_asn rfl hE rfl) ?_
                intro a hE
                refine s_nil ?_
                refine k_ret ?_
                obtain rfl := Option.some.inj hm
                exact ret1 hE rfl rfl ⟨_, rfl, rfl, (hp.drop)⟩
end Go.Proofs.YtlnhijgieblmgaaDoor

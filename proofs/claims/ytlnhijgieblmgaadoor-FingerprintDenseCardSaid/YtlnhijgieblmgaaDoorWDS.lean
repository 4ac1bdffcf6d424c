/-
  The code goes as its model: assessor/assessorlaw43.FingerprintDense. (Printed by wip/sp/gen.py.)
-/
import Derived.Test.YtlnhijgieblmgaaDoorWDM
import Derived.Test.YtlnhijgieblmgaaDoorFct
import Derived.Test.YtlnhijgieblmgaaDoorWS
set_option linter.unusedVariables false
set_option linter.unusedSimpArgs false
namespace Go.Proofs.YtlnhijgieblmgaaDoor
open Go.RowKit

/- assessor/assessorlaw43.FingerprintDense -/
set_option maxRecDepth 100000 in
set_option maxHeartbeats 4000000 in
theorem c_assessorlaw43_FingerprintDense {Z : World} {ρ : PH} {L : List Atom} {w : World} (hT : Tabs ρ) (p0 : (List Int)) (vp0 : Value) (hp0 : RoSl ρ vp0 p0) (p1 : Int) (hp : Hp Z ρ (L) w) (r : Bool) (hm : m_assessorlaw43_FingerprintDense p0 p1 = some r) :
    Calls Tryd.prog 7 #[vp0, (.int .i64 p1)] w (Ret fun v w' => v = (.bool r) ∧ Hp Z ρ (L) w') := by
  refine enter (N := 119) Tryd.func7 rfl rfl [(0, vp0), (1, (.int .i64 p1))] rfl (argsIn_mem ⟨rfl, rfl, trivial⟩) fun a hE => ?_
  unfold m_assessorlaw43_FingerprintDense at hm
  refine k_seq ?_
  refine k_region ?_
  refine s_val (wk0 rfl) rfl rfl hE hp (v := (.bool false)) (ex_asn rfl hE rfl) ?_
  intro a hE
  refine s_nil ?_
  refine k_seq ?_
  refine k_seq ?_
  refine k_region ?_
  obtain ⟨x1, ex1, hm⟩ := bnd hm
  refine s_call (wk0 rfl) rfl rfl hE rfl [] trivial ent10 (c_assessorlaw43_awake hT hp x1 ex1) Ret.ret ?_
  intro v a w hR hE
  obtain ⟨rfl, hp⟩ := Ret.of hR
  have hp : Hp Z ρ (L) w := hp
  refine s_val (wk0 rfl) rfl rfl hE hp (v := (.bool (!x1))) (ex_not rfl hE rfl) ?_
  intro a hE
  refine s_nil ?_
  refine k_if hE rfl (fun hb1 => ?_) (fun hb1 => ?_)
  · replace hm := (it hb1).symm.trans hm
    refine k_seq ?_
    refine k_region ?_
    refine s_val (wk0 rfl) rfl rfl hE hp (v := (.bool false)) (ex_asn rfl hE rfl) ?_
    intro a hE
    refine s_nil ?_
    refine k_ret ?_
    obtain rfl := Option.some.inj hm
    exact ret1 hE rfl rfl ⟨_, rfl, rfl, hp⟩
  · replace hm := (ie hb1).symm.trans hm
    refine k_skip ?_
    refine k_seq ?_
    refine k_seq ?_
    refine k_region ?_
    refine s_val (wk0 rfl) rfl rfl hE hp (v := vp0) (ex_move rfl hE rfl) ?_
    intro a hE
    refine s_val (wk0 rfl) rfl rfl hE hp (v := (.int .i64 (p0.length : Int))) (ex_len rfl hE rfl (RoSl.len hp0 slty25)) ?_
    intro a hE
    refine s_val (wk0 rfl) rfl rfl hE hp (v := (.bool (decide (150 < (p0.length : Int))))) (ex_gtr rfl hE rfl rfl) ?_
    intro a hE
    refine s_val (wk0 rfl) rfl rfl hE hp (v := (.bool (decide (150 < (p0.length : Int))))) (ex_move rfl hE rfl) ?_
    intro a hE
    refine s_cut [_, _, _] (fun a w => Env 119 [(18, (.bool ((decide (150 < (p0.length : Int))) || (decide (p1 < 1))))), (0, vp0), (1, (.int .i64 p1))] a ∧ Hp Z ρ (L) w) ?_ ?_
    · rcases Bool.eq_false_or_eq_true (decide (150 < (p0.length : Int))) with hb2 | hb2
      ·
        refine s_skip (wk2 hE rfl rfl rfl hb2) rfl rfl hE ?_
        intro a hE
        refine s_skip (wk2 hE rfl rfl rfl hb2) rfl rfl hE ?_
        intro a hE
        refine s_val (wk0 rfl) rfl rfl hE hp (v := (.bool true)) (ex_pick1 rfl hE rfl hb2 rfl) ?_
        intro a hE
        have hE := hE.eqv (v' := (.bool ((decide (150 < (p0.length : Int))) || (decide (p1 < 1))))) (by rw [hb2]; rfl)
        exact s_nil ⟨hE.cut ⟨rfl, rfl, rfl, trivial⟩, hp⟩
      ·
        refine s_val (wk1 hE rfl rfl rfl hb2) rfl rfl hE hp (v := (.int .i64 p1)) (ex_move rfl hE rfl) ?_
        intro a hE
        refine s_val (wk1 hE rfl rfl rfl hb2) rfl rfl hE hp (v := (.bool (decide (p1 < 1)))) (ex_lss rfl hE rfl rfl) ?_
        intro a hE
        refine s_val (wk0 rfl) rfl rfl hE hp (v := (.bool (decide (p1 < 1)))) (ex_pick0 rfl hE rfl hb2 rfl) ?_
        intro a hE
        have hE := hE.eqv (v' := (.bool ((decide (150 < (p0.length : Int))) || (decide (p1 < 1))))) (by rw [hb2]; rfl)
        exact s_nil ⟨hE.cut ⟨rfl, rfl, rfl, trivial⟩, hp⟩
    · rintro a w ⟨hE, hp⟩
      refine s_val (wk0 rfl) rfl rfl hE hp (v := (.bool ((decide (150 < (p0.length : Int))) || (decide (p1 < 1))))) (ex_move rfl hE rfl) ?_
      intro a hE
      refine s_cut [_, _, _] (fun a w => Env 119 [(22, (.bool (((decide (150 < (p0.length : Int))) || (decide (p1 < 1))) || (decide (64 < p1))))), (0, vp0), (1, (.int .i64 p1))] a ∧ Hp Z ρ (L) w) ?_ ?_
      · rcases Bool.eq_false_or_eq_true ((decide (150 < (p0.length : Int))) || (decide (p1 < 1))) with hb3 | hb3
        ·
          refine s_skip (wk2 hE rfl rfl rfl hb3) rfl rfl hE ?_
          intro a hE
          refine s_skip (wk2 hE rfl rfl rfl hb3) rfl rfl hE ?_
          intro a hE
          refine s_val (wk0 rfl) rfl rfl hE hp (v := (.bool true)) (ex_pick1 rfl hE rfl hb3 rfl) ?_
          intro a hE
          have hE := hE.eqv (v' := (.bool (((decide (150 < (p0.length : Int))) || (decide (p1 < 1))) || (decide (64 < p1))))) (by rw [hb3]; rfl)
          exact s_nil ⟨hE.cut ⟨rfl, rfl, rfl, trivial⟩, hp⟩
        ·
          refine s_val (wk1 hE rfl rfl rfl hb3) rfl rfl hE hp (v := (.int .i64 p1)) (ex_move rfl hE rfl) ?_
          intro a hE
          refine s_val (wk1 hE rfl rfl rfl hb3) rfl rfl hE hp (v := (.bool (decide (64 < p1)))) (ex_gtr rfl hE rfl rfl) ?_
          intro a hE
          refine s_val (wk0 rfl) rfl rfl hE hp (v := (.bool (decide (64 < p1)))) (ex_pick0 rfl hE rfl hb3 rfl) ?_
          intro a hE
          have hE := hE.eqv (v' := (.bool (((decide (150 < (p0.length : Int))) || (decide (p1 < 1))) || (decide (64 < p1))))) (by rw [hb3]; rfl)
          exact s_nil ⟨hE.cut ⟨rfl, rfl, rfl, trivial⟩, hp⟩
      · rintro a w ⟨hE, hp⟩
        refine s_nil ?_
        refine k_if hE rfl (fun hb4 => ?_) (fun hb4 => ?_)
        · replace hm := (it hb4).symm.trans hm
          refine k_seq ?_
          refine k_region ?_
          refine s_val (wk0 rfl) rfl rfl hE hp (v := (.bool true)) (ex_asn rfl hE rfl) ?_
          intro a hE
          refine s_nil ?_
          refine k_ret ?_
          obtain rfl := Option.some.inj hm
          exact ret1 hE rfl rfl ⟨_, rfl, rfl, hp⟩
        · replace hm := (ie hb4).symm.trans hm
          refine k_skip ?_
          refine k_seq ?_
          refine k_region ?_
          refine s_val (wk0 rfl) rfl rfl hE hp (v := vp0) (ex_move rfl hE rfl) ?_
          intro a hE
          refine s_val (wk0 rfl) rfl rfl hE hp (v := (.int .i64 p1)) (ex_move rfl hE rfl) ?_
          intro a hE
          obtain ⟨x2, ex2, hm⟩ := bnd hm
          refine s_call (wk0 rfl) rfl rfl hE rfl [vp0, (.int .i64 p1)] ⟨rfl, rfl, trivial⟩ ent24 (c_fingerprint_Winnow hT p0 vp0 hp0 p1 hp x2 ex2) Ret.ret ?_
          intro v a w hR hE
          obtain ⟨v1, rfl, hp⟩ := Ret.of hR
          have hp : Hp Z ρ (OwnSl 48 v1 x2.1 :: L) w := hp
          refine s_val (wk0 rfl) rfl rfl hE hp (v := (.tuple #[v1, (.int .i64 x2.2)])) (ex_move rfl hE rfl) ?_
          intro a hE
          refine s_val (wk0 rfl) rfl rfl hE hp (v := v1) (ex_extract rfl hE rfl rfl) ?_
          intro a hE
          refine s_val (wk0 rfl) rfl rfl hE hp (v := (.int .i64 x2.2)) (ex_extract rfl hE rfl rfl) ?_
          intro a hE
          refine s_val (wk0 rfl) rfl rfl hE hp (v := v1) (ex_asn rfl hE rfl) ?_
          intro a hE
          refine s_val (wk0 rfl) rfl rfl hE hp (v := (.int .i64 x2.2)) (ex_asn rfl hE rfl) ?_
          intro a hE
          refine s_nil ?_
          refine k_seq ?_
          refine k_seq ?_
          refine k_region ?_
          refine s_val (wk0 rfl) rfl rfl hE hp (v := (.int .i64 x2.2)) (ex_move rfl hE rfl) ?_
          intro a hE
          refine s_val (wk0 rfl) rfl rfl hE hp (v := (.bool (!decide (x2.2 = 0)))) (ex_neq rfl hE rfl rfl) ?_
          intro a hE
          refine s_val (wk0 rfl) rfl rfl hE hp (v := (.bool (!decide (x2.2 = 0)))) (ex_move rfl hE rfl) ?_
          intro a hE
          refine s_cut [_, _, _, _, _, _, _, _, _] (fun a w => Env 119 [(40, (.bool ((!decide (x2.2 = 0)) || ((decide (0 < (p0.length : Int))) && (decide ((x2.1.length : Int) = 0)))))), (0, vp0), (1, (.int .i64 p1)), (5, v1)] a ∧ Hp Z ρ (OwnSl 48 v1 x2.1 :: L) w) ?_ ?_
          · rcases Bool.eq_false_or_eq_true (!decide (x2.2 = 0)) with hb5 | hb5
            ·
              refine s_skip (wk2 hE rfl rfl rfl hb5) rfl rfl hE ?_
              intro a hE
              refine s_skip (wk2 hE rfl rfl rfl hb5) rfl rfl hE ?_
              intro a hE
              refine s_skip (wk2 hE rfl rfl rfl hb5) rfl rfl hE ?_
              intro a hE
              refine s_skip (wk2 hE rfl rfl rfl hb5) rfl rfl hE ?_
              intro a hE
              refine s_skip (wk3 hE rfl rfl rfl) rfl rfl hE ?_
              intro a hE
              refine s_skip (wk3 hE rfl rfl rfl) rfl rfl hE ?_
              intro a hE
              refine s_skip (wk3 hE rfl rfl rfl) rfl rfl hE ?_
              intro a hE
              refine s_skip (wk2 hE rfl rfl rfl hb5) rfl rfl hE ?_
              intro a hE
              refine s_val (wk0 rfl) rfl rfl hE hp (v := (.bool true)) (ex_pick1 rfl hE rfl hb5 rfl) ?_
              intro a hE
              have hE := hE.eqv (v' := (.bool ((!decide (x2.2 = 0)) || ((decide (0 < (p0.length : Int))) && (decide ((x2.1.length : Int) = 0)))))) (by rw [hb5]; rfl)
              exact s_nil ⟨hE.cut ⟨rfl, rfl, rfl, rfl, trivial⟩, hp⟩
            ·
              refine s_val (wk1 hE rfl rfl rfl hb5) rfl rfl hE hp (v := vp0) (ex_move rfl hE rfl) ?_
              intro a hE
              refine s_val (wk1 hE rfl rfl rfl hb5) rfl rfl hE hp (v := (.int .i64 (p0.length : Int))) (ex_len rfl hE rfl (RoSl.len hp0 slty25)) ?_
              intro a hE
              refine s_val (wk1 hE rfl rfl rfl hb5) rfl rfl hE hp (v := (.bool (decide (0 < (p0.length : Int))))) (ex_gtr rfl hE rfl rfl) ?_
              intro a hE
              refine s_val (wk1 hE rfl rfl rfl hb5) rfl rfl hE hp (v := (.bool (decide (0 < (p0.length : Int))))) (ex_move rfl hE rfl) ?_
              intro a hE
              refine s_cut [_, _, _, _] (fun a w => Env 119 [(39, (.bool ((decide (0 < (p0.length : Int))) && (decide ((x2.1.length : Int) = 0))))), (0, vp0), (1, (.int .i64 p1)), (5, v1), (31, (.bool (!decide (x2.2 = 0))))] a ∧ Hp Z ρ (OwnSl 48 v1 x2.1 :: L) w) ?_ ?_
              · rcases Bool.eq_false_or_eq_true (decide (0 < (p0.length : Int))) with hb6 | hb6
                ·
                  refine s_val (wk1 hE rfl rfl rfl hb6) rfl rfl hE hp (v := v1) (ex_move rfl hE rfl) ?_
                  intro a hE
                  refine s_val (wk1 hE rfl rfl rfl hb6) rfl rfl hE hp (v := (.int .i64 (x2.1.length : Int))) (ex_len rfl hE rfl (OwnSl.len hp 0 rfl slty28)) ?_
                  intro a hE
                  refine s_val (wk1 hE rfl rfl rfl hb6) rfl rfl hE hp (v := (.bool (decide ((x2.1.length : Int) = 0)))) (ex_eql rfl hE rfl rfl) ?_
                  intro a hE
                  refine s_val (wk1 hE rfl rfl rfl hb5) rfl rfl hE hp (v := (.bool (decide ((x2.1.length : Int) = 0)))) (ex_pick1 rfl hE rfl hb6 rfl) ?_
                  intro a hE
                  have hE := hE.eqv (v' := (.bool ((decide (0 < (p0.length : Int))) && (decide ((x2.1.length : Int) = 0))))) (by rw [hb6]; rfl)
                  exact s_nil ⟨hE.cut ⟨rfl, rfl, rfl, rfl, rfl, trivial⟩, hp⟩
                ·
                  refine s_skip (wk2 hE rfl rfl rfl hb6) rfl rfl hE ?_
                  intro a hE
                  refine s_skip (wk2 hE rfl rfl rfl hb6) rfl rfl hE ?_
                  intro a hE
                  refine s_skip (wk2 hE rfl rfl rfl hb6) rfl rfl hE ?_
                  intro a hE
                  refine s_val (wk1 hE rfl rfl rfl hb5) rfl rfl hE hp (v := (.bool false)) (ex_pick0 rfl hE rfl hb6 rfl) ?_
                  intro a hE
                  have hE := hE.eqv (v' := (.bool ((decide (0 < (p0.length : Int))) && (decide ((x2.1.length : Int) = 0))))) (by rw [hb6]; rfl)
                  exact s_nil ⟨hE.cut ⟨rfl, rfl, rfl, rfl, rfl, trivial⟩, hp⟩
              · rintro a w ⟨hE, hp⟩
                refine s_val (wk0 rfl) rfl rfl hE hp (v := (.bool ((decide (0 < (p0.length : Int))) && (decide ((x2.1.length : Int) = 0))))) (ex_pick0 rfl hE rfl hb5 rfl) ?_
                intro a hE
                have hE := hE.eqv (v' := (.bool ((!decide (x2.2 = 0)) || ((decide (0 < (p0.length : Int))) && (decide ((x2.1.length : Int) = 0)))))) (by rw [hb5]; rfl)
                exact s_nil ⟨hE.cut ⟨rfl, rfl, rfl, rfl, trivial⟩, hp⟩
          · rintro a w ⟨hE, hp⟩
            refine s_nil ?_
            refine k_if hE rfl (fun hb7 => ?_) (fun hb7 => ?_)
            · replace hm := (it hb7).symm.trans hm
              refine k_seq ?_
              refine k_region ?_
              refine s_val (wk0 rfl) rfl rfl hE hp (v := (.bool false)) (ex_asn rfl hE rfl) ?_
              intro a hE
              refine s_nil ?_
              refine k_ret ?_
              obtain rfl := Option.some.inj hm
              exact ret1 hE rfl rfl ⟨_, rfl, rfl, (hp.drop)⟩
            · replace hm := (ie hb7).symm.trans hm
              refine k_skip ?_
              refine k_seq ?_
              refine k_region ?_
              refine s_val (wk0 rfl) rfl rfl hE hp (v := (.int .i64 (-1))) (ex_asn rfl hE rfl) ?_
              intro a hE
              refine s_nil ?_
              refine k_seq ?_
              refine k_seq ?_
              refine k_region ?_
              refine s_val (wk0 rfl) rfl rfl hE hp (v := v1) (ex_move rfl hE rfl) ?_
              intro a hE
              refine s_val (wk0 rfl) rfl rfl hE hp (v := (.int .i64 (x2.1.length : Int))) (ex_len rfl hE rfl (OwnSl.len hp 0 rfl slty28)) ?_
              intro a hE
              refine s_val (wk0 rfl) rfl rfl hE hp (v := (.int .i64 0)) (ex_move rfl hE rfl) ?_
              intro a hE
              refine s_nil ?_
              obtain ⟨b1, hb8, hm⟩ := bnd hm
              refine k_block (fun a w => ∃ s : Int, b1 = .brk s ∧ (Env 119 [(0, vp0), (1, (.int .i64 p1)), (5, v1), (7, (.int .i64 s))] a ∧ Hp Z ρ (OwnSl 48 v1 x2.1 :: L) w)) ?_ ?_
              · refine k_loop hb8 (fun s a w => Env 119 [(0, vp0), (1, (.int .i64 p1)), (5, v1), (7, (.int .i64 s.1)), (41, v1), (42, (.int .i64 (x2.1.length : Int))), (43, (.int .i64 s.2))] a ∧ Hp Z ρ (OwnSl 48 v1 x2.1 :: L) w) ?_ ?_
                · exact ⟨hE.cut ⟨rfl, rfl, rfl, rfl, rfl, rfl, rfl, trivial⟩, hp⟩
                · rintro ⟨lp1_0, lp1_1⟩ st a w ⟨hE, hp⟩ hl1
                  have hE : Env 119 [(0, vp0), (1, (.int .i64 p1)), (5, v1), (7, (.int .i64 lp1_0)), (41, v1), (42, (.int .i64 (x2.1.length : Int))), (43, (.int .i64 lp1_1))] a := hE
                  have hp : Hp Z ρ (OwnSl 48 v1 x2.1 :: L) w := hp
                  replace hl1 : m_assessorlaw43_FingerprintDense_lp1 p0 p1 x2 lp1_0 lp1_1 = some st := hl1
                  unfold m_assessorlaw43_FingerprintDense_lp1 at hl1
                  refine k_seq ?_
                  refine k_region ?_
                  refine s_val (wk0 rfl) rfl rfl hE hp (v := (.bool (decide (lp1_1 < (x2.1.length : Int))))) (ex_lss rfl hE rfl rfl) ?_
                  intro a hE
                  refine s_nil ?_
                  refine k_seq ?_
                  refine k_if hE rfl (fun hb9 => ?_) (fun hb9 => ?_)
                  · replace hl1 := (it hb9).symm.trans hl1
                    refine k_skip ?_
                    refine k_seq ?_
                    refine k_plain ?_
                    refine k_seq ?_
                    refine k_region ?_
                    refine s_val (wk0 rfl) rfl rfl hE hp (v := (.int .i64 lp1_1)) (ex_move rfl hE rfl) ?_
                    intro a hE
                    obtain ⟨x3, ex3, hl1⟩ := bnd hl1
                    obtain ⟨b2, b2o, b2r, b2v, b2f⟩ := OwnSl.at hp 0 rfl slty28 ex3
                    have b2f : ∀ (j : Nat) (u : Value), ([(.int .i64 x3.hash), (.int .i64 x3.at_)] : List Value)[j]? = some u → ∀ w, Hp Z ρ (OwnSl 48 v1 x2.1 :: L) w → w.cell? ⟨b2, b2o + j, none⟩ = some u := b2f
                    refine s_val (wk0 rfl) rfl rfl hE hp (v := (.pointer (some ⟨b2, b2o, none⟩))) (ex_index rfl hE rfl rfl b2r) ?_
                    intro a hE
                    refine s_val (wk0 rfl) rfl rfl hE hp (v := (.agg #[(.int .i64 x3.hash), (.int .i64 x3.at_)])) (ex_load rfl hE rfl (fun w hw => run_ldN (cs := [(.int .i64 x3.hash), (.int .i64 x3.at_)]) varty48 (fun j u hj => b2f j u hj w hw))) ?_
                    intro a hE
                    refine s_new (wk0 rfl) rfl rfl hE hp rfl [(.int .i64 0), (.int .i64 0)] (fun w => by simp [Instr.alloc, go_sem] <;> rfl) ?_
                    intro a w b3 hE hp
                    have hp : Hp Z ρ (Pt b3 (.cells #[(.int .i64 0), (.int .i64 0)] 48 (0, 0)) :: OwnSl 48 v1 x2.1 :: L) w := hp
                    refine s_val (wk0 rfl) rfl rfl hE hp (v := (.int .i64 lp1_1)) (ex_asn rfl hE rfl) ?_
                    intro a hE
                    refine s_store (wk0 rfl) rfl hE hp rfl rfl rfl 0 rfl varty48.size_ rfl (allOne_mem ⟨rfl, rfl, trivial⟩) [(.int .i64 x3.hash), (.int .i64 x3.at_)] rfl ?_
                    intro w hp
                    have hp : Hp Z ρ (Pt b3 (.cells #[(.int .i64 x3.hash), (.int .i64 x3.at_)] 48 (0, 0)) :: OwnSl 48 v1 x2.1 :: L) w := hp
                    refine s_nil ?_
                    refine k_seq ?_
                    refine k_seq ?_
                    refine k_quiet (by kernel_rfl) (by kernel_rfl) hp ?_
                    refine q_val (wk0 rfl) rfl rfl hE (v := (.pointer (some ⟨b3, 1, none⟩))) (ex_field rfl hE rfl (fldty48_1 _ _)) ?_
                    intro a hE
                    refine q_val (wk0 rfl) rfl rfl hE (v := (.int .i64 x3.at_)) (ex_load rfl hE rfl (fun w hw => run_ld1 varty3 (Hp.c 0 rfl 1 rfl w hw))) ?_
                    intro a hE
                    refine q_val (wk0 rfl) rfl rfl hE (v := (.int .i64 lp1_0)) (ex_move rfl hE rfl) ?_
                    intro a hE
                    refine q_val (wk0 rfl) rfl rfl hE (v := (.bool (decide (x3.at_ ≤ lp1_0)))) (ex_leq rfl hE rfl rfl) ?_
                    intro a hE
                    refine q_val (wk0 rfl) rfl rfl hE (v := (.bool (decide (x3.at_ ≤ lp1_0)))) (ex_move rfl hE rfl) ?_
                    intro a hE
                    refine q_cut [_, _, _, _, _, _] (fun a => Env 119 [(58, (.bool ((decide (x3.at_ ≤ lp1_0)) || (decide ((p0.length : Int) ≤ x3.at_))))), (0, vp0), (1, (.int .i64 p1)), (5, v1), (7, (.int .i64 lp1_0)), (8, (.int .i64 lp1_1)), (9, (.pointer (some ⟨b3, 0, none⟩))), (41, v1), (42, (.int .i64 (x2.1.length : Int))), (43, (.int .i64 lp1_1))] a) ?_ ?_
                    · rcases Bool.eq_false_or_eq_true (decide (x3.at_ ≤ lp1_0)) with hb10 | hb10
                      ·
                        refine q_skip (wk2 hE rfl rfl rfl hb10) rfl rfl hE ?_
                        intro a hE
                        refine q_skip (wk2 hE rfl rfl rfl hb10) rfl rfl hE ?_
                        intro a hE
                        refine q_skip (wk2 hE rfl rfl rfl hb10) rfl rfl hE ?_
                        intro a hE
                        refine q_skip (wk2 hE rfl rfl rfl hb10) rfl rfl hE ?_
                        intro a hE
                        refine q_skip (wk2 hE rfl rfl rfl hb10) rfl rfl hE ?_
                        intro a hE
                        refine q_val (wk0 rfl) rfl rfl hE (v := (.bool true)) (ex_pick1 rfl hE rfl hb10 rfl) ?_
                        intro a hE
                        have hE := hE.eqv (v' := (.bool ((decide (x3.at_ ≤ lp1_0)) || (decide ((p0.length : Int) ≤ x3.at_))))) (by rw [hb10]; rfl)
                        exact q_nil (hE.cut ⟨rfl, rfl, rfl, rfl, rfl, rfl, rfl, rfl, rfl, rfl, trivial⟩)
                      ·
                        refine q_val (wk1 hE rfl rfl rfl hb10) rfl rfl hE (v := (.pointer (some ⟨b3, 1, none⟩))) (ex_field rfl hE rfl (fldty48_1 _ _)) ?_
                        intro a hE
                        refine q_val (wk1 hE rfl rfl rfl hb10) rfl rfl hE (v := (.int .i64 x3.at_)) (ex_load rfl hE rfl (fun w hw => run_ld1 varty3 (Hp.c 0 rfl 1 rfl w hw))) ?_
                        intro a hE
                        refine q_val (wk1 hE rfl rfl rfl hb10) rfl rfl hE (v := vp0) (ex_move rfl hE rfl) ?_
                        intro a hE
                        refine q_val (wk1 hE rfl rfl rfl hb10) rfl rfl hE (v := (.int .i64 (p0.length : Int))) (ex_len rfl hE rfl (RoSl.len hp0 slty25)) ?_
                        intro a hE
                        refine q_val (wk1 hE rfl rfl rfl hb10) rfl rfl hE (v := (.bool (decide ((p0.length : Int) ≤ x3.at_)))) (ex_geq rfl hE rfl rfl) ?_
                        intro a hE
                        refine q_val (wk0 rfl) rfl rfl hE (v := (.bool (decide ((p0.length : Int) ≤ x3.at_)))) (ex_pick0 rfl hE rfl hb10 rfl) ?_
                        intro a hE
                        have hE := hE.eqv (v' := (.bool ((decide (x3.at_ ≤ lp1_0)) || (decide ((p0.length : Int) ≤ x3.at_))))) (by rw [hb10]; rfl)
                        exact q_nil (hE.cut ⟨rfl, rfl, rfl, rfl, rfl, rfl, rfl, rfl, rfl, rfl, trivial⟩)
                    · intro a hE
                      refine q_val (wk0 rfl) rfl rfl hE (v := (.bool ((decide (x3.at_ ≤ lp1_0)) || (decide ((p0.length : Int) ≤ x3.at_))))) (ex_move rfl hE rfl) ?_
                      intro a hE
                      obtain ⟨m1, hg1, hl1⟩ := bnd hl1
                      refine q_cut [_, _, _, _, _, _, _, _, _] (fun a => Env 119 [(68, (.bool m1)), (0, vp0), (1, (.int .i64 p1)), (5, v1), (7, (.int .i64 lp1_0)), (8, (.int .i64 lp1_1)), (9, (.pointer (some ⟨b3, 0, none⟩))), (41, v1), (42, (.int .i64 (x2.1.length : Int))), (43, (.int .i64 lp1_1))] a) ?_ ?_
                      · rcases Bool.eq_false_or_eq_true ((decide (x3.at_ ≤ lp1_0)) || (decide ((p0.length : Int) ≤ x3.at_))) with hb11 | hb11
                        ·
                          replace hg1 := (it hb11).symm.trans hg1
                          refine q_skip (wk2 hE rfl rfl rfl hb11) rfl rfl hE ?_
                          intro a hE
                          refine q_skip (wk2 hE rfl rfl rfl hb11) rfl rfl hE ?_
                          intro a hE
                          refine q_skip (wk2 hE rfl rfl rfl hb11) rfl rfl hE ?_
                          intro a hE
                          refine q_skip (wk2 hE rfl rfl rfl hb11) rfl rfl hE ?_
                          intro a hE
                          refine q_skip (wk2 hE rfl rfl rfl hb11) rfl rfl hE ?_
                          intro a hE
                          refine q_skip (wk2 hE rfl rfl rfl hb11) rfl rfl hE ?_
                          intro a hE
                          refine q_skip (wk2 hE rfl rfl rfl hb11) rfl rfl hE ?_
                          intro a hE
                          refine q_skip (wk2 hE rfl rfl rfl hb11) rfl rfl hE ?_
                          intro a hE
                          refine q_val (wk0 rfl) rfl rfl hE (v := (.bool true)) (ex_pick1 rfl hE rfl hb11 rfl) ?_
                          intro a hE
                          obtain rfl := Option.some.inj hg1
                          exact q_nil (hE.cut ⟨rfl, rfl, rfl, rfl, rfl, rfl, rfl, rfl, rfl, rfl, trivial⟩)
                        ·
                          replace hg1 := (ie hb11).symm.trans hg1
                          refine q_val (wk1 hE rfl rfl rfl hb11) rfl rfl hE (v := (.pointer (some ⟨b3, 0, none⟩))) (ex_field rfl hE rfl (fldty48_0 _ _)) ?_
                          intro a hE
                          refine q_val (wk1 hE rfl rfl rfl hb11) rfl rfl hE (v := (.int .i64 x3.hash)) (ex_load rfl hE rfl (fun w hw => run_ld1 varty3 (Hp.c 0 rfl 0 rfl w hw))) ?_
                          intro a hE
                          refine q_val (wk1 hE rfl rfl rfl hb11) rfl rfl hE (v := vp0) (ex_move rfl hE rfl) ?_
                          intro a hE
                          refine q_val (wk1 hE rfl rfl rfl hb11) rfl rfl hE (v := (.pointer (some ⟨b3, 1, none⟩))) (ex_field rfl hE rfl (fldty48_1 _ _)) ?_
                          intro a hE
                          refine q_val (wk1 hE rfl rfl rfl hb11) rfl rfl hE (v := (.int .i64 x3.at_)) (ex_load rfl hE rfl (fun w hw => run_ld1 varty3 (Hp.c 0 rfl 1 rfl w hw))) ?_
                          intro a hE
                          obtain ⟨x4, ex4, hg1⟩ := bnd hg1
                          obtain ⟨b4, b4o, b4c, b4r, b4k, b4f⟩ := RoSl.at hp0 slty25 ex4
                          obtain rfl : b4c = Enc.enc x4 := b4k
                          have b4f : AtP ρ b4 b4o [(.int .i64 x4)] := b4f
                          refine q_val (wk1 hE rfl rfl rfl hb11) rfl rfl hE (v := (.pointer (some ⟨b4, b4o, none⟩))) (ex_index rfl hE rfl rfl b4r) ?_
                          intro a hE
                          refine q_val (wk1 hE rfl rfl rfl hb11) rfl rfl hE (v := (.int .i64 x4)) (ex_load rfl hE rfl (fun w hw => run_ld1 varty3 (b4f.c 0 rfl w hw))) ?_
                          intro a hE
                          refine q_val (wk1 hE rfl rfl rfl hb11) rfl rfl hE (v := (.bool (!decide (x3.hash = x4)))) (ex_neq rfl hE rfl rfl) ?_
                          intro a hE
                          refine q_val (wk0 rfl) rfl rfl hE (v := (.bool (!decide (x3.hash = x4)))) (ex_pick0 rfl hE rfl hb11 rfl) ?_
                          intro a hE
                          obtain rfl := Option.some.inj hg1
                          exact q_nil (hE.cut ⟨rfl, rfl, rfl, rfl, rfl, rfl, rfl, rfl, rfl, rfl, trivial⟩)
                      · intro a hE
                        refine q_val (wk0 rfl) rfl rfl hE (v := (.bool m1)) (ex_move rfl hE rfl) ?_
                        intro a hE
                        obtain ⟨m2, hg2, hl1⟩ := bnd hl1
                        refine q_cut [_, _, _, _, _, _, _, _, _, _, _] (fun a => Env 119 [(80, (.bool m2)), (0, vp0), (1, (.int .i64 p1)), (5, v1), (9, (.pointer (some ⟨b3, 0, none⟩))), (41, v1), (42, (.int .i64 (x2.1.length : Int))), (43, (.int .i64 lp1_1))] a) ?_ ?_
                        · rcases Bool.eq_false_or_eq_true m1 with hb12 | hb12
                          ·
                            replace hg2 := (it hb12).symm.trans hg2
                            refine q_skip (wk2 hE rfl rfl rfl hb12) rfl rfl hE ?_
                            intro a hE
                            refine q_skip (wk2 hE rfl rfl rfl hb12) rfl rfl hE ?_
                            intro a hE
                            refine q_skip (wk2 hE rfl rfl rfl hb12) rfl rfl hE ?_
                            intro a hE
                            refine q_skip (wk3 hE rfl rfl rfl) rfl rfl hE ?_
                            intro a hE
                            refine q_skip (wk3 hE rfl rfl rfl) rfl rfl hE ?_
                            intro a hE
                            refine q_skip (wk3 hE rfl rfl rfl) rfl rfl hE ?_
                            intro a hE
                            refine q_skip (wk3 hE rfl rfl rfl) rfl rfl hE ?_
                            intro a hE
                            refine q_skip (wk3 hE rfl rfl rfl) rfl rfl hE ?_
                            intro a hE
                            refine q_skip (wk3 hE rfl rfl rfl) rfl rfl hE ?_
                            intro a hE
                            refine q_skip (wk2 hE rfl rfl rfl hb12) rfl rfl hE ?_
                            intro a hE
                            refine q_val (wk0 rfl) rfl rfl hE (v := (.bool true)) (ex_pick1 rfl hE rfl hb12 rfl) ?_
                            intro a hE
                            obtain rfl := Option.some.inj hg2
                            exact q_nil (hE.cut ⟨rfl, rfl, rfl, rfl, rfl, rfl, rfl, rfl, trivial⟩)
                          ·
                            replace hg2 := (ie hb12).symm.trans hg2
                            refine q_val (wk1 hE rfl rfl rfl hb12) rfl rfl hE (v := (.int .i64 lp1_1)) (ex_move rfl hE rfl) ?_
                            intro a hE
                            refine q_val (wk1 hE rfl rfl rfl hb12) rfl rfl hE (v := (.bool (decide (0 < lp1_1)))) (ex_gtr rfl hE rfl rfl) ?_
                            intro a hE
                            refine q_val (wk1 hE rfl rfl rfl hb12) rfl rfl hE (v := (.bool (decide (0 < lp1_1)))) (ex_move rfl hE rfl) ?_
                            intro a hE
                            obtain ⟨m3, hg3, hg2⟩ := bnd hg2
                            refine q_cut [_, _, _, _, _, _, _] (fun a => Env 119 [(79, (.bool m3)), (0, vp0), (1, (.int .i64 p1)), (5, v1), (9, (.pointer (some ⟨b3, 0, none⟩))), (41, v1), (42, (.int .i64 (x2.1.length : Int))), (43, (.int .i64 lp1_1)), (69, (.bool m1)), (70, (.int .i64 lp1_1)), (71, (.bool (decide (0 < lp1_1)))), (72, (.bool (decide (0 < lp1_1))))] a) ?_ ?_
                            · rcases Bool.eq_false_or_eq_true (decide (0 < lp1_1)) with hb13 | hb13
                              ·
                                replace hg3 := (it hb13).symm.trans hg3
                                refine q_val (wk1 hE rfl rfl rfl hb13) rfl rfl hE (v := (.pointer (some ⟨b3, 1, none⟩))) (ex_field rfl hE rfl (fldty48_1 _ _)) ?_
                                intro a hE
                                refine q_val (wk1 hE rfl rfl rfl hb13) rfl rfl hE (v := (.int .i64 x3.at_)) (ex_load rfl hE rfl (fun w hw => run_ld1 varty3 (Hp.c 0 rfl 1 rfl w hw))) ?_
                                intro a hE
                                refine q_val (wk1 hE rfl rfl rfl hb13) rfl rfl hE (v := (.int .i64 lp1_0)) (ex_move rfl hE rfl) ?_
                                intro a hE
                                obtain ⟨x5, ex5, hg3⟩ := bnd hg3
                                refine q_val (wk1 hE rfl rfl rfl hb13) rfl rfl hE (v := (.int .i64 x5)) (ex_sub rfl hE rfl rfl (inK_some ex5)) ?_
                                intro a hE
                                refine q_val (wk1 hE rfl rfl rfl hb13) rfl rfl hE (v := (.int .i64 p1)) (ex_move rfl hE rfl) ?_
                                intro a hE
                                refine q_val (wk1 hE rfl rfl rfl hb13) rfl rfl hE (v := (.bool (decide (p1 < x5)))) (ex_gtr rfl hE rfl rfl) ?_
                                intro a hE
                                refine q_val (wk1 hE rfl rfl rfl hb12) rfl rfl hE (v := (.bool (decide (p1 < x5)))) (ex_pick1 rfl hE rfl hb13 rfl) ?_
                                intro a hE
                                obtain rfl := Option.some.inj hg3
                                exact q_nil (hE.cut ⟨rfl, rfl, rfl, rfl, rfl, rfl, rfl, rfl, rfl, rfl, rfl, rfl, trivial⟩)
                              ·
                                replace hg3 := (ie hb13).symm.trans hg3
                                refine q_skip (wk2 hE rfl rfl rfl hb13) rfl rfl hE ?_
                                intro a hE
                                refine q_skip (wk2 hE rfl rfl rfl hb13) rfl rfl hE ?_
                                intro a hE
                                refine q_skip (wk2 hE rfl rfl rfl hb13) rfl rfl hE ?_
                                intro a hE
                                refine q_skip (wk2 hE rfl rfl rfl hb13) rfl rfl hE ?_
                                intro a hE
                                refine q_skip (wk2 hE rfl rfl rfl hb13) rfl rfl hE ?_
                                intro a hE
                                refine q_skip (wk2 hE rfl rfl rfl hb13) rfl rfl hE ?_
                                intro a hE
                                refine q_val (wk1 hE rfl rfl rfl hb12) rfl rfl hE (v := (.bool false)) (ex_pick0 rfl hE rfl hb13 rfl) ?_
                                intro a hE
                                obtain rfl := Option.some.inj hg3
                                exact q_nil (hE.cut ⟨rfl, rfl, rfl, rfl, rfl, rfl, rfl, rfl, rfl, rfl, rfl, rfl, trivial⟩)
                            · intro a hE
                              refine q_val (wk0 rfl) rfl rfl hE (v := (.bool m3)) (ex_pick0 rfl hE rfl hb12 rfl) ?_
                              intro a hE
                              obtain rfl := Option.some.inj hg2
                              exact q_nil (hE.cut ⟨rfl, rfl, rfl, rfl, rfl, rfl, rfl, rfl, trivial⟩)
                        · intro a hE
                          refine q_nil fun w hp => ?_
                          have hp : Hp Z ρ (Pt b3 (.cells #[(.int .i64 x3.hash), (.int .i64 x3.at_)] 48 (0, 0)) :: OwnSl 48 v1 x2.1 :: L) w := hp
                          refine k_if hE rfl (fun hb14 => ?_) (fun hb14 => ?_)
                          · replace hl1 := (it hb14).symm.trans hl1
                            refine k_seq ?_
                            refine k_region ?_
                            refine s_val (wk0 rfl) rfl rfl hE hp (v := (.bool false)) (ex_asn rfl hE rfl) ?_
                            intro a hE
                            refine s_nil ?_
                            refine k_ret ?_
                            refine ⟨_, (Option.some.inj hl1).symm, fun hb => ?_⟩
                            subst hb
                            obtain rfl := Option.some.inj hm
                            exact ret1 hE rfl rfl ⟨_, rfl, rfl, (((hp.get 1 rfl).drop).drop)⟩
                          · replace hl1 := (ie hb14).symm.trans hl1
                            refine k_skip ?_
                            refine k_region ?_
                            refine s_val (wk0 rfl) rfl rfl hE hp (v := (.pointer (some ⟨b3, 1, none⟩))) (ex_field rfl hE rfl (fldty48_1 _ _)) ?_
                            intro a hE
                            refine s_val (wk0 rfl) rfl rfl hE hp (v := (.int .i64 x3.at_)) (ex_load rfl hE rfl (fun w hw => run_ld1 varty3 (Hp.c 0 rfl 1 rfl w hw))) ?_
                            intro a hE
                            refine s_val (wk0 rfl) rfl rfl hE hp (v := (.int .i64 x3.at_)) (ex_asn rfl hE rfl) ?_
                            intro a hE
                            refine s_nil ?_
                            refine k_region ?_
                            obtain ⟨x6, ex6, hl1⟩ := bnd hl1
                            refine s_val (wk0 rfl) rfl rfl hE hp (v := (.int .i64 x6)) (ex_add rfl hE rfl rfl (inK_some ex6)) ?_
                            intro a hE
                            refine s_val (wk0 rfl) rfl rfl hE hp (v := (.int .i64 x6)) (ex_move rfl hE rfl) ?_
                            intro a hE
                            refine s_nil ?_
                            exact ⟨_, (Option.some.inj hl1).symm, hE.cut ⟨rfl, rfl, rfl, rfl, rfl, rfl, rfl, trivial⟩, (hp.drop)⟩
                  · replace hl1 := (ie hb9).symm.trans hl1
                    refine k_exit ?_
                    refine ⟨_, (Option.some.inj hl1).symm, fun hbb => ?_⟩
                    exact ⟨_, hbb.symm, hE.cut ⟨rfl, rfl, rfl, rfl, trivial⟩, hp⟩
              · rintro a w ⟨b1s, rfl, hE, hp⟩
                dsimp only at hm
                refine k_seq ?_
                refine k_region ?_
                refine s_val (wk0 rfl) rfl rfl hE hp (v := vp0) (ex_move rfl hE rfl) ?_
                intro a hE
                refine s_val (wk0 rfl) rfl rfl hE hp (v := (.int .i64 (p0.length : Int))) (ex_len rfl hE rfl (RoSl.len hp0 slty25)) ?_
                intro a hE
                refine s_val (wk0 rfl) rfl rfl hE hp (v := (.bool (decide ((p0.length : Int) = 0)))) (ex_eql rfl hE rfl rfl) ?_
                intro a hE
                refine s_val (wk0 rfl) rfl rfl hE hp (v := (.bool (decide ((p0.length : Int) = 0)))) (ex_move rfl hE rfl) ?_
                intro a hE
                refine s_cut [_, _, _, _] (fun a w => Env 119 [(91, (.bool ((decide ((p0.length : Int) = 0)) && (decide ((x2.1.length : Int) = 0))))), (0, vp0), (1, (.int .i64 p1)), (5, v1), (7, (.int .i64 b1s))] a ∧ Hp Z ρ (OwnSl 48 v1 x2.1 :: L) w) ?_ ?_
                · rcases Bool.eq_false_or_eq_true (decide ((p0.length : Int) = 0)) with hb15 | hb15
                  ·
                    refine s_val (wk1 hE rfl rfl rfl hb15) rfl rfl hE hp (v := v1) (ex_move rfl hE rfl) ?_
                    intro a hE
                    refine s_val (wk1 hE rfl rfl rfl hb15) rfl rfl hE hp (v := (.int .i64 (x2.1.length : Int))) (ex_len rfl hE rfl (OwnSl.len hp 0 rfl slty28)) ?_
                    intro a hE
                    refine s_val (wk1 hE rfl rfl rfl hb15) rfl rfl hE hp (v := (.bool (decide ((x2.1.length : Int) = 0)))) (ex_eql rfl hE rfl rfl) ?_
                    intro a hE
                    refine s_val (wk0 rfl) rfl rfl hE hp (v := (.bool (decide ((x2.1.length : Int) = 0)))) (ex_pick1 rfl hE rfl hb15 rfl) ?_
                    intro a hE
                    have hE := hE.eqv (v' := (.bool ((decide ((p0.length : Int) = 0)) && (decide ((x2.1.length : Int) = 0))))) (by rw [hb15]; rfl)
                    exact s_nil ⟨hE.cut ⟨rfl, rfl, rfl, rfl, rfl, trivial⟩, hp⟩
                  ·
                    refine s_skip (wk2 hE rfl rfl rfl hb15) rfl rfl hE ?_
                    intro a hE
                    refine s_skip (wk2 hE rfl rfl rfl hb15) rfl rfl hE ?_
                    intro a hE
                    refine s_skip (wk2 hE rfl rfl rfl hb15) rfl rfl hE ?_
                    intro a hE
                    refine s_val (wk0 rfl) rfl rfl hE hp (v := (.bool false)) (ex_pick0 rfl hE rfl hb15 rfl) ?_
                    intro a hE
                    have hE := hE.eqv (v' := (.bool ((decide ((p0.length : Int) = 0)) && (decide ((x2.1.length : Int) = 0))))) (by rw [hb15]; rfl)
                    exact s_nil ⟨hE.cut ⟨rfl, rfl, rfl, rfl, rfl, trivial⟩, hp⟩
                · rintro a w ⟨hE, hp⟩
                  refine s_val (wk0 rfl) rfl rfl hE hp (v := (.bool ((decide ((p0.length : Int) = 0)) && (decide ((x2.1.length : Int) = 0))))) (ex_move rfl hE rfl) ?_
                  intro a hE
                  obtain ⟨m4, hg4, hm⟩ := bnd hm
                  refine s_cut [_, _, _, _, _, _, _, _, _, _, _, _, _, _, _, _, _, _, _, _, _, _, _, _, _, _] (fun a w => Env 119 [(118, (.bool m4))] a ∧ Hp Z ρ (OwnSl 48 v1 x2.1 :: L) w) ?_ ?_
                  · rcases Bool.eq_false_or_eq_true ((decide ((p0.length : Int) = 0)) && (decide ((x2.1.length : Int) = 0))) with hb16 | hb16
                    ·
                      replace hg4 := (it hb16).symm.trans hg4
                      refine s_skip (wk2 hE rfl rfl rfl hb16) rfl rfl hE ?_
                      intro a hE
                      refine s_skip (wk2 hE rfl rfl rfl hb16) rfl rfl hE ?_
                      intro a hE
                      refine s_skip (wk2 hE rfl rfl rfl hb16) rfl rfl hE ?_
                      intro a hE
                      refine s_skip (wk2 hE rfl rfl rfl hb16) rfl rfl hE ?_
                      intro a hE
                      refine s_skip (wk3 hE rfl rfl rfl) rfl rfl hE ?_
                      intro a hE
                      refine s_skip (wk3 hE rfl rfl rfl) rfl rfl hE ?_
                      intro a hE
                      refine s_skip (wk3 hE rfl rfl rfl) rfl rfl hE ?_
                      intro a hE
                      refine s_skip (wk3 hE rfl rfl rfl) rfl rfl hE ?_
                      intro a hE
                      refine s_skip (wk3 hE rfl rfl rfl) rfl rfl hE ?_
                      intro a hE
                      refine s_skip (wk3 hE rfl rfl rfl) rfl rfl hE ?_
                      intro a hE
                      refine s_skip (wk3 hE rfl rfl rfl) rfl rfl hE ?_
                      intro a hE
                      refine s_skip (wk3 hE rfl rfl rfl) rfl rfl hE ?_
                      intro a hE
                      refine s_skip (wk3 hE rfl rfl rfl) rfl rfl hE ?_
                      intro a hE
                      refine s_skip (wk3 hE rfl rfl rfl) rfl rfl hE ?_
                      intro a hE
                      refine s_skip (wk3 hE rfl rfl rfl) rfl rfl hE ?_
                      intro a hE
                      refine s_skip (wk3 hE rfl rfl rfl) rfl rfl hE ?_
                      intro a hE
                      refine s_skip (wk3 hE rfl rfl rfl) rfl rfl hE ?_
                      intro a hE
                      refine s_skip (wk3 hE rfl rfl rfl) rfl rfl hE ?_
                      intro a hE
                      refine s_skip (wk3 hE rfl rfl rfl) rfl rfl hE ?_
                      intro a hE
                      refine s_skip (wk3 hE rfl rfl rfl) rfl rfl hE ?_
                      intro a hE
                      refine s_skip (wk3 hE rfl rfl rfl) rfl rfl hE ?_
                      intro a hE
                      refine s_skip (wk3 hE rfl rfl rfl) rfl rfl hE ?_
                      intro a hE
                      refine s_skip (wk3 hE rfl rfl rfl) rfl rfl hE ?_
                      intro a hE
                      refine s_skip (wk3 hE rfl rfl rfl) rfl rfl hE ?_
                      intro a hE
                      refine s_skip (wk2 hE rfl rfl rfl hb16) rfl rfl hE ?_
                      intro a hE
                      refine s_val (wk0 rfl) rfl rfl hE hp (v := (.bool true)) (ex_pick1 rfl hE rfl hb16 rfl) ?_
                      intro a hE
                      obtain rfl := Option.some.inj hg4
                      exact s_nil ⟨hE.cut ⟨rfl, trivial⟩, hp⟩
                    ·
                      replace hg4 := (ie hb16).symm.trans hg4
                      refine s_val (wk1 hE rfl rfl rfl hb16) rfl rfl hE hp (v := vp0) (ex_move rfl hE rfl) ?_
                      intro a hE
                      refine s_val (wk1 hE rfl rfl rfl hb16) rfl rfl hE hp (v := (.int .i64 (p0.length : Int))) (ex_len rfl hE rfl (RoSl.len hp0 slty25)) ?_
                      intro a hE
                      refine s_val (wk1 hE rfl rfl rfl hb16) rfl rfl hE hp (v := (.bool (decide (0 < (p0.length : Int))))) (ex_gtr rfl hE rfl rfl) ?_
                      intro a hE
                      refine s_val (wk1 hE rfl rfl rfl hb16) rfl rfl hE hp (v := (.bool (decide (0 < (p0.length : Int))))) (ex_move rfl hE rfl) ?_
                      intro a hE
                      obtain ⟨m5, hg5, hg4⟩ := bnd hg4
                      refine s_cut [_, _, _, _, _, _, _, _, _, _, _, _, _, _, _, _, _, _, _, _, _] (fun a w => Env 119 [(117, (.bool m5)), (92, (.bool ((decide ((p0.length : Int) = 0)) && (decide ((x2.1.length : Int) = 0)))))] a ∧ Hp Z ρ (OwnSl 48 v1 x2.1 :: L) w) ?_ ?_
                      · rcases Bool.eq_false_or_eq_true (decide (0 < (p0.length : Int))) with hb17 | hb17
                        ·
                          replace hg5 := (it hb17).symm.trans hg5
                          refine s_val (wk1 hE rfl rfl rfl hb17) rfl rfl hE hp (v := vp0) (ex_move rfl hE rfl) ?_
                          intro a hE
                          refine s_val (wk1 hE rfl rfl rfl hb17) rfl rfl hE hp (v := (.int .i64 (p0.length : Int))) (ex_len rfl hE rfl (RoSl.len hp0 slty25)) ?_
                          intro a hE
                          refine s_val (wk1 hE rfl rfl rfl hb17) rfl rfl hE hp (v := (.int .i64 p1)) (ex_move rfl hE rfl) ?_
                          intro a hE
                          refine s_val (wk1 hE rfl rfl rfl hb17) rfl rfl hE hp (v := (.bool (decide ((p0.length : Int) < p1)))) (ex_lss rfl hE rfl rfl) ?_
                          intro a hE
                          refine s_val (wk1 hE rfl rfl rfl hb17) rfl rfl hE hp (v := (.bool (decide ((p0.length : Int) < p1)))) (ex_move rfl hE rfl) ?_
                          intro a hE
                          obtain ⟨m6, hg6, hg5⟩ := bnd hg5
                          refine s_cut [_, _, _, _, _, _, _, _, _, _, _, _, _, _, _] (fun a w => Env 119 [(116, (.bool m6)), (92, (.bool ((decide ((p0.length : Int) = 0)) && (decide ((x2.1.length : Int) = 0))))), (96, (.bool (decide (0 < (p0.length : Int)))))] a ∧ Hp Z ρ (OwnSl 48 v1 x2.1 :: L) w) ?_ ?_
                          · rcases Bool.eq_false_or_eq_true (decide ((p0.length : Int) < p1)) with hb18 | hb18
                            ·
                              replace hg6 := (it hb18).symm.trans hg6
                              refine s_skip (wk2 hE rfl rfl rfl hb18) rfl rfl hE ?_
                              intro a hE
                              refine s_skip (wk2 hE rfl rfl rfl hb18) rfl rfl hE ?_
                              intro a hE
                              refine s_skip (wk2 hE rfl rfl rfl hb18) rfl rfl hE ?_
                              intro a hE
                              refine s_skip (wk2 hE rfl rfl rfl hb18) rfl rfl hE ?_
                              intro a hE
                              refine s_skip (wk2 hE rfl rfl rfl hb18) rfl rfl hE ?_
                              intro a hE
                              refine s_skip (wk2 hE rfl rfl rfl hb18) rfl rfl hE ?_
                              intro a hE
                              refine s_skip (wk2 hE rfl rfl rfl hb18) rfl rfl hE ?_
                              intro a hE
                              refine s_skip (wk3 hE rfl rfl rfl) rfl rfl hE ?_
                              intro a hE
                              refine s_skip (wk3 hE rfl rfl rfl) rfl rfl hE ?_
                              intro a hE
                              refine s_skip (wk3 hE rfl rfl rfl) rfl rfl hE ?_
                              intro a hE
                              refine s_skip (wk3 hE rfl rfl rfl) rfl rfl hE ?_
                              intro a hE
                              refine s_skip (wk3 hE rfl rfl rfl) rfl rfl hE ?_
                              intro a hE
                              refine s_skip (wk3 hE rfl rfl rfl) rfl rfl hE ?_
                              intro a hE
                              refine s_skip (wk2 hE rfl rfl rfl hb18) rfl rfl hE ?_
                              intro a hE
                              refine s_val (wk1 hE rfl rfl rfl hb17) rfl rfl hE hp (v := (.bool true)) (ex_pick1 rfl hE rfl hb18 rfl) ?_
                              intro a hE
                              obtain rfl := Option.some.inj hg6
                              exact s_nil ⟨hE.cut ⟨rfl, rfl, rfl, trivial⟩, hp⟩
                            ·
                              replace hg6 := (ie hb18).symm.trans hg6
                              refine s_val (wk1 hE rfl rfl rfl hb18) rfl rfl hE hp (v := v1) (ex_move rfl hE rfl) ?_
                              intro a hE
                              obtain ⟨x7, ex7, hg6⟩ := bnd hg6
                              obtain ⟨b5, b5o, b5r, b5v, b5f⟩ := OwnSl.at hp 0 rfl slty28 ex7
                              have b5f : ∀ (j : Nat) (u : Value), ([(.int .i64 x7.hash), (.int .i64 x7.at_)] : List Value)[j]? = some u → ∀ w, Hp Z ρ (OwnSl 48 v1 x2.1 :: L) w → w.cell? ⟨b5, b5o + j, none⟩ = some u := b5f
                              refine s_val (wk1 hE rfl rfl rfl hb18) rfl rfl hE hp (v := (.pointer (some ⟨b5, b5o, none⟩))) (ex_index rfl hE rfl rfl b5r) ?_
                              intro a hE
                              refine s_val (wk1 hE rfl rfl rfl hb18) rfl rfl hE hp (v := (.pointer (some ⟨b5, b5o + 1, none⟩))) (ex_field rfl hE rfl (fldty48_1 _ _)) ?_
                              intro a hE
                              refine s_val (wk1 hE rfl rfl rfl hb18) rfl rfl hE hp (v := (.int .i64 x7.at_)) (ex_load rfl hE rfl (fun w hw => run_ld1 varty3 (b5f 1 _ rfl w hw))) ?_
                              intro a hE
                              refine s_val (wk1 hE rfl rfl rfl hb18) rfl rfl hE hp (v := (.int .i64 p1)) (ex_move rfl hE rfl) ?_
                              intro a hE
                              refine s_val (wk1 hE rfl rfl rfl hb18) rfl rfl hE hp (v := (.bool (decide (x7.at_ < p1)))) (ex_lss rfl hE rfl rfl) ?_
                              intro a hE
                              refine s_val (wk1 hE rfl rfl rfl hb18) rfl rfl hE hp (v := (.bool (decide (x7.at_ < p1)))) (ex_move rfl hE rfl) ?_
                              intro a hE
                              obtain ⟨m7, hg7, hg6⟩ := bnd hg6
                              refine s_cut [_, _, _, _, _, _, _] (fun a w => Env 119 [(115, (.bool m7)), (92, (.bool ((decide ((p0.length : Int) = 0)) && (decide ((x2.1.length : Int) = 0))))), (96, (.bool (decide (0 < (p0.length : Int))))), (101, (.bool (decide ((p0.length : Int) < p1))))] a ∧ Hp Z ρ (OwnSl 48 v1 x2.1 :: L) w) ?_ ?_
                              · rcases Bool.eq_false_or_eq_true (decide (x7.at_ < p1)) with hb19 | hb19
                                ·
                                  replace hg7 := (it hb19).symm.trans hg7
                                  refine s_val (wk1 hE rfl rfl rfl hb19) rfl rfl hE hp (v := vp0) (ex_move rfl hE rfl) ?_
                                  intro a hE
                                  refine s_val (wk1 hE rfl rfl rfl hb19) rfl rfl hE hp (v := (.int .i64 (p0.length : Int))) (ex_len rfl hE rfl (RoSl.len hp0 slty25)) ?_
                                  intro a hE
                                  refine s_val (wk1 hE rfl rfl rfl hb19) rfl rfl hE hp (v := (.int .i64 b1s)) (ex_move rfl hE rfl) ?_
                                  intro a hE
                                  obtain ⟨x8, ex8, hg7⟩ := bnd hg7
                                  refine s_val (wk1 hE rfl rfl rfl hb19) rfl rfl hE hp (v := (.int .i64 x8)) (ex_sub rfl hE rfl rfl (inK_some ex8)) ?_
                                  intro a hE
                                  refine s_val (wk1 hE rfl rfl rfl hb19) rfl rfl hE hp (v := (.int .i64 p1)) (ex_move rfl hE rfl) ?_
                                  intro a hE
                                  refine s_val (wk1 hE rfl rfl rfl hb19) rfl rfl hE hp (v := (.bool (decide (x8 ≤ p1)))) (ex_leq rfl hE rfl rfl) ?_
                                  intro a hE
                                  refine s_val (wk1 hE rfl rfl rfl hb18) rfl rfl hE hp (v := (.bool (decide (x8 ≤ p1)))) (ex_pick1 rfl hE rfl hb19 rfl) ?_
                                  intro a hE
                                  obtain rfl := Option.some.inj hg7
                                  exact s_nil ⟨hE.cut ⟨rfl, rfl, rfl, rfl, trivial⟩, hp⟩
                                ·
                                  replace hg7 := (ie hb19).symm.trans hg7
                                  refine s_skip (wk2 hE rfl rfl rfl hb19) rfl rfl hE ?_
                                  intro a hE
                                  refine s_skip (wk2 hE rfl rfl rfl hb19) rfl rfl hE ?_
                                  intro a hE
                                  refine s_skip (wk2 hE rfl rfl rfl hb19) rfl rfl hE ?_
                                  intro a hE
                                  refine s_skip (wk2 hE rfl rfl rfl hb19) rfl rfl hE ?_
                                  intro a hE
                                  refine s_skip (wk2 hE rfl rfl rfl hb19) rfl rfl hE ?_
                                  intro a hE
                                  refine s_skip (wk2 hE rfl rfl rfl hb19) rfl rfl hE ?_
                                  intro a hE
                                  refine s_val (wk1 hE rfl rfl rfl hb18) rfl rfl hE hp (v := (.bool false)) (ex_pick0 rfl hE rfl hb19 rfl) ?_
                                  intro a hE
                                  obtain rfl := Option.some.inj hg7
                                  exact s_nil ⟨hE.cut ⟨rfl, rfl, rfl, rfl, trivial⟩, hp⟩
                              · rintro a w ⟨hE, hp⟩
                                refine s_val (wk1 hE rfl rfl rfl hb17) rfl rfl hE hp (v := (.bool m7)) (ex_pick0 rfl hE rfl hb18 rfl) ?_
                                intro a hE
                                obtain rfl := Option.some.inj hg6
                                exact s_nil ⟨hE.cut ⟨rfl, rfl, rfl, trivial⟩, hp⟩
                          · rintro a w ⟨hE, hp⟩
                            refine s_val (wk1 hE rfl rfl rfl hb16) rfl rfl hE hp (v := (.bool m6)) (ex_pick1 rfl hE rfl hb17 rfl) ?_
                            intro a hE
                            obtain rfl := Option.some.inj hg5
                            exact s_nil ⟨hE.cut ⟨rfl, rfl, trivial⟩, hp⟩
                        ·
                          replace hg5 := (ie hb17).symm.trans hg5
                          refine s_skip (wk2 hE rfl rfl rfl hb17) rfl rfl hE ?_
                          intro a hE
                          refine s_skip (wk2 hE rfl rfl rfl hb17) rfl rfl hE ?_
                          intro a hE
                          refine s_skip (wk2 hE rfl rfl rfl hb17) rfl rfl hE ?_
                          intro a hE
                          refine s_skip (wk2 hE rfl rfl rfl hb17) rfl rfl hE ?_
                          intro a hE
                          refine s_skip (wk2 hE rfl rfl rfl hb17) rfl rfl hE ?_
                          intro a hE
                          refine s_skip (wk3 hE rfl rfl rfl) rfl rfl hE ?_
                          intro a hE
                          refine s_skip (wk3 hE rfl rfl rfl) rfl rfl hE ?_
                          intro a hE
                          refine s_skip (wk3 hE rfl rfl rfl) rfl rfl hE ?_
                          intro a hE
                          refine s_skip (wk3 hE rfl rfl rfl) rfl rfl hE ?_
                          intro a hE
                          refine s_skip (wk3 hE rfl rfl rfl) rfl rfl hE ?_
                          intro a hE
                          refine s_skip (wk3 hE rfl rfl rfl) rfl rfl hE ?_
                          intro a hE
                          refine s_skip (wk3 hE rfl rfl rfl) rfl rfl hE ?_
                          intro a hE
                          refine s_skip (wk3 hE rfl rfl rfl) rfl rfl hE ?_
                          intro a hE
                          refine s_skip (wk3 hE rfl rfl rfl) rfl rfl hE ?_
                          intro a hE
                          refine s_skip (wk3 hE rfl rfl rfl) rfl rfl hE ?_
                          intro a hE
                          refine s_skip (wk3 hE rfl rfl rfl) rfl rfl hE ?_
                          intro a hE
                          refine s_skip (wk3 hE rfl rfl rfl) rfl rfl hE ?_
                          intro a hE
                          refine s_skip (wk3 hE rfl rfl rfl) rfl rfl hE ?_
                          intro a hE
                          refine s_skip (wk3 hE rfl rfl rfl) rfl rfl hE ?_
                          intro a hE
                          refine s_skip (wk2 hE rfl rfl rfl hb17) rfl rfl hE ?_
                          intro a hE
                          refine s_val (wk1 hE rfl rfl rfl hb16) rfl rfl hE hp (v := (.bool false)) (ex_pick0 rfl hE rfl hb17 rfl) ?_
                          intro a hE
                          obtain rfl := Option.some.inj hg5
                          exact s_nil ⟨hE.cut ⟨rfl, rfl, trivial⟩, hp⟩
                      · rintro a w ⟨hE, hp⟩
                        refine s_val (wk0 rfl) rfl rfl hE hp (v := (.bool m5)) (ex_pick0 rfl hE rfl hb16 rfl) ?_
                        intro a hE
                        obtain rfl := Option.some.inj hg4
                        exact s_nil ⟨hE.cut ⟨rfl, trivial⟩, hp⟩
                  · rintro a w ⟨hE, hp⟩
                    refine s_val (wk0 rfl) rfl rfl hE hp (v := (.bool m4)) (ex_asn rfl hE rfl) ?_
                    intro a hE
                    refine s_nil ?_
                    refine k_ret ?_
                    obtain rfl := Option.some.inj hm
                    exact ret1 hE rfl rfl ⟨_, rfl, rfl, (hp.drop)⟩
end Go.Proofs.YtlnhijgieblmgaaDoor

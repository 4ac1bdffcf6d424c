/-
  The code goes as its model: assessor/assessorlaw44.SimilarityCounts. (Printed by wip/sp/gen.py.)
-/
import Derived.Test.YtmfepkadggigpaaWCM
import Derived.Test.YtmfepkadggigpaaFct
import Derived.Test.YtmfepkadggigpaaWS
set_option linter.unusedVariables false
set_option linter.unusedSimpArgs false
namespace Go.Proofs.Ytmfepkadggigpaa
open Go.RowKit

/- assessor/assessorlaw44.SimilarityCounts -/
set_option maxRecDepth 100000 in
set_option maxHeartbeats 4000000 in
theorem c_assessorlaw44_SimilarityCounts {Z : World} {ρ : PH} {L : List Atom} {w : World} (p0 : (List (List Mark))) (vp0 : Value) (hp0 : RoSl ρ vp0 p0) (p1 : (List Int)) (vp1 : Value) (hp1 : RoSl ρ vp1 p1) (p2 : Int) (hp : Hp Z ρ (L) w) (r : Bool) (hm : m_assessorlaw44_SimilarityCounts p0 p1 p2 = some r) :
    Calls Try.prog 3 #[vp0, vp1, (.int .i64 p2)] w (Ret fun v w' => v = (.bool r) ∧ Hp Z ρ (L) w') := by
  refine enter (N := 82) Try.func3 rfl rfl [(0, vp0), (1, vp1), (2, (.int .i64 p2))] rfl (argsIn_mem ⟨rfl, rfl, rfl, trivial⟩) fun a hE => ?_
  unfold m_assessorlaw44_SimilarityCounts at hm
  refine k_seq ?_
  refine k_region ?_
  refine s_val (wk0 rfl) rfl rfl hE hp (v := (.bool false)) (ex_asn rfl hE rfl) ?_
  intro a hE
  refine s_nil ?_
  refine k_seq ?_
  refine k_seq ?_
  refine k_region ?_
  obtain ⟨x1, ex1, hm⟩ := bnd hm
  refine s_call (wk0 rfl) rfl rfl hE rfl [] trivial ent10 (c_assessorlaw44_awake  hp x1 ex1) Ret.ret ?_
  intro v a w hR hE
  obtain ⟨rfl, hp⟩ := Ret.of hR
  have hp : Hp Z ρ (L) w := hp
  refine s_val (wk0 rfl) rfl rfl hE hp (v := (.bool (!x1))) (ex_not rfl hE rfl) ?_
  intro a hE
  refine s_nil ?_
  refine k_if hE rfl (fun hb1 => ?_) (fun hb1 => ?_)
  · replace hm := (it hb1).symm.trans hm
    refine k_seq ?_
    refine k_region ?_
    refine s_val (wk0 rfl) rfl rfl hE hp (v := (.bool false)) (ex_asn rfl hE rfl) ?_
    intro a hE
    refine s_nil ?_
    refine k_ret ?_
    obtain rfl := Option.some.inj hm
    exact ret1 hE rfl rfl ⟨_, rfl, rfl, hp⟩
  · replace hm := (ie hb1).symm.trans hm
    refine k_skip ?_
    refine k_seq ?_
    refine k_seq ?_
    refine k_region ?_
    refine s_val (wk0 rfl) rfl rfl hE hp (v := vp0) (ex_move rfl hE rfl) ?_
    intro a hE
    obtain ⟨x2, ex2, hm⟩ := bnd hm
    refine s_call (wk0 rfl) rfl rfl hE rfl [vp0, (.int .i64 8), (.int .i64 30)] ⟨rfl, rfl, rfl, trivial⟩ ent11 (c_assessorlaw44_few p0 vp0 hp0 8 30 hp x2 ex2) Ret.ret ?_
    intro v a w hR hE
    obtain ⟨rfl, hp⟩ := Ret.of hR
    have hp : Hp Z ρ (L) w := hp
    refine s_val (wk0 rfl) rfl rfl hE hp (v := (.bool (!x2))) (ex_not rfl hE rfl) ?_
    intro a hE
    refine s_val (wk0 rfl) rfl rfl hE hp (v := (.bool (!x2))) (ex_move rfl hE rfl) ?_
    intro a hE
    refine s_cut [_, _, _, _] (fun a w => Env 82 [(24, (.bool ((!x2) || (decide (20 < (p1.length : Int)))))), (0, vp0), (1, vp1), (2, (.int .i64 p2))] a ∧ Hp Z ρ (L) w) ?_ ?_
    · rcases Bool.eq_false_or_eq_true (!x2) with hb2 | hb2
      ·
        refine s_skip (wk2 hE rfl rfl rfl hb2) rfl rfl hE ?_
        intro a hE
        refine s_skip (wk2 hE rfl rfl rfl hb2) rfl rfl hE ?_
        intro a hE
        refine s_skip (wk2 hE rfl rfl rfl hb2) rfl rfl hE ?_
        intro a hE
        refine s_val (wk0 rfl) rfl rfl hE hp (v := (.bool true)) (ex_pick1 rfl hE rfl hb2 rfl) ?_
        intro a hE
        have hE := hE.eqv (v' := (.bool ((!x2) || (decide (20 < (p1.length : Int)))))) (by rw [hb2]; rfl)
        exact s_nil ⟨hE.cut ⟨rfl, rfl, rfl, rfl, trivial⟩, hp⟩
      ·
        refine s_val (wk1 hE rfl rfl rfl hb2) rfl rfl hE hp (v := vp1) (ex_move rfl hE rfl) ?_
        intro a hE
        refine s_val (wk1 hE rfl rfl rfl hb2) rfl rfl hE hp (v := (.int .i64 (p1.length : Int))) (ex_len rfl hE rfl (RoSl.len hp1 slty23)) ?_
        intro a hE
        refine s_val (wk1 hE rfl rfl rfl hb2) rfl rfl hE hp (v := (.bool (decide (20 < (p1.length : Int))))) (ex_gtr rfl hE rfl rfl) ?_
        intro a hE
        refine s_val (wk0 rfl) rfl rfl hE hp (v := (.bool (decide (20 < (p1.length : Int))))) (ex_pick0 rfl hE rfl hb2 rfl) ?_
        intro a hE
        have hE := hE.eqv (v' := (.bool ((!x2) || (decide (20 < (p1.length : Int)))))) (by rw [hb2]; rfl)
        exact s_nil ⟨hE.cut ⟨rfl, rfl, rfl, rfl, trivial⟩, hp⟩
    · rintro a w ⟨hE, hp⟩
      refine s_nil ?_
      refine k_if hE rfl (fun hb3 => ?_) (fun hb3 => ?_)
      · replace hm := (it hb3).symm.trans hm
        refine k_seq ?_
        refine k_region ?_
        refine s_val (wk0 rfl) rfl rfl hE hp (v := (.bool true)) (ex_asn rfl hE rfl) ?_
        intro a hE
        refine s_nil ?_
        refine k_ret ?_
        obtain rfl := Option.some.inj hm
        exact ret1 hE rfl rfl ⟨_, rfl, rfl, hp⟩
      · replace hm := (ie hb3).symm.trans hm
        refine k_skip ?_
        refine k_seq ?_
        refine k_seq ?_
        refine k_region ?_
        refine s_val (wk0 rfl) rfl rfl hE hp (v := vp0) (ex_move rfl hE rfl) ?_
        intro a hE
        refine s_val (wk0 rfl) rfl rfl hE hp (v := (.int .i64 (p0.length : Int))) (ex_len rfl hE rfl (RoSl.len hp0 slty22)) ?_
        intro a hE
        refine s_val (wk0 rfl) rfl rfl hE hp (v := (.int .i64 0)) (ex_move rfl hE rfl) ?_
        intro a hE
        refine s_nil ?_
        obtain ⟨b1, hb4, hm⟩ := bnd hm
        refine k_block (fun a w => ∃ s : Unit, b1 = .brk s ∧ (Env 82 [(0, vp0), (2, (.int .i64 p2))] a ∧ Hp Z ρ (L) w)) ?_ ?_
        · refine k_loop hb4 (fun s a w => Env 82 [(0, vp0), (1, vp1), (2, (.int .i64 p2)), (25, vp0), (26, (.int .i64 (p0.length : Int))), (27, (.int .i64 s))] a ∧ Hp Z ρ (L) w) ?_ ?_
          · exact ⟨hE.cut ⟨rfl, rfl, rfl, rfl, rfl, rfl, trivial⟩, hp⟩
          · rintro lp1_0 st a w ⟨hE, hp⟩ hl1
            have hE : Env 82 [(0, vp0), (1, vp1), (2, (.int .i64 p2)), (25, vp0), (26, (.int .i64 (p0.length : Int))), (27, (.int .i64 lp1_0))] a := hE
            have hp : Hp Z ρ (L) w := hp
            replace hl1 : m_assessorlaw44_SimilarityCounts_lp1 p0 p1 lp1_0 = some st := hl1
            unfold m_assessorlaw44_SimilarityCounts_lp1 at hl1
            refine k_seq ?_
            refine k_region ?_
            refine s_val (wk0 rfl) rfl rfl hE hp (v := (.bool (decide (lp1_0 < (p0.length : Int))))) (ex_lss rfl hE rfl rfl) ?_
            intro a hE
            refine s_nil ?_
            refine k_seq ?_
            refine k_if hE rfl (fun hb5 => ?_) (fun hb5 => ?_)
            · replace hl1 := (it hb5).symm.trans hl1
              refine k_skip ?_
              refine k_seq ?_
              refine k_plain ?_
              refine k_seq ?_
              refine k_region ?_
              obtain ⟨x3, ex3, hl1⟩ := bnd hl1
              obtain ⟨b2, b2o, b2c, b2r, b2k, b2f⟩ := RoSl.at hp0 slty22 ex3
              obtain ⟨vb2, rfl, hb2⟩ := b2k
              have b2f : AtP ρ b2 b2o [vb2] := b2f
              refine s_val (wk0 rfl) rfl rfl hE hp (v := (.pointer (some ⟨b2, b2o, none⟩))) (ex_index rfl hE rfl rfl b2r) ?_
              intro a hE
              refine s_val (wk0 rfl) rfl rfl hE hp (v := vb2) (ex_load rfl hE rfl (fun w hw => run_ld1 varty26 (b2f.c 0 rfl w hw))) ?_
              intro a hE
              refine s_val (wk0 rfl) rfl rfl hE hp (v := vb2) (ex_asn rfl hE rfl) ?_
              intro a hE
              refine s_nil ?_
              refine k_seq ?_
              refine k_seq ?_
              refine k_region ?_
              refine s_val (wk0 rfl) rfl rfl hE hp (v := vb2) (ex_move rfl hE rfl) ?_
              intro a hE
              obtain ⟨x4, ex4, hl1⟩ := bnd hl1
              refine s_call (wk0 rfl) rfl rfl hE rfl [vb2] ⟨rfl, trivial⟩ ent13 (c_similarity_Hashes x3 vb2 hb2 hp x4 ex4) Ret.ret ?_
              intro vr3 a w hR hE
              obtain ⟨u, rfl, hp⟩ := Ret.of hR
              have hp : Hp Z ρ (OwnSl 3 vr3 x4 :: L) w := hp
              refine s_val (wk0 rfl) rfl rfl hE hp (v := vb2) (ex_move rfl hE rfl) ?_
              intro a hE
              obtain ⟨x5, ex5, hl1⟩ := bnd hl1
              refine s_call (wk0 rfl) rfl rfl hE rfl [vb2] ⟨rfl, trivial⟩ ent14 (c_assessorref44_Hashes x3 vb2 hb2 hp x5 ex5) Ret.ret ?_
              intro vr4 a w hR hE
              obtain ⟨u, rfl, hp⟩ := Ret.of hR
              have hp : Hp Z ρ (OwnSl 3 vr4 x5 :: _ :: L) w := hp
              obtain ⟨k1, k1a, k1d, k1h⟩ := (hp.get 1 rfl).lend
              obtain ⟨k2, k2a, k2d, k2h⟩ := (k1h.get 0 rfl).lend
              obtain ⟨x6, ex6, hl1⟩ := bnd hl1
              refine s_call (wk0 rfl) rfl rfl hE rfl [vr3, vr4] ⟨rfl, rfl, trivial⟩ ent12 (c_assessorref35_Same x4 vr3 (RoSl.mono (OwnSl.ro k1d k1a) (PH.le_un _ _)) x5 vr4 (OwnSl.ro k2d k2a) k2h x6 ex6) Ret.ret ?_
              intro v a w hR hE
              obtain ⟨rfl, hp⟩ := Ret.of hR
              have hp := Hp.back k2a k2d hp
              have hp := Hp.back k1a k1d hp
              have hp : Hp Z ρ (_ :: _ :: L) w := hp
              refine s_val (wk0 rfl) rfl rfl hE hp (v := (.bool (!x6))) (ex_not rfl hE rfl) ?_
              intro a hE
              refine s_val (wk0 rfl) rfl rfl hE hp (v := (.bool (!x6))) (ex_move rfl hE rfl) ?_
              intro a hE
              obtain ⟨m1, hg1, hl1⟩ := bnd hl1
              refine s_cut [_, _, _, _, _, _, _, _, _] (fun a w => Env 82 [(46, (.bool m1)), (0, vp0), (1, vp1), (2, (.int .i64 p2)), (8, vb2), (25, vp0), (26, (.int .i64 (p0.length : Int))), (27, (.int .i64 lp1_0))] a ∧ Hp Z ρ (OwnSl 3 vr3 x4 :: OwnSl 3 vr4 x5 :: L) w) ?_ ?_
              · rcases Bool.eq_false_or_eq_true (!x6) with hb6 | hb6
                ·
                  replace hg1 := (it hb6).symm.trans hg1
                  refine s_skip (wk2 hE rfl rfl rfl hb6) rfl rfl hE ?_
                  intro a hE
                  refine s_skip (wk2 hE rfl rfl rfl hb6) rfl rfl hE ?_
                  intro a hE
                  refine s_skip (wk2 hE rfl rfl rfl hb6) rfl rfl hE ?_
                  intro a hE
                  refine s_skip (wk2 hE rfl rfl rfl hb6) rfl rfl hE ?_
                  intro a hE
                  refine s_skip (wk2 hE rfl rfl rfl hb6) rfl rfl hE ?_
                  intro a hE
                  refine s_skip (wk2 hE rfl rfl rfl hb6) rfl rfl hE ?_
                  intro a hE
                  refine s_skip (wk2 hE rfl rfl rfl hb6) rfl rfl hE ?_
                  intro a hE
                  refine s_skip (wk2 hE rfl rfl rfl hb6) rfl rfl hE ?_
                  intro a hE
                  refine s_val (wk0 rfl) rfl rfl hE hp (v := (.bool true)) (ex_pick1 rfl hE rfl hb6 rfl) ?_
                  intro a hE
                  obtain rfl := Option.some.inj hg1
                  exact s_nil ⟨hE.cut ⟨rfl, rfl, rfl, rfl, rfl, rfl, rfl, rfl, trivial⟩, hp⟩
                ·
                  replace hg1 := (ie hb6).symm.trans hg1
                  refine s_val (wk1 hE rfl rfl rfl hb6) rfl rfl hE hp (v := vb2) (ex_move rfl hE rfl) ?_
                  intro a hE
                  refine s_val (wk1 hE rfl rfl rfl hb6) rfl rfl hE hp (v := vp1) (ex_move rfl hE rfl) ?_
                  intro a hE
                  obtain ⟨x7, ex7, hg1⟩ := bnd hg1
                  refine s_call (wk1 hE rfl rfl rfl hb6) rfl rfl hE rfl [vb2, vp1] ⟨rfl, rfl, trivial⟩ ent16 (c_similarity_Without x3 vb2 hb2 p1 vp1 hp1 hp x7 ex7) Ret.ret ?_
                  intro vr6 a w hR hE
                  obtain ⟨u, rfl, hp⟩ := Ret.of hR
                  have hp : Hp Z ρ (OwnSl 65 vr6 x7 :: _ :: _ :: L) w := hp
                  refine s_val (wk1 hE rfl rfl rfl hb6) rfl rfl hE hp (v := vb2) (ex_move rfl hE rfl) ?_
                  intro a hE
                  refine s_val (wk1 hE rfl rfl rfl hb6) rfl rfl hE hp (v := vp1) (ex_move rfl hE rfl) ?_
                  intro a hE
                  obtain ⟨x8, ex8, hg1⟩ := bnd hg1
                  refine s_call (wk1 hE rfl rfl rfl hb6) rfl rfl hE rfl [vb2, vp1] ⟨rfl, rfl, trivial⟩ ent17 (c_assessorref44_Without x3 vb2 hb2 p1 vp1 hp1 hp x8 ex8) Ret.ret ?_
                  intro vr7 a w hR hE
                  obtain ⟨u, rfl, hp⟩ := Ret.of hR
                  have hp : Hp Z ρ (OwnSl 65 vr7 x8 :: _ :: _ :: _ :: L) w := hp
                  obtain ⟨k3, k3a, k3d, k3h⟩ := (hp.get 1 rfl).lend
                  obtain ⟨k4, k4a, k4d, k4h⟩ := (k3h.get 0 rfl).lend
                  obtain ⟨x9, ex9, hg1⟩ := bnd hg1
                  refine s_call (wk1 hE rfl rfl rfl hb6) rfl rfl hE rfl [vr6, vr7] ⟨rfl, rfl, trivial⟩ ent15 (c_assessorref43_Same x7 vr6 (RoSl.mono (OwnSl.ro k3d k3a) (PH.le_un _ _)) x8 vr7 (OwnSl.ro k4d k4a) k4h x9 ex9) Ret.ret ?_
                  intro v a w hR hE
                  obtain ⟨rfl, hp⟩ := Ret.of hR
                  have hp := Hp.back k4a k4d hp
                  have hp := Hp.back k3a k3d hp
                  have hp : Hp Z ρ (_ :: _ :: _ :: _ :: L) w := hp
                  refine s_val (wk1 hE rfl rfl rfl hb6) rfl rfl hE hp (v := (.bool (!x9))) (ex_not rfl hE rfl) ?_
                  intro a hE
                  refine s_val (wk0 rfl) rfl rfl hE hp (v := (.bool (!x9))) (ex_pick0 rfl hE rfl hb6 rfl) ?_
                  intro a hE
                  obtain rfl := Option.some.inj hg1
                  exact s_nil ⟨hE.cut ⟨rfl, rfl, rfl, rfl, rfl, rfl, rfl, rfl, trivial⟩, (((hp.get 1 rfl).drop).drop)⟩
              · rintro a w ⟨hE, hp⟩
                refine s_nil ?_
                refine k_if hE rfl (fun hb7 => ?_) (fun hb7 => ?_)
                · replace hl1 := (it hb7).symm.trans hl1
                  refine k_seq ?_
                  refine k_region ?_
                  refine s_val (wk0 rfl) rfl rfl hE hp (v := (.bool false)) (ex_asn rfl hE rfl) ?_
                  intro a hE
                  refine s_nil ?_
                  refine k_ret ?_
                  refine ⟨_, (Option.some.inj hl1).symm, fun hb => ?_⟩
                  subst hb
                  obtain rfl := Option.some.inj hm
                  exact ret1 hE rfl rfl ⟨_, rfl, rfl, (((hp.get 1 rfl).drop).drop)⟩
                · replace hl1 := (ie hb7).symm.trans hl1
                  refine k_skip ?_
                  refine k_seq ?_
                  refine k_region ?_
                  refine s_val (wk0 rfl) rfl rfl hE hp (v := vp0) (ex_move rfl hE rfl) ?_
                  intro a hE
                  refine s_val (wk0 rfl) rfl rfl hE hp (v := (.int .i64 (p0.length : Int))) (ex_len rfl hE rfl (RoSl.len hp0 slty22)) ?_
                  intro a hE
                  refine s_val (wk0 rfl) rfl rfl hE hp (v := (.int .i64 0)) (ex_move rfl hE rfl) ?_
                  intro a hE
                  refine s_nil ?_
                  obtain ⟨b3, hb8, hl1⟩ := bnd hl1
                  refine k_block (fun a w => ∃ s : Unit, b3 = .brk s ∧ (Env 82 [(0, vp0), (1, vp1), (2, (.int .i64 p2)), (25, vp0), (26, (.int .i64 (p0.length : Int))), (27, (.int .i64 lp1_0))] a ∧ Hp Z ρ (OwnSl 3 vr3 x4 :: OwnSl 3 vr4 x5 :: L) w)) ?_ ?_
                  · refine k_loop hb8 (fun s a w => Env 82 [(0, vp0), (1, vp1), (2, (.int .i64 p2)), (8, vb2), (25, vp0), (26, (.int .i64 (p0.length : Int))), (27, (.int .i64 lp1_0)), (47, vp0), (48, (.int .i64 (p0.length : Int))), (49, (.int .i64 s))] a ∧ Hp Z ρ (OwnSl 3 vr3 x4 :: OwnSl 3 vr4 x5 :: L) w) ?_ ?_
                    · exact ⟨hE.cut ⟨rfl, rfl, rfl, rfl, rfl, rfl, rfl, rfl, rfl, rfl, trivial⟩, hp⟩
                    · rintro lp2_0 st a w ⟨hE, hp⟩ hl2
                      have hE : Env 82 [(0, vp0), (1, vp1), (2, (.int .i64 p2)), (8, vb2), (25, vp0), (26, (.int .i64 (p0.length : Int))), (27, (.int .i64 lp1_0)), (47, vp0), (48, (.int .i64 (p0.length : Int))), (49, (.int .i64 lp2_0))] a := hE
                      have hp : Hp Z ρ (_ :: _ :: L) w := hp
                      replace hl2 : m_assessorlaw44_SimilarityCounts_lp2 p0 x3 lp2_0 = some st := hl2
                      unfold m_assessorlaw44_SimilarityCounts_lp2 at hl2
                      refine k_seq ?_
                      refine k_region ?_
                      refine s_val (wk0 rfl) rfl rfl hE hp (v := (.bool (decide (lp2_0 < (p0.length : Int))))) (ex_lss rfl hE rfl rfl) ?_
                      intro a hE
                      refine s_nil ?_
                      refine k_seq ?_
                      refine k_if hE rfl (fun hb9 => ?_) (fun hb9 => ?_)
                      · replace hl2 := (it hb9).symm.trans hl2
                        refine k_skip ?_
                        refine k_seq ?_
                        refine k_plain ?_
                        refine k_seq ?_
                        refine k_region ?_
                        obtain ⟨x10, ex10, hl2⟩ := bnd hl2
                        obtain ⟨b4, b4o, b4c, b4r, b4k, b4f⟩ := RoSl.at hp0 slty22 ex10
                        obtain ⟨vb4, rfl, hb4⟩ := b4k
                        have b4f : AtP ρ b4 b4o [vb4] := b4f
                        refine s_val (wk0 rfl) rfl rfl hE hp (v := (.pointer (some ⟨b4, b4o, none⟩))) (ex_index rfl hE rfl rfl b4r) ?_
                        intro a hE
                        refine s_val (wk0 rfl) rfl rfl hE hp (v := vb4) (ex_load rfl hE rfl (fun w hw => run_ld1 varty26 (b4f.c 0 rfl w hw))) ?_
                        intro a hE
                        refine s_val (wk0 rfl) rfl rfl hE hp (v := vb4) (ex_asn rfl hE rfl) ?_
                        intro a hE
                        refine s_nil ?_
                        refine k_seq ?_
                        refine k_region ?_
                        refine s_val (wk0 rfl) rfl rfl hE hp (v := vb2) (ex_move rfl hE rfl) ?_
                        intro a hE
                        refine s_val (wk0 rfl) rfl rfl hE hp (v := vb4) (ex_move rfl hE rfl) ?_
                        intro a hE
                        obtain ⟨x11, ex11, hl2⟩ := bnd hl2
                        refine s_call (wk0 rfl) rfl rfl hE rfl [vb2, vb4] ⟨rfl, rfl, trivial⟩ ent18 (c_similarity_Compare x3 vb2 hb2 x10 vb4 hb4 hp x11 ex11) Ret.ret ?_
                        intro v a w hR hE
                        obtain ⟨rfl, hp⟩ := Ret.of hR
                        have hp : Hp Z ρ (_ :: _ :: L) w := hp
                        refine s_val (wk0 rfl) rfl rfl hE hp (v := (.tuple #[(.int .i64 x11.1), (.int .i64 x11.2)])) (ex_move rfl hE rfl) ?_
                        intro a hE
                        refine s_val (wk0 rfl) rfl rfl hE hp (v := (.int .i64 x11.1)) (ex_extract rfl hE rfl rfl) ?_
                        intro a hE
                        refine s_val (wk0 rfl) rfl rfl hE hp (v := (.int .i64 x11.2)) (ex_extract rfl hE rfl rfl) ?_
                        intro a hE
                        refine s_val (wk0 rfl) rfl rfl hE hp (v := (.int .i64 x11.1)) (ex_asn rfl hE rfl) ?_
                        intro a hE
                        refine s_val (wk0 rfl) rfl rfl hE hp (v := (.int .i64 x11.2)) (ex_asn rfl hE rfl) ?_
                        intro a hE
                        refine s_nil ?_
                        have hE := hE.cut (E' := [(0, vp0), (1, vp1), (2, (.int .i64 p2)), (8, vb2), (10, vb4), (11, (.int .i64 x11.1)), (12, (.int .i64 x11.2)), (25, vp0), (26, (.int .i64 (p0.length : Int))), (27, (.int .i64 lp1_0)), (47, vp0), (48, (.int .i64 (p0.length : Int))), (49, (.int .i64 lp2_0))]) ⟨rfl, rfl, rfl, rfl, rfl, rfl, rfl, rfl, rfl, rfl, rfl, rfl, rfl, trivial⟩
                        refine k_seq ?_
                        refine k_region ?_
                        refine s_val (wk0 rfl) rfl rfl hE hp (v := vb2) (ex_move rfl hE rfl) ?_
                        intro a hE
                        refine s_val (wk0 rfl) rfl rfl hE hp (v := vb4) (ex_move rfl hE rfl) ?_
                        intro a hE
                        obtain ⟨x12, ex12, hl2⟩ := bnd hl2
                        refine s_call (wk0 rfl) rfl rfl hE rfl [vb2, vb4] ⟨rfl, rfl, trivial⟩ ent19 (c_assessorref44_Compare x3 vb2 hb2 x10 vb4 hb4 hp x12 ex12) Ret.ret ?_
                        intro v a w hR hE
                        obtain ⟨rfl, hp⟩ := Ret.of hR
                        have hp : Hp Z ρ (_ :: _ :: L) w := hp
                        refine s_val (wk0 rfl) rfl rfl hE hp (v := (.tuple #[(.int .i64 x12.1), (.int .i64 x12.2)])) (ex_move rfl hE rfl) ?_
                        intro a hE
                        refine s_val (wk0 rfl) rfl rfl hE hp (v := (.int .i64 x12.1)) (ex_extract rfl hE rfl rfl) ?_
                        intro a hE
                        refine s_val (wk0 rfl) rfl rfl hE hp (v := (.int .i64 x12.2)) (ex_extract rfl hE rfl rfl) ?_
                        intro a hE
                        refine s_val (wk0 rfl) rfl rfl hE hp (v := (.int .i64 x12.1)) (ex_asn rfl hE rfl) ?_
                        intro a hE
                        refine s_val (wk0 rfl) rfl rfl hE hp (v := (.int .i64 x12.2)) (ex_asn rfl hE rfl) ?_
                        intro a hE
                        refine s_nil ?_
                        refine k_seq ?_
                        refine k_region ?_
                        refine s_val (wk0 rfl) rfl rfl hE hp (v := (.int .i64 x11.1)) (ex_move rfl hE rfl) ?_
                        intro a hE
                        refine s_val (wk0 rfl) rfl rfl hE hp (v := (.int .i64 x12.1)) (ex_move rfl hE rfl) ?_
                        intro a hE
                        refine s_val (wk0 rfl) rfl rfl hE hp (v := (.bool (!decide (x11.1 = x12.1)))) (ex_neq rfl hE rfl rfl) ?_
                        intro a hE
                        refine s_val (wk0 rfl) rfl rfl hE hp (v := (.bool (!decide (x11.1 = x12.1)))) (ex_move rfl hE rfl) ?_
                        intro a hE
                        refine s_cut [_, _, _, _] (fun a w => Env 82 [(72, (.bool ((!decide (x11.1 = x12.1)) || (!decide (x11.2 = x12.2))))), (0, vp0), (1, vp1), (2, (.int .i64 p2)), (8, vb2), (25, vp0), (26, (.int .i64 (p0.length : Int))), (27, (.int .i64 lp1_0)), (47, vp0), (48, (.int .i64 (p0.length : Int))), (49, (.int .i64 lp2_0))] a ∧ Hp Z ρ (OwnSl 3 vr3 x4 :: OwnSl 3 vr4 x5 :: L) w) ?_ ?_
                        · rcases Bool.eq_false_or_eq_true (!decide (x11.1 = x12.1)) with hb10 | hb10
                          ·
                            refine s_skip (wk2 hE rfl rfl rfl hb10) rfl rfl hE ?_
                            intro a hE
                            refine s_skip (wk2 hE rfl rfl rfl hb10) rfl rfl hE ?_
                            intro a hE
                            refine s_skip (wk2 hE rfl rfl rfl hb10) rfl rfl hE ?_
                            intro a hE
                            refine s_val (wk0 rfl) rfl rfl hE hp (v := (.bool true)) (ex_pick1 rfl hE rfl hb10 rfl) ?_
                            intro a hE
                            have hE := hE.eqv (v' := (.bool ((!decide (x11.1 = x12.1)) || (!decide (x11.2 = x12.2))))) (by rw [hb10]; rfl)
                            exact s_nil ⟨hE.cut ⟨rfl, rfl, rfl, rfl, rfl, rfl, rfl, rfl, rfl, rfl, rfl, trivial⟩, hp⟩
                          ·
                            refine s_val (wk1 hE rfl rfl rfl hb10) rfl rfl hE hp (v := (.int .i64 x11.2)) (ex_move rfl hE rfl) ?_
                            intro a hE
                            refine s_val (wk1 hE rfl rfl rfl hb10) rfl rfl hE hp (v := (.int .i64 x12.2)) (ex_move rfl hE rfl) ?_
                            intro a hE
                            refine s_val (wk1 hE rfl rfl rfl hb10) rfl rfl hE hp (v := (.bool (!decide (x11.2 = x12.2)))) (ex_neq rfl hE rfl rfl) ?_
                            intro a hE
                            refine s_val (wk0 rfl) rfl rfl hE hp (v := (.bool (!decide (x11.2 = x12.2)))) (ex_pick0 rfl hE rfl hb10 rfl) ?_
                            intro a hE
                            have hE := hE.eqv (v' := (.bool ((!decide (x11.1 = x12.1)) || (!decide (x11.2 = x12.2))))) (by rw [hb10]; rfl)
                            exact s_nil ⟨hE.cut ⟨rfl, rfl, rfl, rfl, rfl, rfl, rfl, rfl, rfl, rfl, rfl, trivial⟩, hp⟩
                        · rintro a w ⟨hE, hp⟩
                          refine s_nil ?_
                          refine k_if hE rfl (fun hb11 => ?_) (fun hb11 => ?_)
                          · replace hl2 := (it hb11).symm.trans hl2
                            refine k_seq ?_
                            refine k_region ?_
                            refine s_val (wk0 rfl) rfl rfl hE hp (v := (.bool false)) (ex_asn rfl hE rfl) ?_
                            intro a hE
                            refine s_nil ?_
                            refine k_ret ?_
                            refine ⟨_, (Option.some.inj hl2).symm, fun hb => ?_⟩
                            subst hb
                            refine ⟨_, (Option.some.inj hl1).symm, fun hb => ?_⟩
                            subst hb
                            obtain rfl := Option.some.inj hm
                            exact ret1 hE rfl rfl ⟨_, rfl, rfl, (((hp.get 1 rfl).drop).drop)⟩
                          · replace hl2 := (ie hb11).symm.trans hl2
                            refine k_skip ?_
                            refine k_region ?_
                            obtain ⟨x13, ex13, hl2⟩ := bnd hl2
                            refine s_val (wk0 rfl) rfl rfl hE hp (v := (.int .i64 x13)) (ex_add rfl hE rfl rfl (inK_some ex13)) ?_
                            intro a hE
                            refine s_val (wk0 rfl) rfl rfl hE hp (v := (.int .i64 x13)) (ex_move rfl hE rfl) ?_
                            intro a hE
                            refine s_nil ?_
                            exact ⟨_, (Option.some.inj hl2).symm, hE.cut ⟨rfl, rfl, rfl, rfl, rfl, rfl, rfl, rfl, rfl, rfl, trivial⟩, hp⟩
                      · replace hl2 := (ie hb9).symm.trans hl2
                        refine k_exit ?_
                        refine ⟨_, (Option.some.inj hl2).symm, fun hbb => ?_⟩
                        exact ⟨_, hbb.symm, hE.cut ⟨rfl, rfl, rfl, rfl, rfl, rfl, trivial⟩, hp⟩
                  · rintro a w ⟨b3s, rfl, hE, hp⟩
                    dsimp only at hl1
                    refine k_region ?_
                    obtain ⟨x14, ex14, hl1⟩ := bnd hl1
                    refine s_val (wk0 rfl) rfl rfl hE hp (v := (.int .i64 x14)) (ex_add rfl hE rfl rfl (inK_some ex14)) ?_
                    intro a hE
                    refine s_val (wk0 rfl) rfl rfl hE hp (v := (.int .i64 x14)) (ex_move rfl hE rfl) ?_
                    intro a hE
                    refine s_nil ?_
                    exact ⟨_, (Option.some.inj hl1).symm, hE.cut ⟨rfl, rfl, rfl, rfl, rfl, rfl, trivial⟩, (((hp.get 1 rfl).drop).drop)⟩
            · replace hl1 := (ie hb5).symm.trans hl1
              refine k_exit ?_
              refine ⟨_, (Option.some.inj hl1).symm, fun hbb => ?_⟩
              exact ⟨_, hbb.symm, hE.cut ⟨rfl, rfl, trivial⟩, hp⟩
        · rintro a w ⟨b1s, rfl, hE, hp⟩
          dsimp only at hm
          refine k_seq ?_
          refine k_region ?_
          refine s_val (wk0 rfl) rfl rfl hE hp (v := (.int .i64 p2)) (ex_move rfl hE rfl) ?_
          intro a hE
          refine s_val (wk0 rfl) rfl rfl hE hp (v := vp0) (ex_move rfl hE rfl) ?_
          intro a hE
          obtain ⟨x15, ex15, hm⟩ := bnd hm
          refine s_call (wk0 rfl) rfl rfl hE rfl [(.int .i64 p2), vp0] ⟨rfl, rfl, trivial⟩ ent20 (c_similarity_Frequent p2 p0 vp0 hp0 hp x15 ex15) Ret.ret ?_
          intro vr13 a w hR hE
          obtain ⟨u, rfl, hp⟩ := Ret.of hR
          have hp : Hp Z ρ (OwnSl 3 vr13 x15 :: L) w := hp
          refine s_val (wk0 rfl) rfl rfl hE hp (v := (.int .i64 p2)) (ex_move rfl hE rfl) ?_
          intro a hE
          refine s_val (wk0 rfl) rfl rfl hE hp (v := vp0) (ex_move rfl hE rfl) ?_
          intro a hE
          obtain ⟨x16, ex16, hm⟩ := bnd hm
          refine s_call (wk0 rfl) rfl rfl hE rfl [(.int .i64 p2), vp0] ⟨rfl, rfl, trivial⟩ ent21 (c_assessorref44_Frequent p2 p0 vp0 hp0 hp x16 ex16) Ret.ret ?_
          intro vr14 a w hR hE
          obtain ⟨u, rfl, hp⟩ := Ret.of hR
          have hp : Hp Z ρ (OwnSl 3 vr14 x16 :: _ :: L) w := hp
          obtain ⟨k5, k5a, k5d, k5h⟩ := (hp.get 1 rfl).lend
          obtain ⟨k6, k6a, k6d, k6h⟩ := (k5h.get 0 rfl).lend
          obtain ⟨x17, ex17, hm⟩ := bnd hm
          refine s_call (wk0 rfl) rfl rfl hE rfl [vr13, vr14] ⟨rfl, rfl, trivial⟩ ent12 (c_assessorref35_Same x15 vr13 (RoSl.mono (OwnSl.ro k5d k5a) (PH.le_un _ _)) x16 vr14 (OwnSl.ro k6d k6a) k6h x17 ex17) Ret.ret ?_
          intro v a w hR hE
          obtain ⟨rfl, hp⟩ := Ret.of hR
          have hp := Hp.back k6a k6d hp
          have hp := Hp.back k5a k5d hp
          have hp : Hp Z ρ (_ :: _ :: L) w := hp
          refine s_val (wk0 rfl) rfl rfl hE hp (v := (.bool x17)) (ex_asn rfl hE rfl) ?_
          intro a hE
          refine s_nil ?_
          refine k_ret ?_
          obtain rfl := Option.some.inj hm
          exact ret1 hE rfl rfl ⟨_, rfl, rfl, (((hp.get 1 rfl).drop).drop)⟩
end Go.Proofs.Ytmfepkadggigpaa

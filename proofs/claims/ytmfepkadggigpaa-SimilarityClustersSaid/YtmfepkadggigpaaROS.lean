/-
  The code goes as its model: assessor/assessorref44.Clusters, assessor/assessorref44.match, assessor/assessorref44.places, assessor/assessorref44.longer, assessor/assessorref44.Overlaps. (Printed by wip/sp/gen.py.)
-/
import Derived.Test.YtmfepkadggigpaaROM
import Derived.Test.YtmfepkadggigpaaFct
import Derived.Test.YtmfepkadggigpaaRS
set_option linter.unusedVariables false
set_option linter.unusedSimpArgs false
namespace Go.Proofs.Ytmfepkadggigpaa
open Go.RowKit

/- assessor/assessorref44.Clusters -/
set_option maxRecDepth 100000 in
set_option maxHeartbeats 4000000 in
theorem c_assessorref44_Clusters {Z : World} {ρ : PH} {L : List Atom} {w : World} (p0 : Int) (p1 : (List Pair)) (vp1 : Value) (hp1 : RoSl ρ vp1 p1) (hp : Hp Z ρ (L) w) (r : ((List (List Int)) × Int)) (hm : m_assessorref44_Clusters p0 p1 = some r) :
    Calls Try.prog 27 #[(.int .i64 p0), vp1] w (Ret fun v w' => ∃ (ρ' : PH) (vr1 : Value), ρ.le ρ' ∧ v = .tuple #[vr1, (.int .i64 r.2)] ∧ RoSl ρ' vr1 r.1 ∧ Hp Z ρ' (L) w') := by
  refine enter (N := 165) Try.func27 rfl rfl [(0, (.int .i64 p0)), (1, vp1)] rfl (argsIn_mem ⟨rfl, rfl, trivial⟩) fun a hE => ?_
  unfold m_assessorref44_Clusters at hm
  refine k_seq ?_
  refine k_region ?_
  refine s_val (wk0 rfl) rfl rfl hE hp (v := (.slice none 0 0)) (ex_asn rfl hE rfl) ?_
  intro a hE
  refine s_val (wk0 rfl) rfl rfl hE hp (v := (.int .i64 0)) (ex_asn rfl hE rfl) ?_
  intro a hE
  refine s_nil ?_
  refine k_seq ?_
  refine k_region ?_
  refine s_lit (wk0 rfl) rfl rfl hE hp rfl [] trivial [] 23 (fun w => by simp [Instr.buildSlice, Instr.fill, Value.cells, go_sem]) ?_
  intro a w b1 hE hp
  have hp : Hp Z ρ (Pt b1 (.cells #[] 23 (0, 0)) :: L) w := hp
  refine s_val (wk0 rfl) rfl rfl hE hp (v := (.slice (some ⟨b1, 0, none⟩) 0 0)) (ex_asn rfl hE rfl) ?_
  intro a hE
  refine s_nil ?_
  refine k_seq ?_
  refine k_seq ?_
  refine k_region ?_
  refine s_val (wk0 rfl) rfl rfl hE hp (v := (.int .i64 p0)) (ex_move rfl hE rfl) ?_
  intro a hE
  refine s_val (wk0 rfl) rfl rfl hE hp (v := (.bool (decide (p0 < 0)))) (ex_lss rfl hE rfl rfl) ?_
  intro a hE
  refine s_val (wk0 rfl) rfl rfl hE hp (v := (.bool (decide (p0 < 0)))) (ex_move rfl hE rfl) ?_
  intro a hE
  refine s_cut [_, _, _] (fun a w => Env 165 [(22, (.bool ((decide (p0 < 0)) || (decide (1024 < p0))))), (0, (.int .i64 p0)), (1, vp1), (6, (.slice (some ⟨b1, 0, none⟩) 0 0))] a ∧ Hp Z ρ (Pt b1 (.cells #[] 23 (0, 0)) :: L) w) ?_ ?_
  · rcases Bool.eq_false_or_eq_true (decide (p0 < 0)) with hb1 | hb1
    ·
      refine s_skip (wk2 hE rfl rfl rfl hb1) rfl rfl hE ?_
      intro a hE
      refine s_skip (wk2 hE rfl rfl rfl hb1) rfl rfl hE ?_
      intro a hE
      refine s_val (wk0 rfl) rfl rfl hE hp (v := (.bool true)) (ex_pick1 rfl hE rfl hb1 rfl) ?_
      intro a hE
      have hE := hE.eqv (v' := (.bool ((decide (p0 < 0)) || (decide (1024 < p0))))) (by rw [hb1]; rfl)
      exact s_nil ⟨hE.cut ⟨rfl, rfl, rfl, rfl, trivial⟩, hp⟩
    ·
      refine s_val (wk1 hE rfl rfl rfl hb1) rfl rfl hE hp (v := (.int .i64 p0)) (ex_move rfl hE rfl) ?_
      intro a hE
      refine s_val (wk1 hE rfl rfl rfl hb1) rfl rfl hE hp (v := (.bool (decide (1024 < p0)))) (ex_gtr rfl hE rfl rfl) ?_
      intro a hE
      refine s_val (wk0 rfl) rfl rfl hE hp (v := (.bool (decide (1024 < p0)))) (ex_pick0 rfl hE rfl hb1 rfl) ?_
      intro a hE
      have hE := hE.eqv (v' := (.bool ((decide (p0 < 0)) || (decide (1024 < p0))))) (by rw [hb1]; rfl)
      exact s_nil ⟨hE.cut ⟨rfl, rfl, rfl, rfl, trivial⟩, hp⟩
  · rintro a w ⟨hE, hp⟩
    refine s_nil ?_
    refine k_if hE rfl (fun hb2 => ?_) (fun hb2 => ?_)
    · replace hm := (it hb2).symm.trans hm
      refine k_seq ?_
      refine k_region ?_
      refine s_val (wk0 rfl) rfl rfl hE hp (v := (.slice (some ⟨b1, 0, none⟩) 0 0)) (ex_move rfl hE rfl) ?_
      intro a hE
      refine s_val (wk0 rfl) rfl rfl hE hp (v := (.slice (some ⟨b1, 0, none⟩) 0 0)) (ex_asn rfl hE rfl) ?_
      intro a hE
      refine s_val (wk0 rfl) rfl rfl hE hp (v := (.int .i64 2)) (ex_asn rfl hE rfl) ?_
      intro a hE
      refine s_nil ?_
      refine k_ret ?_
      obtain ⟨k1, k1a, k1d, hp⟩ := (hp.get 0 rfl).lend
      have f1 : RoSl (ρ.un k1) (.slice (some ⟨b1, 0, none⟩) 0 0) ([] : List (List Int)) := RoSl.of_all (l := (([] : List (List Int)))) k1d k1a rfl
      have hp : Hp Z (ρ.un k1) (L) w := hp
      obtain rfl := Option.some.inj hm
      exact ret2 hE rfl rfl rfl ⟨_, rfl, _, _, (PH.le_un _ k1), rfl, f1, hp⟩
    · replace hm := (ie hb2).symm.trans hm
      refine k_skip ?_
      refine k_seq ?_
      refine k_seq ?_
      refine k_region ?_
      refine s_val (wk0 rfl) rfl rfl hE hp (v := (.int .i64 0)) (ex_asn rfl hE rfl) ?_
      intro a hE
      refine s_nil ?_
      obtain ⟨b2, hb3, hm⟩ := bnd hm
      refine k_block (fun a w => ∃ s : Unit, b2 = .brk s ∧ (Env 165 [(0, (.int .i64 p0)), (1, vp1), (6, (.slice (some ⟨b1, 0, none⟩) 0 0))] a ∧ Hp Z ρ (Pt b1 (.cells #[] 23 (0, 0)) :: L) w)) ?_ ?_
      · refine k_loop hb3 (fun s a w => Env 165 [(0, (.int .i64 p0)), (1, vp1), (6, (.slice (some ⟨b1, 0, none⟩) 0 0)), (7, (.int .i64 s))] a ∧ Hp Z ρ (Pt b1 (.cells #[] 23 (0, 0)) :: L) w) ?_ ?_
        · exact ⟨hE.cut ⟨rfl, rfl, rfl, rfl, trivial⟩, hp⟩
        · rintro lp1_0 st a w ⟨hE, hp⟩ hl1
          have hE : Env 165 [(0, (.int .i64 p0)), (1, vp1), (6, (.slice (some ⟨b1, 0, none⟩) 0 0)), (7, (.int .i64 lp1_0))] a := hE
          have hp : Hp Z ρ (_ :: L) w := hp
          replace hl1 : m_assessorref44_Clusters_lp1 p0 p1 lp1_0 = some st := hl1
          unfold m_assessorref44_Clusters_lp1 at hl1
          refine k_seq ?_
          refine k_seq ?_
          refine k_region ?_
          refine s_val (wk0 rfl) rfl rfl hE hp (v := (.int .i64 lp1_0)) (ex_move rfl hE rfl) ?_
          intro a hE
          refine s_val (wk0 rfl) rfl rfl hE hp (v := vp1) (ex_move rfl hE rfl) ?_
          intro a hE
          refine s_val (wk0 rfl) rfl rfl hE hp (v := (.int .i64 (p1.length : Int))) (ex_len rfl hE rfl (RoSl.len hp1 slty37)) ?_
          intro a hE
          refine s_val (wk0 rfl) rfl rfl hE hp (v := (.bool (decide (lp1_0 < (p1.length : Int))))) (ex_lss rfl hE rfl rfl) ?_
          intro a hE
          refine s_nil ?_
          refine k_if hE rfl (fun hb4 => ?_) (fun hb4 => ?_)
          · replace hl1 := (it hb4).symm.trans hl1
            refine k_skip ?_
            refine k_seq ?_
            refine k_plain ?_
            refine k_seq ?_
            refine k_region ?_
            refine s_val (wk0 rfl) rfl rfl hE hp (v := vp1) (ex_move rfl hE rfl) ?_
            intro a hE
            refine s_val (wk0 rfl) rfl rfl hE hp (v := (.int .i64 lp1_0)) (ex_move rfl hE rfl) ?_
            intro a hE
            obtain ⟨x1, ex1, hl1⟩ := bnd hl1
            obtain ⟨b3, b3o, b3c, b3r, b3k, b3f⟩ := RoSl.at hp1 slty37 ex1
            obtain rfl : b3c = Enc.enc x1 := b3k
            have b3f : AtP ρ b3 b3o [(.int .i64 x1.a), (.int .i64 x1.b), (.int .i64 x1.shared), (.int .i64 x1.total)] := b3f
            refine s_val (wk0 rfl) rfl rfl hE hp (v := (.pointer (some ⟨b3, b3o, none⟩))) (ex_index rfl hE rfl rfl b3r) ?_
            intro a hE
            refine s_val (wk0 rfl) rfl rfl hE hp (v := (.pointer (some ⟨b3, b3o, none⟩))) (ex_field rfl hE rfl (fldty52_0 _ _)) ?_
            intro a hE
            refine s_val (wk0 rfl) rfl rfl hE hp (v := (.int .i64 x1.a)) (ex_load rfl hE rfl (fun w hw => run_ld1 varty3 (b3f.c 0 rfl w hw))) ?_
            intro a hE
            refine s_val (wk0 rfl) rfl rfl hE hp (v := (.bool (decide (x1.a < 0)))) (ex_lss rfl hE rfl rfl) ?_
            intro a hE
            refine s_val (wk0 rfl) rfl rfl hE hp (v := (.bool (decide (x1.a < 0)))) (ex_move rfl hE rfl) ?_
            intro a hE
            obtain ⟨m1, hg1, hl1⟩ := bnd hl1
            refine s_cut [_, _, _, _, _, _, _, _] (fun a w => Env 165 [(44, (.bool m1)), (0, (.int .i64 p0)), (1, vp1), (6, (.slice (some ⟨b1, 0, none⟩) 0 0)), (7, (.int .i64 lp1_0))] a ∧ Hp Z ρ (Pt b1 (.cells #[] 23 (0, 0)) :: L) w) ?_ ?_
            · rcases Bool.eq_false_or_eq_true (decide (x1.a < 0)) with hb5 | hb5
              ·
                replace hg1 := (it hb5).symm.trans hg1
                refine s_skip (wk2 hE rfl rfl rfl hb5) rfl rfl hE ?_
                intro a hE
                refine s_skip (wk2 hE rfl rfl rfl hb5) rfl rfl hE ?_
                intro a hE
                refine s_skip (wk2 hE rfl rfl rfl hb5) rfl rfl hE ?_
                intro a hE
                refine s_skip (wk2 hE rfl rfl rfl hb5) rfl rfl hE ?_
                intro a hE
                refine s_skip (wk2 hE rfl rfl rfl hb5) rfl rfl hE ?_
                intro a hE
                refine s_skip (wk2 hE rfl rfl rfl hb5) rfl rfl hE ?_
                intro a hE
                refine s_skip (wk2 hE rfl rfl rfl hb5) rfl rfl hE ?_
                intro a hE
                refine s_val (wk0 rfl) rfl rfl hE hp (v := (.bool true)) (ex_pick1 rfl hE rfl hb5 rfl) ?_
                intro a hE
                obtain rfl := Option.some.inj hg1
                exact s_nil ⟨hE.cut ⟨rfl, rfl, rfl, rfl, rfl, trivial⟩, hp⟩
              ·
                replace hg1 := (ie hb5).symm.trans hg1
                refine s_val (wk1 hE rfl rfl rfl hb5) rfl rfl hE hp (v := vp1) (ex_move rfl hE rfl) ?_
                intro a hE
                refine s_val (wk1 hE rfl rfl rfl hb5) rfl rfl hE hp (v := (.int .i64 lp1_0)) (ex_move rfl hE rfl) ?_
                intro a hE
                obtain ⟨x2, ex2, hg1⟩ := bnd hg1
                obtain ⟨b4, b4o, b4c, b4r, b4k, b4f⟩ := RoSl.at hp1 slty37 ex2
                obtain rfl : b4c = Enc.enc x2 := b4k
                have b4f : AtP ρ b4 b4o [(.int .i64 x2.a), (.int .i64 x2.b), (.int .i64 x2.shared), (.int .i64 x2.total)] := b4f
                refine s_val (wk1 hE rfl rfl rfl hb5) rfl rfl hE hp (v := (.pointer (some ⟨b4, b4o, none⟩))) (ex_index rfl hE rfl rfl b4r) ?_
                intro a hE
                refine s_val (wk1 hE rfl rfl rfl hb5) rfl rfl hE hp (v := (.pointer (some ⟨b4, b4o, none⟩))) (ex_field rfl hE rfl (fldty52_0 _ _)) ?_
                intro a hE
                refine s_val (wk1 hE rfl rfl rfl hb5) rfl rfl hE hp (v := (.int .i64 x2.a)) (ex_load rfl hE rfl (fun w hw => run_ld1 varty3 (b4f.c 0 rfl w hw))) ?_
                intro a hE
                refine s_val (wk1 hE rfl rfl rfl hb5) rfl rfl hE hp (v := (.int .i64 p0)) (ex_move rfl hE rfl) ?_
                intro a hE
                refine s_val (wk1 hE rfl rfl rfl hb5) rfl rfl hE hp (v := (.bool (decide (p0 ≤ x2.a)))) (ex_geq rfl hE rfl rfl) ?_
                intro a hE
                refine s_val (wk0 rfl) rfl rfl hE hp (v := (.bool (decide (p0 ≤ x2.a)))) (ex_pick0 rfl hE rfl hb5 rfl) ?_
                intro a hE
                obtain rfl := Option.some.inj hg1
                exact s_nil ⟨hE.cut ⟨rfl, rfl, rfl, rfl, rfl, trivial⟩, hp⟩
            · rintro a w ⟨hE, hp⟩
              refine s_val (wk0 rfl) rfl rfl hE hp (v := (.bool m1)) (ex_move rfl hE rfl) ?_
              intro a hE
              obtain ⟨m2, hg2, hl1⟩ := bnd hl1
              refine s_cut [_, _, _, _, _, _, _] (fun a w => Env 165 [(52, (.bool m2)), (0, (.int .i64 p0)), (1, vp1), (6, (.slice (some ⟨b1, 0, none⟩) 0 0)), (7, (.int .i64 lp1_0))] a ∧ Hp Z ρ (Pt b1 (.cells #[] 23 (0, 0)) :: L) w) ?_ ?_
              · rcases Bool.eq_false_or_eq_true m1 with hb6 | hb6
                ·
                  replace hg2 := (it hb6).symm.trans hg2
                  refine s_skip (wk2 hE rfl rfl rfl hb6) rfl rfl hE ?_
                  intro a hE
                  refine s_skip (wk2 hE rfl rfl rfl hb6) rfl rfl hE ?_
                  intro a hE
                  refine s_skip (wk2 hE rfl rfl rfl hb6) rfl rfl hE ?_
                  intro a hE
                  refine s_skip (wk2 hE rfl rfl rfl hb6) rfl rfl hE ?_
                  intro a hE
                  refine s_skip (wk2 hE rfl rfl rfl hb6) rfl rfl hE ?_
                  intro a hE
                  refine s_skip (wk2 hE rfl rfl rfl hb6) rfl rfl hE ?_
                  intro a hE
                  refine s_val (wk0 rfl) rfl rfl hE hp (v := (.bool true)) (ex_pick1 rfl hE rfl hb6 rfl) ?_
                  intro a hE
                  obtain rfl := Option.some.inj hg2
                  exact s_nil ⟨hE.cut ⟨rfl, rfl, rfl, rfl, rfl, trivial⟩, hp⟩
                ·
                  replace hg2 := (ie hb6).symm.trans hg2
                  refine s_val (wk1 hE rfl rfl rfl hb6) rfl rfl hE hp (v := vp1) (ex_move rfl hE rfl) ?_
                  intro a hE
                  refine s_val (wk1 hE rfl rfl rfl hb6) rfl rfl hE hp (v := (.int .i64 lp1_0)) (ex_move rfl hE rfl) ?_
                  intro a hE
                  obtain ⟨x3, ex3, hg2⟩ := bnd hg2
                  obtain ⟨b5, b5o, b5c, b5r, b5k, b5f⟩ := RoSl.at hp1 slty37 ex3
                  obtain rfl : b5c = Enc.enc x3 := b5k
                  have b5f : AtP ρ b5 b5o [(.int .i64 x3.a), (.int .i64 x3.b), (.int .i64 x3.shared), (.int .i64 x3.total)] := b5f
                  refine s_val (wk1 hE rfl rfl rfl hb6) rfl rfl hE hp (v := (.pointer (some ⟨b5, b5o, none⟩))) (ex_index rfl hE rfl rfl b5r) ?_
                  intro a hE
                  refine s_val (wk1 hE rfl rfl rfl hb6) rfl rfl hE hp (v := (.pointer (some ⟨b5, b5o + 1, none⟩))) (ex_field rfl hE rfl (fldty52_1 _ _)) ?_
                  intro a hE
                  refine s_val (wk1 hE rfl rfl rfl hb6) rfl rfl hE hp (v := (.int .i64 x3.b)) (ex_load rfl hE rfl (fun w hw => run_ld1 varty3 (b5f.c 1 rfl w hw))) ?_
                  intro a hE
                  refine s_val (wk1 hE rfl rfl rfl hb6) rfl rfl hE hp (v := (.bool (decide (x3.b < 0)))) (ex_lss rfl hE rfl rfl) ?_
                  intro a hE
                  refine s_val (wk0 rfl) rfl rfl hE hp (v := (.bool (decide (x3.b < 0)))) (ex_pick0 rfl hE rfl hb6 rfl) ?_
                  intro a hE
                  obtain rfl := Option.some.inj hg2
                  exact s_nil ⟨hE.cut ⟨rfl, rfl, rfl, rfl, rfl, trivial⟩, hp⟩
              · rintro a w ⟨hE, hp⟩
                refine s_val (wk0 rfl) rfl rfl hE hp (v := (.bool m2)) (ex_move rfl hE rfl) ?_
                intro a hE
                obtain ⟨m3, hg3, hl1⟩ := bnd hl1
                refine s_cut [_, _, _, _, _, _, _, _] (fun a w => Env 165 [(61, (.bool m3)), (0, (.int .i64 p0)), (1, vp1), (6, (.slice (some ⟨b1, 0, none⟩) 0 0)), (7, (.int .i64 lp1_0))] a ∧ Hp Z ρ (Pt b1 (.cells #[] 23 (0, 0)) :: L) w) ?_ ?_
                · rcases Bool.eq_false_or_eq_true m2 with hb7 | hb7
                  ·
                    replace hg3 := (it hb7).symm.trans hg3
                    refine s_skip (wk2 hE rfl rfl rfl hb7) rfl rfl hE ?_
                    intro a hE
                    refine s_skip (wk2 hE rfl rfl rfl hb7) rfl rfl hE ?_
                    intro a hE
                    refine s_skip (wk2 hE rfl rfl rfl hb7) rfl rfl hE ?_
                    intro a hE
                    refine s_skip (wk2 hE rfl rfl rfl hb7) rfl rfl hE ?_
                    intro a hE
                    refine s_skip (wk2 hE rfl rfl rfl hb7) rfl rfl hE ?_
                    intro a hE
                    refine s_skip (wk2 hE rfl rfl rfl hb7) rfl rfl hE ?_
                    intro a hE
                    refine s_skip (wk2 hE rfl rfl rfl hb7) rfl rfl hE ?_
                    intro a hE
                    refine s_val (wk0 rfl) rfl rfl hE hp (v := (.bool true)) (ex_pick1 rfl hE rfl hb7 rfl) ?_
                    intro a hE
                    obtain rfl := Option.some.inj hg3
                    exact s_nil ⟨hE.cut ⟨rfl, rfl, rfl, rfl, rfl, trivial⟩, hp⟩
                  ·
                    replace hg3 := (ie hb7).symm.trans hg3
                    refine s_val (wk1 hE rfl rfl rfl hb7) rfl rfl hE hp (v := vp1) (ex_move rfl hE rfl) ?_
                    intro a hE
                    refine s_val (wk1 hE rfl rfl rfl hb7) rfl rfl hE hp (v := (.int .i64 lp1_0)) (ex_move rfl hE rfl) ?_
                    intro a hE
                    obtain ⟨x4, ex4, hg3⟩ := bnd hg3
                    obtain ⟨b6, b6o, b6c, b6r, b6k, b6f⟩ := RoSl.at hp1 slty37 ex4
                    obtain rfl : b6c = Enc.enc x4 := b6k
                    have b6f : AtP ρ b6 b6o [(.int .i64 x4.a), (.int .i64 x4.b), (.int .i64 x4.shared), (.int .i64 x4.total)] := b6f
                    refine s_val (wk1 hE rfl rfl rfl hb7) rfl rfl hE hp (v := (.pointer (some ⟨b6, b6o, none⟩))) (ex_index rfl hE rfl rfl b6r) ?_
                    intro a hE
                    refine s_val (wk1 hE rfl rfl rfl hb7) rfl rfl hE hp (v := (.pointer (some ⟨b6, b6o + 1, none⟩))) (ex_field rfl hE rfl (fldty52_1 _ _)) ?_
                    intro a hE
                    refine s_val (wk1 hE rfl rfl rfl hb7) rfl rfl hE hp (v := (.int .i64 x4.b)) (ex_load rfl hE rfl (fun w hw => run_ld1 varty3 (b6f.c 1 rfl w hw))) ?_
                    intro a hE
                    refine s_val (wk1 hE rfl rfl rfl hb7) rfl rfl hE hp (v := (.int .i64 p0)) (ex_move rfl hE rfl) ?_
                    intro a hE
                    refine s_val (wk1 hE rfl rfl rfl hb7) rfl rfl hE hp (v := (.bool (decide (p0 ≤ x4.b)))) (ex_geq rfl hE rfl rfl) ?_
                    intro a hE
                    refine s_val (wk0 rfl) rfl rfl hE hp (v := (.bool (decide (p0 ≤ x4.b)))) (ex_pick0 rfl hE rfl hb7 rfl) ?_
                    intro a hE
                    obtain rfl := Option.some.inj hg3
                    exact s_nil ⟨hE.cut ⟨rfl, rfl, rfl, rfl, rfl, trivial⟩, hp⟩
                · rintro a w ⟨hE, hp⟩
                  refine s_nil ?_
                  refine k_if hE rfl (fun hb8 => ?_) (fun hb8 => ?_)
                  · replace hl1 := (it hb8).symm.trans hl1
                    refine k_seq ?_
                    refine k_region ?_
                    refine s_val (wk0 rfl) rfl rfl hE hp (v := (.slice (some ⟨b1, 0, none⟩) 0 0)) (ex_move rfl hE rfl) ?_
                    intro a hE
                    refine s_val (wk0 rfl) rfl rfl hE hp (v := (.slice (some ⟨b1, 0, none⟩) 0 0)) (ex_asn rfl hE rfl) ?_
                    intro a hE
                    refine s_val (wk0 rfl) rfl rfl hE hp (v := (.int .i64 2)) (ex_asn rfl hE rfl) ?_
                    intro a hE
                    refine s_nil ?_
                    refine k_ret ?_
                    refine ⟨_, (Option.some.inj hl1).symm, fun hb => ?_⟩
                    subst hb
                    obtain ⟨k2, k2a, k2d, hp⟩ := (hp.get 0 rfl).lend
                    have f2 : RoSl (ρ.un k2) (.slice (some ⟨b1, 0, none⟩) 0 0) ([] : List (List Int)) := RoSl.of_all (l := (([] : List (List Int)))) k2d k2a rfl
                    have hp : Hp Z (ρ.un k2) (L) w := hp
                    obtain rfl := Option.some.inj hm
                    exact ret2 hE rfl rfl rfl ⟨_, rfl, _, _, (PH.le_un _ k2), rfl, f2, hp⟩
                  · replace hl1 := (ie hb8).symm.trans hl1
                    refine k_skip ?_
                    refine k_region ?_
                    refine s_val (wk0 rfl) rfl rfl hE hp (v := (.int .i64 lp1_0)) (ex_move rfl hE rfl) ?_
                    intro a hE
                    obtain ⟨x5, ex5, hl1⟩ := bnd hl1
                    refine s_val (wk0 rfl) rfl rfl hE hp (v := (.int .i64 x5)) (ex_add rfl hE rfl rfl (inK_some ex5)) ?_
                    intro a hE
                    refine s_val (wk0 rfl) rfl rfl hE hp (v := (.int .i64 x5)) (ex_asn rfl hE rfl) ?_
                    intro a hE
                    refine s_nil ?_
                    exact ⟨_, (Option.some.inj hl1).symm, hE.cut ⟨rfl, rfl, rfl, rfl, trivial⟩, hp⟩
          · replace hl1 := (ie hb4).symm.trans hl1
            refine k_exit ?_
            refine ⟨_, (Option.some.inj hl1).symm, fun hbb => ?_⟩
            exact ⟨_, hbb.symm, hE.cut ⟨rfl, rfl, rfl, trivial⟩, hp⟩
      · rintro a w ⟨b2s, rfl, hE, hp⟩
        dsimp only at hm
        refine k_seq ?_
        refine k_region ?_
        refine s_lit (wk0 rfl) rfl rfl hE hp rfl [] trivial [] 3 (fun w => by simp [Instr.buildSlice, Instr.fill, Value.cells, go_sem]) ?_
        intro a w b7 hE hp
        have hp : Hp Z ρ (Pt b7 (.cells #[] 3 (0, 0)) :: _ :: L) w := hp
        refine s_val (wk0 rfl) rfl rfl hE hp (v := (.slice (some ⟨b7, 0, none⟩) 0 0)) (ex_asn rfl hE rfl) ?_
        intro a hE
        refine s_nil ?_
        refine k_seq ?_
        refine k_seq ?_
        refine k_region ?_
        refine s_val (wk0 rfl) rfl rfl hE hp (v := (.int .i64 0)) (ex_asn rfl hE rfl) ?_
        intro a hE
        refine s_nil ?_
        have hp := (hp.get 0 rfl).imp (own_of_pt (l := (([] : List Int) : List Int)) (n := 0) rfl (by decide) rfl)
        have hp : Hp Z ρ (OwnSl 3 (.slice (some ⟨b7, 0, none⟩) 0 0) ([] : List Int) :: _ :: L) w := hp
        obtain ⟨b8, hb9, hm⟩ := bnd hm
        refine k_block (fun a w => ∃ (w2 : Value), Env 165 [(0, (.int .i64 p0)), (1, vp1), (6, (.slice (some ⟨b1, 0, none⟩) 0 0)), (8, w2)] a ∧ Hp Z ρ (OwnSl 3 w2 b8 :: Pt b1 (.cells #[] 23 (0, 0)) :: L) w) ?_ ?_
        · refine k_loop hb9 (fun s a w => ∃ (w2 : Value), Env 165 [(0, (.int .i64 p0)), (1, vp1), (6, (.slice (some ⟨b1, 0, none⟩) 0 0)), (8, w2), (9, (.int .i64 s.1))] a ∧ Hp Z ρ (OwnSl 3 w2 s.2 :: Pt b1 (.cells #[] 23 (0, 0)) :: L) w) ?_ ?_
          · exact ⟨_, hE.cut ⟨rfl, rfl, rfl, rfl, rfl, trivial⟩, hp⟩
          · rintro ⟨lp2_0, lp2_1⟩ st a w ⟨w2, hE, hp⟩ hl2
            have hE : Env 165 [(0, (.int .i64 p0)), (1, vp1), (6, (.slice (some ⟨b1, 0, none⟩) 0 0)), (8, w2), (9, (.int .i64 lp2_0))] a := hE
            have hp : Hp Z ρ (OwnSl 3 w2 lp2_1 :: _ :: L) w := hp
            replace hl2 : m_assessorref44_Clusters_lp2 p0 lp2_0 lp2_1 = some st := hl2
            unfold m_assessorref44_Clusters_lp2 at hl2
            refine k_seq ?_
            refine k_seq ?_
            refine k_region ?_
            refine s_val (wk0 rfl) rfl rfl hE hp (v := (.int .i64 lp2_0)) (ex_move rfl hE rfl) ?_
            intro a hE
            refine s_val (wk0 rfl) rfl rfl hE hp (v := (.int .i64 p0)) (ex_move rfl hE rfl) ?_
            intro a hE
            refine s_val (wk0 rfl) rfl rfl hE hp (v := (.bool (decide (lp2_0 < p0)))) (ex_lss rfl hE rfl rfl) ?_
            intro a hE
            refine s_nil ?_
            refine k_if hE rfl (fun hb10 => ?_) (fun hb10 => ?_)
            · replace hl2 := (it hb10).symm.trans hl2
              refine k_skip ?_
              refine k_seq ?_
              refine k_plain ?_
              refine k_region ?_
              refine s_val (wk0 rfl) rfl rfl hE hp (v := w2) (ex_move rfl hE rfl) ?_
              intro a hE
              refine s_val (wk0 rfl) rfl rfl hE hp (v := (.int .i64 lp2_0)) (ex_move rfl hE rfl) ?_
              intro a hE
              refine s_lit (wk0 rfl) rfl rfl hE hp rfl [(0, (.int .i64 lp2_0))] ⟨⟨rfl, rfl⟩, trivial⟩ [(.int .i64 lp2_0)] 3 (fun w => by simp [Instr.buildSlice, Instr.fill, Value.cells, go_sem]) ?_
              intro a w b9 hE hp
              have hp : Hp Z ρ (Pt b9 (.cells #[(.int .i64 lp2_0)] 3 (0, 0)) :: _ :: _ :: L) w := hp
              obtain ⟨x6, ex6, hl2⟩ := bnd hl2
              refine s_app (wk0 rfl) rfl rfl hE hp rfl slty23 rfl rfl 1 rfl rfl (l2 := [lp2_0]) rfl (fun j u hj => by have := Hp.cN 0 rfl 0 _ (sub_all rfl) w hp j u hj; simpa using this) ex6 ?_
              intro v1 a w hE hp
              have hp : Hp Z ρ (_ :: OwnSl 3 v1 x6 :: _ :: L) w := hp
              refine s_val (wk0 rfl) rfl rfl hE hp (v := v1) (ex_asn rfl hE rfl) ?_
              intro a hE
              refine s_nil ?_
              refine k_region ?_
              refine s_val (wk0 rfl) rfl rfl hE hp (v := (.int .i64 lp2_0)) (ex_move rfl hE rfl) ?_
              intro a hE
              obtain ⟨x7, ex7, hl2⟩ := bnd hl2
              refine s_val (wk0 rfl) rfl rfl hE hp (v := (.int .i64 x7)) (ex_add rfl hE rfl rfl (inK_some ex7)) ?_
              intro a hE
              refine s_val (wk0 rfl) rfl rfl hE hp (v := (.int .i64 x7)) (ex_asn rfl hE rfl) ?_
              intro a hE
              refine s_nil ?_
              have hE := hE.cut (E' := [(0, (.int .i64 p0)), (1, vp1), (6, (.slice (some ⟨b1, 0, none⟩) 0 0)), (8, v1), (9, (.int .i64 x7))]) ⟨rfl, rfl, rfl, rfl, rfl, trivial⟩
              exact ⟨_, (Option.some.inj hl2).symm, _, hE.cut ⟨rfl, rfl, rfl, rfl, rfl, trivial⟩, (hp.drop)⟩
            · replace hl2 := (ie hb10).symm.trans hl2
              refine k_exit ?_
              refine ⟨_, (Option.some.inj hl2).symm, fun hbb => ?_⟩
              subst hbb
              exact ⟨_, hE.cut ⟨rfl, rfl, rfl, rfl, trivial⟩, hp⟩
        · rintro a w ⟨w2, hE, hp⟩
          refine k_seq ?_
          refine k_region ?_
          refine s_val (wk0 rfl) rfl rfl hE hp (v := (.bool true)) (ex_asn rfl hE rfl) ?_
          intro a hE
          refine s_nil ?_
          refine k_seq ?_
          obtain ⟨b10, hb11, hm⟩ := bnd hm
          refine k_block (fun a w => ∃ (w2 : Value), Env 165 [(0, (.int .i64 p0)), (6, (.slice (some ⟨b1, 0, none⟩) 0 0)), (8, w2)] a ∧ Hp Z ρ (OwnSl 3 w2 b10 :: Pt b1 (.cells #[] 23 (0, 0)) :: L) w) ?_ ?_
          · refine k_loop hb11 (fun s a w => ∃ (w2 : Value), Env 165 [(0, (.int .i64 p0)), (1, vp1), (6, (.slice (some ⟨b1, 0, none⟩) 0 0)), (8, w2), (10, (.bool s.1))] a ∧ Hp Z ρ (OwnSl 3 w2 s.2 :: Pt b1 (.cells #[] 23 (0, 0)) :: L) w) ?_ ?_
            · exact ⟨_, hE.cut ⟨rfl, rfl, rfl, rfl, rfl, trivial⟩, hp⟩
            · rintro ⟨lp3_0, lp3_1⟩ st a w ⟨w2, hE, hp⟩ hl3
              have hE : Env 165 [(0, (.int .i64 p0)), (1, vp1), (6, (.slice (some ⟨b1, 0, none⟩) 0 0)), (8, w2), (10, (.bool lp3_0))] a := hE
              have hp : Hp Z ρ (OwnSl 3 w2 lp3_1 :: _ :: L) w := hp
              replace hl3 : m_assessorref44_Clusters_lp3 p1 lp3_0 lp3_1 = some st := hl3
              unfold m_assessorref44_Clusters_lp3 at hl3
              refine k_seq ?_
              refine k_seq ?_
              refine k_region ?_
              refine s_val (wk0 rfl) rfl rfl hE hp (v := (.bool lp3_0)) (ex_move rfl hE rfl) ?_
              intro a hE
              refine s_nil ?_
              refine k_if hE rfl (fun hb12 => ?_) (fun hb12 => ?_)
              · replace hl3 := (it hb12).symm.trans hl3
                refine k_skip ?_
                refine k_plain ?_
                refine k_seq ?_
                refine k_region ?_
                refine s_val (wk0 rfl) rfl rfl hE hp (v := (.bool false)) (ex_asn rfl hE rfl) ?_
                intro a hE
                refine s_nil ?_
                refine k_seq ?_
                refine k_region ?_
                refine s_val (wk0 rfl) rfl rfl hE hp (v := (.int .i64 0)) (ex_asn rfl hE rfl) ?_
                intro a hE
                refine s_nil ?_
                obtain ⟨b11, hb13, hl3⟩ := bnd hl3
                refine k_block (fun a w => ∃ (w2 : Value), Env 165 [(0, (.int .i64 p0)), (1, vp1), (6, (.slice (some ⟨b1, 0, none⟩) 0 0)), (8, w2), (10, (.bool b11.1))] a ∧ Hp Z ρ (OwnSl 3 w2 b11.2 :: Pt b1 (.cells #[] 23 (0, 0)) :: L) w) ?_ ?_
                · refine k_loop hb13 (fun s a w => ∃ (w2 : Value), Env 165 [(0, (.int .i64 p0)), (1, vp1), (6, (.slice (some ⟨b1, 0, none⟩) 0 0)), (8, w2), (10, (.bool s.1)), (11, (.int .i64 s.2.1))] a ∧ Hp Z ρ (OwnSl 3 w2 s.2.2 :: Pt b1 (.cells #[] 23 (0, 0)) :: L) w) ?_ ?_
                  · exact ⟨_, hE.cut ⟨rfl, rfl, rfl, rfl, rfl, rfl, trivial⟩, hp⟩
                  · rintro ⟨lp4_0, lp4_1, lp4_2⟩ st a w ⟨w2, hE, hp⟩ hl4
                    have hE : Env 165 [(0, (.int .i64 p0)), (1, vp1), (6, (.slice (some ⟨b1, 0, none⟩) 0 0)), (8, w2), (10, (.bool lp4_0)), (11, (.int .i64 lp4_1))] a := hE
                    have hp : Hp Z ρ (OwnSl 3 w2 lp4_2 :: _ :: L) w := hp
                    replace hl4 : m_assessorref44_Clusters_lp4 p1 lp4_0 lp4_1 lp4_2 = some st := hl4
                    unfold m_assessorref44_Clusters_lp4 at hl4
                    refine k_seq ?_
                    refine k_seq ?_
                    refine k_region ?_
                    refine s_val (wk0 rfl) rfl rfl hE hp (v := (.int .i64 lp4_1)) (ex_move rfl hE rfl) ?_
                    intro a hE
                    refine s_val (wk0 rfl) rfl rfl hE hp (v := vp1) (ex_move rfl hE rfl) ?_
                    intro a hE
                    refine s_val (wk0 rfl) rfl rfl hE hp (v := (.int .i64 (p1.length : Int))) (ex_len rfl hE rfl (RoSl.len hp1 slty37)) ?_
                    intro a hE
                    refine s_val (wk0 rfl) rfl rfl hE hp (v := (.bool (decide (lp4_1 < (p1.length : Int))))) (ex_lss rfl hE rfl rfl) ?_
                    intro a hE
                    refine s_nil ?_
                    refine k_if hE rfl (fun hb14 => ?_) (fun hb14 => ?_)
                    · replace hl4 := (it hb14).symm.trans hl4
                      refine k_skip ?_
                      refine k_seq ?_
                      refine k_plain ?_
                      refine k_seq ?_
                      refine k_quiet (by kernel_rfl) (by kernel_rfl) hp ?_
                      refine q_val (wk0 rfl) rfl rfl hE (v := w2) (ex_move rfl hE rfl) ?_
                      intro a hE
                      refine q_val (wk0 rfl) rfl rfl hE (v := vp1) (ex_move rfl hE rfl) ?_
                      intro a hE
                      refine q_val (wk0 rfl) rfl rfl hE (v := (.int .i64 lp4_1)) (ex_move rfl hE rfl) ?_
                      intro a hE
                      obtain ⟨x8, ex8, hl4⟩ := bnd hl4
                      obtain ⟨b12, b12o, b12c, b12r, b12k, b12f⟩ := RoSl.at hp1 slty37 ex8
                      obtain rfl : b12c = Enc.enc x8 := b12k
                      have b12f : AtP ρ b12 b12o [(.int .i64 x8.a), (.int .i64 x8.b), (.int .i64 x8.shared), (.int .i64 x8.total)] := b12f
                      refine q_val (wk0 rfl) rfl rfl hE (v := (.pointer (some ⟨b12, b12o, none⟩))) (ex_index rfl hE rfl rfl b12r) ?_
                      intro a hE
                      refine q_val (wk0 rfl) rfl rfl hE (v := (.pointer (some ⟨b12, b12o, none⟩))) (ex_field rfl hE rfl (fldty52_0 _ _)) ?_
                      intro a hE
                      refine q_val (wk0 rfl) rfl rfl hE (v := (.int .i64 x8.a)) (ex_load rfl hE rfl (fun w hw => run_ld1 varty3 (b12f.c 0 rfl w hw))) ?_
                      intro a hE
                      obtain ⟨x9, ex9, hl4⟩ := bnd hl4
                      obtain ⟨b13, b13o, b13r, b13v, b13f⟩ := OwnSl.at hp 0 rfl slty23 ex9
                      have b13f : ∀ (j : Nat) (u : Value), ([(.int .i64 x9)] : List Value)[j]? = some u → ∀ ρ' L' w, Hp Z ρ' (OwnSl 3 w2 lp4_2 :: L') w → w.cell? ⟨b13, b13o + j, none⟩ = some u := b13f
                      refine q_val (wk0 rfl) rfl rfl hE (v := (.pointer (some ⟨b13, b13o, none⟩))) (ex_index rfl hE rfl rfl b13r) ?_
                      intro a hE
                      refine q_val (wk0 rfl) rfl rfl hE (v := (.int .i64 x9)) (ex_load rfl hE rfl (fun w hw => run_ld1 varty3 (b13f 0 _ rfl _ _ w (hw.get 0 rfl)))) ?_
                      intro a hE
                      refine q_val (wk0 rfl) rfl rfl hE (v := w2) (ex_move rfl hE rfl) ?_
                      intro a hE
                      refine q_val (wk0 rfl) rfl rfl hE (v := vp1) (ex_move rfl hE rfl) ?_
                      intro a hE
                      refine q_val (wk0 rfl) rfl rfl hE (v := (.int .i64 lp4_1)) (ex_move rfl hE rfl) ?_
                      intro a hE
                      obtain ⟨x10, ex10, hl4⟩ := bnd hl4
                      obtain ⟨b14, b14o, b14c, b14r, b14k, b14f⟩ := RoSl.at hp1 slty37 ex10
                      obtain rfl : b14c = Enc.enc x10 := b14k
                      have b14f : AtP ρ b14 b14o [(.int .i64 x10.a), (.int .i64 x10.b), (.int .i64 x10.shared), (.int .i64 x10.total)] := b14f
                      refine q_val (wk0 rfl) rfl rfl hE (v := (.pointer (some ⟨b14, b14o, none⟩))) (ex_index rfl hE rfl rfl b14r) ?_
                      intro a hE
                      refine q_val (wk0 rfl) rfl rfl hE (v := (.pointer (some ⟨b14, b14o + 1, none⟩))) (ex_field rfl hE rfl (fldty52_1 _ _)) ?_
                      intro a hE
                      refine q_val (wk0 rfl) rfl rfl hE (v := (.int .i64 x10.b)) (ex_load rfl hE rfl (fun w hw => run_ld1 varty3 (b14f.c 1 rfl w hw))) ?_
                      intro a hE
                      obtain ⟨x11, ex11, hl4⟩ := bnd hl4
                      obtain ⟨b15, b15o, b15r, b15v, b15f⟩ := OwnSl.at hp 0 rfl slty23 ex11
                      have b15f : ∀ (j : Nat) (u : Value), ([(.int .i64 x11)] : List Value)[j]? = some u → ∀ ρ' L' w, Hp Z ρ' (OwnSl 3 w2 lp4_2 :: L') w → w.cell? ⟨b15, b15o + j, none⟩ = some u := b15f
                      refine q_val (wk0 rfl) rfl rfl hE (v := (.pointer (some ⟨b15, b15o, none⟩))) (ex_index rfl hE rfl rfl b15r) ?_
                      intro a hE
                      refine q_val (wk0 rfl) rfl rfl hE (v := (.int .i64 x11)) (ex_load rfl hE rfl (fun w hw => run_ld1 varty3 (b15f 0 _ rfl _ _ w (hw.get 0 rfl)))) ?_
                      intro a hE
                      refine q_val (wk0 rfl) rfl rfl hE (v := (.int .i64 (min x9 x11))) (ex_min rfl hE rfl rfl) ?_
                      intro a hE
                      refine q_val (wk0 rfl) rfl rfl hE (v := (.int .i64 (min x9 x11))) (ex_asn rfl hE rfl) ?_
                      intro a hE
                      refine q_nil fun w hp => ?_
                      have hp : Hp Z ρ (_ :: _ :: L) w := hp
                      have hE := hE.cut (E' := [(0, (.int .i64 p0)), (1, vp1), (6, (.slice (some ⟨b1, 0, none⟩) 0 0)), (8, w2), (10, (.bool lp4_0)), (11, (.int .i64 lp4_1)), (12, (.int .i64 (min x9 x11)))]) ⟨rfl, rfl, rfl, rfl, rfl, rfl, rfl, trivial⟩
                      refine k_seq ?_
                      refine k_region ?_
                      refine s_val (wk0 rfl) rfl rfl hE hp (v := w2) (ex_move rfl hE rfl) ?_
                      intro a hE
                      refine s_val (wk0 rfl) rfl rfl hE hp (v := vp1) (ex_move rfl hE rfl) ?_
                      intro a hE
                      refine s_val (wk0 rfl) rfl rfl hE hp (v := (.int .i64 lp4_1)) (ex_move rfl hE rfl) ?_
                      intro a hE
                      obtain ⟨x12, ex12, hl4⟩ := bnd hl4
                      obtain ⟨b16, b16o, b16c, b16r, b16k, b16f⟩ := RoSl.at hp1 slty37 ex12
                      obtain rfl : b16c = Enc.enc x12 := b16k
                      have b16f : AtP ρ b16 b16o [(.int .i64 x12.a), (.int .i64 x12.b), (.int .i64 x12.shared), (.int .i64 x12.total)] := b16f
                      refine s_val (wk0 rfl) rfl rfl hE hp (v := (.pointer (some ⟨b16, b16o, none⟩))) (ex_index rfl hE rfl rfl b16r) ?_
                      intro a hE
                      refine s_val (wk0 rfl) rfl rfl hE hp (v := (.pointer (some ⟨b16, b16o, none⟩))) (ex_field rfl hE rfl (fldty52_0 _ _)) ?_
                      intro a hE
                      refine s_val (wk0 rfl) rfl rfl hE hp (v := (.int .i64 x12.a)) (ex_load rfl hE rfl (fun w hw => run_ld1 varty3 (b16f.c 0 rfl w hw))) ?_
                      intro a hE
                      obtain ⟨x13, ex13, hl4⟩ := bnd hl4
                      obtain ⟨b17, b17o, b17r, b17v, b17f⟩ := OwnSl.at hp 0 rfl slty23 ex13
                      have b17f : ∀ (j : Nat) (u : Value), ([(.int .i64 x13)] : List Value)[j]? = some u → ∀ ρ' L' w, Hp Z ρ' (OwnSl 3 w2 lp4_2 :: L') w → w.cell? ⟨b17, b17o + j, none⟩ = some u := b17f
                      refine s_val (wk0 rfl) rfl rfl hE hp (v := (.pointer (some ⟨b17, b17o, none⟩))) (ex_index rfl hE rfl rfl b17r) ?_
                      intro a hE
                      refine s_val (wk0 rfl) rfl rfl hE hp (v := (.int .i64 x13)) (ex_load rfl hE rfl (fun w hw => run_ld1 varty3 (b17f 0 _ rfl _ _ w (hw.get 0 rfl)))) ?_
                      intro a hE
                      refine s_val (wk0 rfl) rfl rfl hE hp (v := (.int .i64 (min x9 x11))) (ex_move rfl hE rfl) ?_
                      intro a hE
                      refine s_val (wk0 rfl) rfl rfl hE hp (v := (.bool (!decide (x13 = (min x9 x11))))) (ex_neq rfl hE rfl rfl) ?_
                      intro a hE
                      refine s_val (wk0 rfl) rfl rfl hE hp (v := (.bool (!decide (x13 = (min x9 x11))))) (ex_move rfl hE rfl) ?_
                      intro a hE
                      obtain ⟨m4, hg4, hl4⟩ := bnd hl4
                      refine s_cut [_, _, _, _, _, _, _, _, _, _, _] (fun a w => Env 165 [(118, (.bool m4)), (0, (.int .i64 p0)), (1, vp1), (6, (.slice (some ⟨b1, 0, none⟩) 0 0)), (8, w2), (10, (.bool lp4_0)), (11, (.int .i64 lp4_1)), (12, (.int .i64 (min x9 x11)))] a ∧ Hp Z ρ (OwnSl 3 w2 lp4_2 :: Pt b1 (.cells #[] 23 (0, 0)) :: L) w) ?_ ?_
                      · rcases Bool.eq_false_or_eq_true (!decide (x13 = (min x9 x11))) with hb15 | hb15
                        ·
                          replace hg4 := (it hb15).symm.trans hg4
                          refine s_skip (wk2 hE rfl rfl rfl hb15) rfl rfl hE ?_
                          intro a hE
                          refine s_skip (wk2 hE rfl rfl rfl hb15) rfl rfl hE ?_
                          intro a hE
                          refine s_skip (wk2 hE rfl rfl rfl hb15) rfl rfl hE ?_
                          intro a hE
                          refine s_skip (wk2 hE rfl rfl rfl hb15) rfl rfl hE ?_
                          intro a hE
                          refine s_skip (wk2 hE rfl rfl rfl hb15) rfl rfl hE ?_
                          intro a hE
                          refine s_skip (wk2 hE rfl rfl rfl hb15) rfl rfl hE ?_
                          intro a hE
                          refine s_skip (wk2 hE rfl rfl rfl hb15) rfl rfl hE ?_
                          intro a hE
                          refine s_skip (wk2 hE rfl rfl rfl hb15) rfl rfl hE ?_
                          intro a hE
                          refine s_skip (wk2 hE rfl rfl rfl hb15) rfl rfl hE ?_
                          intro a hE
                          refine s_skip (wk2 hE rfl rfl rfl hb15) rfl rfl hE ?_
                          intro a hE
                          refine s_val (wk0 rfl) rfl rfl hE hp (v := (.bool true)) (ex_pick1 rfl hE rfl hb15 rfl) ?_
                          intro a hE
                          obtain rfl := Option.some.inj hg4
                          exact s_nil ⟨hE.cut ⟨rfl, rfl, rfl, rfl, rfl, rfl, rfl, rfl, trivial⟩, hp⟩
                        ·
                          replace hg4 := (ie hb15).symm.trans hg4
                          refine s_val (wk1 hE rfl rfl rfl hb15) rfl rfl hE hp (v := w2) (ex_move rfl hE rfl) ?_
                          intro a hE
                          refine s_val (wk1 hE rfl rfl rfl hb15) rfl rfl hE hp (v := vp1) (ex_move rfl hE rfl) ?_
                          intro a hE
                          refine s_val (wk1 hE rfl rfl rfl hb15) rfl rfl hE hp (v := (.int .i64 lp4_1)) (ex_move rfl hE rfl) ?_
                          intro a hE
                          obtain ⟨x14, ex14, hg4⟩ := bnd hg4
                          obtain ⟨b18, b18o, b18c, b18r, b18k, b18f⟩ := RoSl.at hp1 slty37 ex14
                          obtain rfl : b18c = Enc.enc x14 := b18k
                          have b18f : AtP ρ b18 b18o [(.int .i64 x14.a), (.int .i64 x14.b), (.int .i64 x14.shared), (.int .i64 x14.total)] := b18f
                          refine s_val (wk1 hE rfl rfl rfl hb15) rfl rfl hE hp (v := (.pointer (some ⟨b18, b18o, none⟩))) (ex_index rfl hE rfl rfl b18r) ?_
                          intro a hE
                          refine s_val (wk1 hE rfl rfl rfl hb15) rfl rfl hE hp (v := (.pointer (some ⟨b18, b18o + 1, none⟩))) (ex_field rfl hE rfl (fldty52_1 _ _)) ?_
                          intro a hE
                          refine s_val (wk1 hE rfl rfl rfl hb15) rfl rfl hE hp (v := (.int .i64 x14.b)) (ex_load rfl hE rfl (fun w hw => run_ld1 varty3 (b18f.c 1 rfl w hw))) ?_
                          intro a hE
                          obtain ⟨x15, ex15, hg4⟩ := bnd hg4
                          obtain ⟨b19, b19o, b19r, b19v, b19f⟩ := OwnSl.at hp 0 rfl slty23 ex15
                          have b19f : ∀ (j : Nat) (u : Value), ([(.int .i64 x15)] : List Value)[j]? = some u → ∀ ρ' L' w, Hp Z ρ' (OwnSl 3 w2 lp4_2 :: L') w → w.cell? ⟨b19, b19o + j, none⟩ = some u := b19f
                          refine s_val (wk1 hE rfl rfl rfl hb15) rfl rfl hE hp (v := (.pointer (some ⟨b19, b19o, none⟩))) (ex_index rfl hE rfl rfl b19r) ?_
                          intro a hE
                          refine s_val (wk1 hE rfl rfl rfl hb15) rfl rfl hE hp (v := (.int .i64 x15)) (ex_load rfl hE rfl (fun w hw => run_ld1 varty3 (b19f 0 _ rfl _ _ w (hw.get 0 rfl)))) ?_
                          intro a hE
                          refine s_val (wk1 hE rfl rfl rfl hb15) rfl rfl hE hp (v := (.int .i64 (min x9 x11))) (ex_move rfl hE rfl) ?_
                          intro a hE
                          refine s_val (wk1 hE rfl rfl rfl hb15) rfl rfl hE hp (v := (.bool (!decide (x15 = (min x9 x11))))) (ex_neq rfl hE rfl rfl) ?_
                          intro a hE
                          refine s_val (wk0 rfl) rfl rfl hE hp (v := (.bool (!decide (x15 = (min x9 x11))))) (ex_pick0 rfl hE rfl hb15 rfl) ?_
                          intro a hE
                          obtain rfl := Option.some.inj hg4
                          exact s_nil ⟨hE.cut ⟨rfl, rfl, rfl, rfl, rfl, rfl, rfl, rfl, trivial⟩, hp⟩
                      · rintro a w ⟨hE, hp⟩
                        refine s_nil ?_
                        refine k_if hE rfl (fun hb16 => ?_) (fun hb16 => ?_)
                        · replace hl4 := (it hb16).symm.trans hl4
                          refine k_seq ?_
                          obtain ⟨x16, ex16, hl4⟩ := bnd hl4
                          obtain ⟨x17, ex17, hl4⟩ := bnd hl4
                          obtain ⟨x18, ex18, hl4⟩ := bnd hl4
                          obtain ⟨x19, ex19, hl4⟩ := bnd hl4
                          have hp := hp.drew
                          refine k_heldV ([([], At0 Z ρ)] : Facts) (fun a w => Env 165 [(0, (.int .i64 p0)), (1, vp1), (6, (.slice (some ⟨b1, 0, none⟩) 0 0)), (8, w2), (11, (.int .i64 lp4_1))] a ∧ Hp Z ρ (OwnSl 3 w2 ((lp4_2.set x16.a.toNat (min x9 x11)).set x17.b.toNat (min x9 x11)) :: Pt b1 (.cells #[] 23 (0, 0)) :: L) w) (by kernel_rfl) ⟨fun _ => ⟨_, hp⟩, trivial⟩ (fun hS => ?_) ?_
                          ·
                            generalize w.drew = w at hS hp ⊢
                            refine v_take0 0 (wk0 rfl) rfl rfl rfl hE (by kernel_rfl) (by kernel_rfl) (by kernel_rfl) rfl (by kernel_rfl) hS (v := w2) (fun _ => ex_move rfl hE rfl) ?_
                            intro a hE hS
                            refine v_take0 1 (wk0 rfl) rfl rfl rfl hE (by kernel_rfl) (by kernel_rfl) (by kernel_rfl) rfl (by kernel_rfl) hS (v := vp1) (fun _ => ex_move rfl hE rfl) ?_
                            intro a hE hS
                            refine v_take0 2 (wk0 rfl) rfl rfl rfl hE (by kernel_rfl) (by kernel_rfl) (by kernel_rfl) rfl (by kernel_rfl) hS (v := (.int .i64 lp4_1)) (fun _ => ex_move rfl hE rfl) ?_
                            intro a hE hS
                            obtain ⟨b24, b24o, b24c, b24r, b24k, b24f⟩ := RoSl.at hp1 slty37 ex16
                            obtain rfl : b24c = Enc.enc x16 := b24k
                            have b24f : AtP ρ b24 b24o [(.int .i64 x16.a), (.int .i64 x16.b), (.int .i64 x16.shared), (.int .i64 x16.total)] := b24f
                            refine v_take0 3 (wk0 rfl) rfl rfl rfl hE (by kernel_rfl) (by kernel_rfl) (by kernel_rfl) rfl (by kernel_rfl) hS (v := (.pointer (some ⟨b24, b24o, none⟩))) (fun _ => ex_index rfl hE rfl rfl b24r) ?_
                            intro a hE hS
                            refine v_take0 4 (wk0 rfl) rfl rfl rfl hE (by kernel_rfl) (by kernel_rfl) (by kernel_rfl) rfl (by kernel_rfl) hS (v := (.pointer (some ⟨b24, b24o, none⟩))) (fun _ => ex_field rfl hE rfl (fldty52_0 _ _)) ?_
                            intro a hE hS
                            refine v_take0 5 (wk0 rfl) rfl rfl rfl hE (by kernel_rfl) (by kernel_rfl) (by kernel_rfl) rfl (by kernel_rfl) hS (v := (.int .i64 x16.a)) (fun _ => ex_load rfl hE rfl (fun w hw => run_ld1 varty3 (b24f.c 0 rfl w hw))) ?_
                            intro a hE hS
                            refine v_take0 6 (wk0 rfl) rfl rfl rfl hE (by kernel_rfl) (by kernel_rfl) (by kernel_rfl) rfl (by kernel_rfl) hS (v := w2) (fun _ => ex_move rfl hE rfl) ?_
                            intro a hE hS
                            refine v_take0 7 (wk0 rfl) rfl rfl rfl hE (by kernel_rfl) (by kernel_rfl) (by kernel_rfl) rfl (by kernel_rfl) hS (v := vp1) (fun _ => ex_move rfl hE rfl) ?_
                            intro a hE hS
                            refine v_take0 8 (wk0 rfl) rfl rfl rfl hE (by kernel_rfl) (by kernel_rfl) (by kernel_rfl) rfl (by kernel_rfl) hS (v := (.int .i64 lp4_1)) (fun _ => ex_move rfl hE rfl) ?_
                            intro a hE hS
                            obtain ⟨b25, b25o, b25c, b25r, b25k, b25f⟩ := RoSl.at hp1 slty37 ex17
                            obtain rfl : b25c = Enc.enc x17 := b25k
                            have b25f : AtP ρ b25 b25o [(.int .i64 x17.a), (.int .i64 x17.b), (.int .i64 x17.shared), (.int .i64 x17.total)] := b25f
                            refine v_take0 9 (wk0 rfl) rfl rfl rfl hE (by kernel_rfl) (by kernel_rfl) (by kernel_rfl) rfl (by kernel_rfl) hS (v := (.pointer (some ⟨b25, b25o, none⟩))) (fun _ => ex_index rfl hE rfl rfl b25r) ?_
                            intro a hE hS
                            refine v_take0 10 (wk0 rfl) rfl rfl rfl hE (by kernel_rfl) (by kernel_rfl) (by kernel_rfl) rfl (by kernel_rfl) hS (v := (.pointer (some ⟨b25, b25o + 1, none⟩))) (fun _ => ex_field rfl hE rfl (fldty52_1 _ _)) ?_
                            intro a hE hS
                            refine v_take0 11 (wk0 rfl) rfl rfl rfl hE (by kernel_rfl) (by kernel_rfl) (by kernel_rfl) rfl (by kernel_rfl) hS (v := (.int .i64 x17.b)) (fun _ => ex_load rfl hE rfl (fun w hw => run_ld1 varty3 (b25f.c 1 rfl w hw))) ?_
                            intro a hE hS
                            refine v_take0 12 (wk0 rfl) rfl rfl rfl hE (by kernel_rfl) (by kernel_rfl) (by kernel_rfl) rfl (by kernel_rfl) hS (v := (.int .i64 (min x9 x11))) (fun _ => ex_move rfl hE rfl) ?_
                            intro a hE hS
                            refine v_take0 13 (wk0 rfl) rfl rfl rfl hE (by kernel_rfl) (by kernel_rfl) (by kernel_rfl) rfl (by kernel_rfl) hS (v := (.int .i64 (min x9 x11))) (fun _ => ex_move rfl hE rfl) ?_
                            intro a hE hS
                            obtain ⟨b26, b26o, b26r, b26v, b26f⟩ := OwnSl.at hp 0 rfl slty23 ex18
                            have b26f : ∀ (j : Nat) (u : Value), ([(.int .i64 x18)] : List Value)[j]? = some u → ∀ ρ' L' w, Hp Z ρ' (OwnSl 3 w2 lp4_2 :: L') w → w.cell? ⟨b26, b26o + j, none⟩ = some u := b26f
                            refine v_take0 14 (wk0 rfl) rfl rfl rfl hE (by kernel_rfl) (by kernel_rfl) (by kernel_rfl) rfl (by kernel_rfl) hS (v := (.pointer (some ⟨b26, b26o, none⟩))) (fun _ => ex_index rfl hE rfl rfl b26r) ?_
                            intro a hE hS
                            refine v_all [15] (by kernel_rfl) rfl ?_
                            refine List.forall_mem_cons.2 ⟨?_, fun _ h => absurd h (by simp)⟩
                            ·
                              refine h_op rfl ?_
                              refine s_stel (wk0 rfl) rfl hE hp rfl rfl rfl 0 rfl ex18 b26v 0 (e' := min x9 x11) varty3.size_ rfl rfl rfl ⟨rfl, rfl⟩ ?_
                              intro w hp
                              have hp : Hp Z ρ (OwnSl 3 w2 (lp4_2.set x16.a.toNat (min x9 x11)) :: _ :: L) w := hp
                              refine s_nil (and_with ⟨fun _ => ⟨_, hp⟩, trivial⟩ fun hS => ?_)
                              obtain ⟨b27, b27o, b27r, b27v, b27f⟩ := OwnSl.at hp 0 rfl slty23 ex19
                              have b27f : ∀ (j : Nat) (u : Value), ([(.int .i64 x19)] : List Value)[j]? = some u → ∀ ρ' L' w, Hp Z ρ' (OwnSl 3 w2 (lp4_2.set x16.a.toNat (min x9 x11)) :: L') w → w.cell? ⟨b27, b27o + j, none⟩ = some u := b27f
                              refine v_take0 16 (wk0 rfl) rfl rfl rfl hE (by kernel_rfl) (by kernel_rfl) (by kernel_rfl) rfl (by kernel_rfl) hS (v := (.pointer (some ⟨b27, b27o, none⟩))) (fun _ => ex_index rfl hE rfl rfl b27r) ?_
                              intro a hE hS
                              refine v_all [17] (by kernel_rfl) rfl ?_
                              refine List.forall_mem_cons.2 ⟨?_, fun _ h => absurd h (by simp)⟩
                              ·
                                refine h_op rfl ?_
                                refine s_stel (wk0 rfl) rfl hE hp rfl rfl rfl 0 rfl ex19 b27v 0 (e' := min x9 x11) varty3.size_ rfl rfl rfl ⟨rfl, rfl⟩ ?_
                                intro w hp
                                have hp : Hp Z ρ (OwnSl 3 w2 ((lp4_2.set x16.a.toNat (min x9 x11)).set x17.b.toNat (min x9 x11)) :: _ :: L) w := hp
                                refine s_nil (and_with ⟨fun _ => ⟨_, hp⟩, trivial⟩ fun hS => ?_)
                                exact v_done (by kernel_rfl) ⟨hE.cut ⟨rfl, rfl, rfl, rfl, rfl, trivial⟩, hp⟩
                          · rintro a w ⟨hE, hp⟩
                            refine k_region ?_
                            refine s_val (wk0 rfl) rfl rfl hE hp (v := (.bool true)) (ex_asn rfl hE rfl) ?_
                            intro a hE
                            refine s_nil ?_
                            refine k_region ?_
                            refine s_val (wk0 rfl) rfl rfl hE hp (v := (.int .i64 lp4_1)) (ex_move rfl hE rfl) ?_
                            intro a hE
                            obtain ⟨x20, ex20, hl4⟩ := bnd hl4
                            refine s_val (wk0 rfl) rfl rfl hE hp (v := (.int .i64 x20)) (ex_add rfl hE rfl rfl (inK_some ex20)) ?_
                            intro a hE
                            refine s_val (wk0 rfl) rfl rfl hE hp (v := (.int .i64 x20)) (ex_asn rfl hE rfl) ?_
                            intro a hE
                            refine s_nil ?_
                            exact ⟨_, (Option.some.inj hl4).symm, _, hE.cut ⟨rfl, rfl, rfl, rfl, rfl, rfl, trivial⟩, hp⟩
                        · replace hl4 := (ie hb16).symm.trans hl4
                          refine k_skip ?_
                          refine k_region ?_
                          refine s_val (wk0 rfl) rfl rfl hE hp (v := (.int .i64 lp4_1)) (ex_move rfl hE rfl) ?_
                          intro a hE
                          obtain ⟨x21, ex21, hl4⟩ := bnd hl4
                          refine s_val (wk0 rfl) rfl rfl hE hp (v := (.int .i64 x21)) (ex_add rfl hE rfl rfl (inK_some ex21)) ?_
                          intro a hE
                          refine s_val (wk0 rfl) rfl rfl hE hp (v := (.int .i64 x21)) (ex_asn rfl hE rfl) ?_
                          intro a hE
                          refine s_nil ?_
                          exact ⟨_, (Option.some.inj hl4).symm, _, hE.cut ⟨rfl, rfl, rfl, rfl, rfl, rfl, trivial⟩, hp⟩
                    · replace hl4 := (ie hb14).symm.trans hl4
                      refine k_exit ?_
                      refine ⟨_, (Option.some.inj hl4).symm, fun hbb => ?_⟩
                      subst hbb
                      exact ⟨_, hE.cut ⟨rfl, rfl, rfl, rfl, rfl, trivial⟩, hp⟩
                · rintro a w ⟨w2, hE, hp⟩
                  exact ⟨_, (Option.some.inj hl3).symm, _, hE.cut ⟨rfl, rfl, rfl, rfl, rfl, trivial⟩, hp⟩
              · replace hl3 := (ie hb12).symm.trans hl3
                refine k_exit ?_
                refine ⟨_, (Option.some.inj hl3).symm, fun hbb => ?_⟩
                subst hbb
                exact ⟨_, hE.cut ⟨rfl, rfl, rfl, trivial⟩, hp⟩
          · rintro a w ⟨w2, hE, hp⟩
            refine k_seq ?_
            refine k_seq ?_
            refine k_region ?_
            refine s_val (wk0 rfl) rfl rfl hE hp (v := (.int .i64 0)) (ex_asn rfl hE rfl) ?_
            intro a hE
            refine s_nil ?_
            have hp := hp.emp (TblA.none (α := Int) 23 3 (some ⟨b1, 0, none⟩))
            have hp : Hp Z ρ (TblA 23 3 (.slice (some ⟨b1, 0, none⟩) 0 0) ([]) ([] : (List (List Int))) :: OwnSl 3 w2 b10 :: _ :: L) w := hp
            obtain ⟨b28, hb17, hm⟩ := bnd hm
            refine k_block (fun a w => ∃ (w12 : Value) (us12 : List Sl), Env 165 [(6, w12)] a ∧ Hp Z ρ (TblA 23 3 w12 us12 (b28 : (List (List Int))) :: OwnSl 3 w2 b10 :: Pt b1 (.cells #[] 23 (0, 0)) :: L) w) ?_ ?_
            · refine k_loop hb17 (fun s a w => ∃ (w12 : Value) (us12 : List Sl), Env 165 [(0, (.int .i64 p0)), (6, w12), (8, w2), (13, (.int .i64 s.1))] a ∧ Hp Z ρ (TblA 23 3 w12 us12 (s.2 : (List (List Int))) :: OwnSl 3 w2 b10 :: Pt b1 (.cells #[] 23 (0, 0)) :: L) w) ?_ ?_
              · exact ⟨_, _, hE.cut ⟨rfl, rfl, rfl, rfl, trivial⟩, hp⟩
              · rintro ⟨lp5_0, lp5_1⟩ st a w ⟨w12, us12, hE, hp⟩ hl5
                have hE : Env 165 [(0, (.int .i64 p0)), (6, w12), (8, w2), (13, (.int .i64 lp5_0))] a := hE
                have hp : Hp Z ρ (TblA 23 3 w12 us12 (lp5_1 : (List (List Int))) :: _ :: _ :: L) w := hp
                replace hl5 : m_assessorref44_Clusters_lp5 p0 b10 lp5_0 lp5_1 = some st := hl5
                unfold m_assessorref44_Clusters_lp5 at hl5
                refine k_seq ?_
                refine k_seq ?_
                refine k_region ?_
                refine s_val (wk0 rfl) rfl rfl hE hp (v := (.int .i64 lp5_0)) (ex_move rfl hE rfl) ?_
                intro a hE
                refine s_val (wk0 rfl) rfl rfl hE hp (v := (.int .i64 p0)) (ex_move rfl hE rfl) ?_
                intro a hE
                refine s_val (wk0 rfl) rfl rfl hE hp (v := (.bool (decide (lp5_0 < p0)))) (ex_lss rfl hE rfl rfl) ?_
                intro a hE
                refine s_nil ?_
                refine k_if hE rfl (fun hb18 => ?_) (fun hb18 => ?_)
                · replace hl5 := (it hb18).symm.trans hl5
                  refine k_skip ?_
                  refine k_seq ?_
                  refine k_plain ?_
                  refine k_seq ?_
                  refine k_region ?_
                  refine s_lit (wk0 rfl) rfl rfl hE hp rfl [] trivial [] 3 (fun w => by simp [Instr.buildSlice, Instr.fill, Value.cells, go_sem]) ?_
                  intro a w b29 hE hp
                  have hp : Hp Z ρ (Pt b29 (.cells #[] 3 (0, 0)) :: _ :: _ :: _ :: L) w := hp
                  refine s_val (wk0 rfl) rfl rfl hE hp (v := (.slice (some ⟨b29, 0, none⟩) 0 0)) (ex_asn rfl hE rfl) ?_
                  intro a hE
                  refine s_nil ?_
                  refine k_seq ?_
                  refine k_seq ?_
                  refine k_region ?_
                  refine s_val (wk0 rfl) rfl rfl hE hp (v := (.int .i64 lp5_0)) (ex_move rfl hE rfl) ?_
                  intro a hE
                  refine s_val (wk0 rfl) rfl rfl hE hp (v := (.int .i64 lp5_0)) (ex_asn rfl hE rfl) ?_
                  intro a hE
                  refine s_nil ?_
                  have hp := (hp.get 0 rfl).imp (own_of_pt (l := (([] : List Int) : List Int)) (n := 0) rfl (by decide) rfl)
                  have hp : Hp Z ρ (OwnSl 3 (.slice (some ⟨b29, 0, none⟩) 0 0) ([] : List Int) :: _ :: _ :: _ :: L) w := hp
                  obtain ⟨b30, hb19, hl5⟩ := bnd hl5
                  refine k_block (fun a w => ∃ (w18 : Value), Env 165 [(0, (.int .i64 p0)), (6, w12), (8, w2), (13, (.int .i64 lp5_0)), (14, w18)] a ∧ Hp Z ρ (OwnSl 3 w18 b30 :: TblA 23 3 w12 us12 (lp5_1 : (List (List Int))) :: OwnSl 3 w2 b10 :: Pt b1 (.cells #[] 23 (0, 0)) :: L) w) ?_ ?_
                  · refine k_loop hb19 (fun s a w => ∃ (w18 : Value), Env 165 [(0, (.int .i64 p0)), (6, w12), (8, w2), (13, (.int .i64 lp5_0)), (14, w18), (15, (.int .i64 s.1))] a ∧ Hp Z ρ (OwnSl 3 w18 s.2 :: TblA 23 3 w12 us12 (lp5_1 : (List (List Int))) :: OwnSl 3 w2 b10 :: Pt b1 (.cells #[] 23 (0, 0)) :: L) w) ?_ ?_
                    · exact ⟨_, hE.cut ⟨rfl, rfl, rfl, rfl, rfl, rfl, trivial⟩, hp⟩
                    · rintro ⟨lp6_0, lp6_1⟩ st a w ⟨w18, hE, hp⟩ hl6
                      have hE : Env 165 [(0, (.int .i64 p0)), (6, w12), (8, w2), (13, (.int .i64 lp5_0)), (14, w18), (15, (.int .i64 lp6_0))] a := hE
                      have hp : Hp Z ρ (OwnSl 3 w18 lp6_1 :: _ :: _ :: _ :: L) w := hp
                      replace hl6 : m_assessorref44_Clusters_lp6 p0 b10 lp5_0 lp6_0 lp6_1 = some st := hl6
                      unfold m_assessorref44_Clusters_lp6 at hl6
                      refine k_seq ?_
                      refine k_seq ?_
                      refine k_region ?_
                      refine s_val (wk0 rfl) rfl rfl hE hp (v := (.int .i64 lp6_0)) (ex_move rfl hE rfl) ?_
                      intro a hE
                      refine s_val (wk0 rfl) rfl rfl hE hp (v := (.int .i64 p0)) (ex_move rfl hE rfl) ?_
                      intro a hE
                      refine s_val (wk0 rfl) rfl rfl hE hp (v := (.bool (decide (lp6_0 < p0)))) (ex_lss rfl hE rfl rfl) ?_
                      intro a hE
                      refine s_nil ?_
                      refine k_if hE rfl (fun hb20 => ?_) (fun hb20 => ?_)
                      · replace hl6 := (it hb20).symm.trans hl6
                        refine k_skip ?_
                        refine k_seq ?_
                        refine k_plain ?_
                        refine k_seq ?_
                        refine k_region ?_
                        refine s_val (wk0 rfl) rfl rfl hE hp (v := w2) (ex_move rfl hE rfl) ?_
                        intro a hE
                        refine s_val (wk0 rfl) rfl rfl hE hp (v := (.int .i64 lp6_0)) (ex_move rfl hE rfl) ?_
                        intro a hE
                        obtain ⟨x22, ex22, hl6⟩ := bnd hl6
                        obtain ⟨b31, b31o, b31r, b31v, b31f⟩ := OwnSl.at hp 2 rfl slty23 ex22
                        have b31f : ∀ (j : Nat) (u : Value), ([(.int .i64 x22)] : List Value)[j]? = some u → ∀ ρ' L' w, Hp Z ρ' (OwnSl 3 w2 b10 :: L') w → w.cell? ⟨b31, b31o + j, none⟩ = some u := b31f
                        refine s_val (wk0 rfl) rfl rfl hE hp (v := (.pointer (some ⟨b31, b31o, none⟩))) (ex_index rfl hE rfl rfl b31r) ?_
                        intro a hE
                        refine s_val (wk0 rfl) rfl rfl hE hp (v := (.int .i64 x22)) (ex_load rfl hE rfl (fun w hw => run_ld1 varty3 (b31f 0 _ rfl _ _ w (hw.get 2 rfl)))) ?_
                        intro a hE
                        refine s_val (wk0 rfl) rfl rfl hE hp (v := (.int .i64 lp5_0)) (ex_move rfl hE rfl) ?_
                        intro a hE
                        refine s_val (wk0 rfl) rfl rfl hE hp (v := (.bool (decide (x22 = lp5_0)))) (ex_eql rfl hE rfl rfl) ?_
                        intro a hE
                        refine s_nil ?_
                        have hE := hE.cut (E' := [(0, (.int .i64 p0)), (6, w12), (8, w2), (13, (.int .i64 lp5_0)), (14, w18), (15, (.int .i64 lp6_0)), (152, (.bool (decide (x22 = lp5_0))))]) ⟨rfl, rfl, rfl, rfl, rfl, rfl, rfl, trivial⟩
                        refine k_if hE rfl (fun hb21 => ?_) (fun hb21 => ?_)
                        · replace hl6 := (it hb21).symm.trans hl6
                          refine k_region ?_
                          refine s_val (wk0 rfl) rfl rfl hE hp (v := w18) (ex_move rfl hE rfl) ?_
                          intro a hE
                          refine s_val (wk0 rfl) rfl rfl hE hp (v := (.int .i64 lp6_0)) (ex_move rfl hE rfl) ?_
                          intro a hE
                          refine s_lit (wk0 rfl) rfl rfl hE hp rfl [(0, (.int .i64 lp6_0))] ⟨⟨rfl, rfl⟩, trivial⟩ [(.int .i64 lp6_0)] 3 (fun w => by simp [Instr.buildSlice, Instr.fill, Value.cells, go_sem]) ?_
                          intro a w b32 hE hp
                          have hp : Hp Z ρ (Pt b32 (.cells #[(.int .i64 lp6_0)] 3 (0, 0)) :: _ :: _ :: _ :: _ :: L) w := hp
                          obtain ⟨x23, ex23, hl6⟩ := bnd hl6
                          refine s_app (wk0 rfl) rfl rfl hE hp rfl slty23 rfl rfl 1 rfl rfl (l2 := [lp6_0]) rfl (fun j u hj => by have := Hp.cN 0 rfl 0 _ (sub_all rfl) w hp j u hj; simpa using this) ex23 ?_
                          intro v2 a w hE hp
                          have hp : Hp Z ρ (_ :: OwnSl 3 v2 x23 :: _ :: _ :: _ :: L) w := hp
                          refine s_val (wk0 rfl) rfl rfl hE hp (v := v2) (ex_asn rfl hE rfl) ?_
                          intro a hE
                          refine s_nil ?_
                          refine k_region ?_
                          refine s_val (wk0 rfl) rfl rfl hE hp (v := (.int .i64 lp6_0)) (ex_move rfl hE rfl) ?_
                          intro a hE
                          obtain ⟨x24, ex24, hl6⟩ := bnd hl6
                          refine s_val (wk0 rfl) rfl rfl hE hp (v := (.int .i64 x24)) (ex_add rfl hE rfl rfl (inK_some ex24)) ?_
                          intro a hE
                          refine s_val (wk0 rfl) rfl rfl hE hp (v := (.int .i64 x24)) (ex_asn rfl hE rfl) ?_
                          intro a hE
                          refine s_nil ?_
                          exact ⟨_, (Option.some.inj hl6).symm, _, hE.cut ⟨rfl, rfl, rfl, rfl, rfl, rfl, trivial⟩, (hp.drop)⟩
                        · replace hl6 := (ie hb21).symm.trans hl6
                          refine k_skip ?_
                          refine k_region ?_
                          refine s_val (wk0 rfl) rfl rfl hE hp (v := (.int .i64 lp6_0)) (ex_move rfl hE rfl) ?_
                          intro a hE
                          obtain ⟨x25, ex25, hl6⟩ := bnd hl6
                          refine s_val (wk0 rfl) rfl rfl hE hp (v := (.int .i64 x25)) (ex_add rfl hE rfl rfl (inK_some ex25)) ?_
                          intro a hE
                          refine s_val (wk0 rfl) rfl rfl hE hp (v := (.int .i64 x25)) (ex_asn rfl hE rfl) ?_
                          intro a hE
                          refine s_nil ?_
                          exact ⟨_, (Option.some.inj hl6).symm, _, hE.cut ⟨rfl, rfl, rfl, rfl, rfl, rfl, trivial⟩, hp⟩
                      · replace hl6 := (ie hb20).symm.trans hl6
                        refine k_exit ?_
                        refine ⟨_, (Option.some.inj hl6).symm, fun hbb => ?_⟩
                        subst hbb
                        exact ⟨_, hE.cut ⟨rfl, rfl, rfl, rfl, rfl, trivial⟩, hp⟩
                  · rintro a w ⟨w18, hE, hp⟩
                    refine k_seq ?_
                    refine k_region ?_
                    refine s_val (wk0 rfl) rfl rfl hE hp (v := w18) (ex_move rfl hE rfl) ?_
                    intro a hE
                    refine s_val (wk0 rfl) rfl rfl hE hp (v := (.int .i64 (b30.length : Int))) (ex_len rfl hE rfl (OwnSl.len hp 0 rfl slty23)) ?_
                    intro a hE
                    refine s_val (wk0 rfl) rfl rfl hE hp (v := (.bool (decide (1 < (b30.length : Int))))) (ex_gtr rfl hE rfl rfl) ?_
                    intro a hE
                    refine s_nil ?_
                    refine k_if hE rfl (fun hb22 => ?_) (fun hb22 => ?_)
                    · replace hl5 := (it hb22).symm.trans hl5
                      refine k_region ?_
                      refine s_val (wk0 rfl) rfl rfl hE hp (v := w12) (ex_move rfl hE rfl) ?_
                      intro a hE
                      refine s_val (wk0 rfl) rfl rfl hE hp (v := w18) (ex_move rfl hE rfl) ?_
                      intro a hE
                      refine s_lit (wk0 rfl) rfl rfl hE hp rfl [(0, w18)] ⟨⟨rfl, rfl⟩, trivial⟩ [w18] 23 (fun w => by have hc0 := OwnSl.cells hp 0 rfl; simp only [Value.cells] at hc0; simp [Instr.buildSlice, Instr.fill, Value.cells, hc0, go_sem]) ?_
                      intro a w b33 hE hp
                      have hp : Hp Z ρ (Pt b33 (.cells #[w18] 23 (0, 0)) :: OwnSl 3 w18 b30 :: _ :: _ :: _ :: L) w := hp
                      obtain ⟨x26, ex26, hl5⟩ := bnd hl5
                      obtain ⟨sl1, sl1e⟩ := OwnSl.toSl hp 1 rfl
                      refine s_tapp (wk0 rfl) rfl rfl hE sl1e (hp.get 1 rfl) rfl slty45 rfl rfl 1 rfl rfl (Hp.c 0 rfl 0 rfl w hp) ex26 ?_
                      intro v3 us1 a w hE hp
                      have hp : Hp Z ρ (_ :: TblA 23 3 v3 us1 (x26 : (List (List Int))) :: _ :: _ :: L) w := hp
                      refine s_val (wk0 rfl) rfl rfl hE hp (v := v3) (ex_asn rfl hE rfl) ?_
                      intro a hE
                      refine s_nil ?_
                      have hE := hE.cut (E' := [(0, (.int .i64 p0)), (6, v3), (8, w2), (13, (.int .i64 lp5_0))]) ⟨rfl, rfl, rfl, rfl, trivial⟩
                      refine k_region ?_
                      refine s_val (wk0 rfl) rfl rfl hE hp (v := (.int .i64 lp5_0)) (ex_move rfl hE rfl) ?_
                      intro a hE
                      obtain ⟨x27, ex27, hl5⟩ := bnd hl5
                      refine s_val (wk0 rfl) rfl rfl hE hp (v := (.int .i64 x27)) (ex_add rfl hE rfl rfl (inK_some ex27)) ?_
                      intro a hE
                      refine s_val (wk0 rfl) rfl rfl hE hp (v := (.int .i64 x27)) (ex_asn rfl hE rfl) ?_
                      intro a hE
                      refine s_nil ?_
                      exact ⟨_, (Option.some.inj hl5).symm, _, _, hE.cut ⟨rfl, rfl, rfl, rfl, trivial⟩, (hp.drop)⟩
                    · replace hl5 := (ie hb22).symm.trans hl5
                      refine k_skip ?_
                      refine k_region ?_
                      refine s_val (wk0 rfl) rfl rfl hE hp (v := (.int .i64 lp5_0)) (ex_move rfl hE rfl) ?_
                      intro a hE
                      obtain ⟨x28, ex28, hl5⟩ := bnd hl5
                      refine s_val (wk0 rfl) rfl rfl hE hp (v := (.int .i64 x28)) (ex_add rfl hE rfl rfl (inK_some ex28)) ?_
                      intro a hE
                      refine s_val (wk0 rfl) rfl rfl hE hp (v := (.int .i64 x28)) (ex_asn rfl hE rfl) ?_
                      intro a hE
                      refine s_nil ?_
                      exact ⟨_, (Option.some.inj hl5).symm, _, _, hE.cut ⟨rfl, rfl, rfl, rfl, trivial⟩, (hp.drop)⟩
                · replace hl5 := (ie hb18).symm.trans hl5
                  refine k_exit ?_
                  refine ⟨_, (Option.some.inj hl5).symm, fun hbb => ?_⟩
                  subst hbb
                  exact ⟨_, _, hE.cut ⟨rfl, trivial⟩, hp⟩
            · rintro a w ⟨w12, us12, hE, hp⟩
              refine k_seq ?_
              refine k_region ?_
              refine s_val (wk0 rfl) rfl rfl hE hp (v := w12) (ex_move rfl hE rfl) ?_
              intro a hE
              refine s_val (wk0 rfl) rfl rfl hE hp (v := w12) (ex_asn rfl hE rfl) ?_
              intro a hE
              refine s_val (wk0 rfl) rfl rfl hE hp (v := (.int .i64 0)) (ex_asn rfl hE rfl) ?_
              intro a hE
              refine s_nil ?_
              refine k_ret ?_
              obtain ⟨k3, k3a, k3d, hp⟩ := (hp.get 0 rfl).lend
              have f3 : RoSl (ρ.un k3) w12 (b28 : (List (List Int))) := TblA.ro k3d k3a
              have hp : Hp Z (ρ.un k3) (_ :: _ :: L) w := hp
              obtain rfl := Option.some.inj hm
              exact ret2 hE rfl rfl rfl ⟨_, rfl, _, _, (PH.le_un _ k3), rfl, f3, (((hp.get 1 rfl).drop).drop)⟩
/- assessor/assessorref44.match -/
set_option maxRecDepth 100000 in
set_option maxHeartbeats 4000000 in
theorem c_assessorref44_match {Z : World} {ρ : PH} {L : List Atom} {w : World} (p0 : (List Mark)) (vp0 : Value) (hp0 : RoSl ρ vp0 p0) (p1 : (List Mark)) (vp1 : Value) (hp1 : RoSl ρ vp1 p1) (p2 : Int) (p3 : Int) (hp : Hp Z ρ (L) w) (r : Bool) (hm : m_assessorref44_match p0 p1 p2 p3 = some r) :
    Calls Try.prog 56 #[vp0, vp1, (.int .i64 p2), (.int .i64 p3)] w (Ret fun v w' => v = (.bool r) ∧ Hp Z ρ (L) w') := by
  refine enter (N := 52) Try.func56 rfl rfl [(0, vp0), (1, vp1), (2, (.int .i64 p2)), (3, (.int .i64 p3))] rfl (argsIn_mem ⟨rfl, rfl, rfl, rfl, trivial⟩) fun a hE => ?_
  unfold m_assessorref44_match at hm
  refine k_seq ?_
  refine k_region ?_
  refine s_val (wk0 rfl) rfl rfl hE hp (v := (.bool false)) (ex_asn rfl hE rfl) ?_
  intro a hE
  refine s_nil ?_
  refine k_seq ?_
  refine k_seq ?_
  refine k_region ?_
  refine s_val (wk0 rfl) rfl rfl hE hp (v := (.int .i64 0)) (ex_asn rfl hE rfl) ?_
  intro a hE
  refine s_nil ?_
  obtain ⟨b1, hb1, hm⟩ := bnd hm
  refine k_block (fun a w => ∃ s : Unit, b1 = .brk s ∧ (Env 52 [] a ∧ Hp Z ρ (L) w)) ?_ ?_
  · refine k_loop hb1 (fun s a w => Env 52 [(0, vp0), (1, vp1), (2, (.int .i64 p2)), (3, (.int .i64 p3)), (9, (.int .i64 s))] a ∧ Hp Z ρ (L) w) ?_ ?_
    · exact ⟨hE.cut ⟨rfl, rfl, rfl, rfl, rfl, trivial⟩, hp⟩
    · rintro lp1_0 st a w ⟨hE, hp⟩ hl1
      have hE : Env 52 [(0, vp0), (1, vp1), (2, (.int .i64 p2)), (3, (.int .i64 p3)), (9, (.int .i64 lp1_0))] a := hE
      have hp : Hp Z ρ (L) w := hp
      replace hl1 : m_assessorref44_match_lp1 p0 p1 p2 p3 lp1_0 = some st := hl1
      unfold m_assessorref44_match_lp1 at hl1
      refine k_seq ?_
      refine k_seq ?_
      refine k_region ?_
      refine s_val (wk0 rfl) rfl rfl hE hp (v := (.int .i64 lp1_0)) (ex_move rfl hE rfl) ?_
      intro a hE
      refine s_val (wk0 rfl) rfl rfl hE hp (v := vp0) (ex_move rfl hE rfl) ?_
      intro a hE
      refine s_val (wk0 rfl) rfl rfl hE hp (v := (.int .i64 (p0.length : Int))) (ex_len rfl hE rfl (RoSl.len hp0 slty26)) ?_
      intro a hE
      refine s_val (wk0 rfl) rfl rfl hE hp (v := (.bool (decide (lp1_0 < (p0.length : Int))))) (ex_lss rfl hE rfl rfl) ?_
      intro a hE
      refine s_nil ?_
      refine k_if hE rfl (fun hb2 => ?_) (fun hb2 => ?_)
      · replace hl1 := (it hb2).symm.trans hl1
        refine k_skip ?_
        refine k_seq ?_
        refine k_plain ?_
        refine k_seq ?_
        refine k_region ?_
        refine s_val (wk0 rfl) rfl rfl hE hp (v := (.int .i64 0)) (ex_asn rfl hE rfl) ?_
        intro a hE
        refine s_nil ?_
        obtain ⟨b2, hb3, hl1⟩ := bnd hl1
        refine k_block (fun a w => ∃ s : Unit, b2 = .brk s ∧ (Env 52 [(0, vp0), (1, vp1), (2, (.int .i64 p2)), (3, (.int .i64 p3)), (9, (.int .i64 lp1_0))] a ∧ Hp Z ρ (L) w)) ?_ ?_
        · refine k_loop hb3 (fun s a w => Env 52 [(0, vp0), (1, vp1), (2, (.int .i64 p2)), (3, (.int .i64 p3)), (9, (.int .i64 lp1_0)), (10, (.int .i64 s))] a ∧ Hp Z ρ (L) w) ?_ ?_
          · exact ⟨hE.cut ⟨rfl, rfl, rfl, rfl, rfl, rfl, trivial⟩, hp⟩
          · rintro lp2_0 st a w ⟨hE, hp⟩ hl2
            have hE : Env 52 [(0, vp0), (1, vp1), (2, (.int .i64 p2)), (3, (.int .i64 p3)), (9, (.int .i64 lp1_0)), (10, (.int .i64 lp2_0))] a := hE
            have hp : Hp Z ρ (L) w := hp
            replace hl2 : m_assessorref44_match_lp2 p0 p1 p2 p3 lp1_0 lp2_0 = some st := hl2
            unfold m_assessorref44_match_lp2 at hl2
            refine k_seq ?_
            refine k_seq ?_
            refine k_region ?_
            refine s_val (wk0 rfl) rfl rfl hE hp (v := (.int .i64 lp2_0)) (ex_move rfl hE rfl) ?_
            intro a hE
            refine s_val (wk0 rfl) rfl rfl hE hp (v := vp1) (ex_move rfl hE rfl) ?_
            intro a hE
            refine s_val (wk0 rfl) rfl rfl hE hp (v := (.int .i64 (p1.length : Int))) (ex_len rfl hE rfl (RoSl.len hp1 slty26)) ?_
            intro a hE
            refine s_val (wk0 rfl) rfl rfl hE hp (v := (.bool (decide (lp2_0 < (p1.length : Int))))) (ex_lss rfl hE rfl rfl) ?_
            intro a hE
            refine s_nil ?_
            refine k_if hE rfl (fun hb4 => ?_) (fun hb4 => ?_)
            · replace hl2 := (it hb4).symm.trans hl2
              refine k_skip ?_
              refine k_seq ?_
              refine k_plain ?_
              refine k_seq ?_
              refine k_quiet (by kernel_rfl) (by kernel_rfl) hp ?_
              refine q_val (wk0 rfl) rfl rfl hE (v := vp0) (ex_move rfl hE rfl) ?_
              intro a hE
              refine q_val (wk0 rfl) rfl rfl hE (v := (.int .i64 lp1_0)) (ex_move rfl hE rfl) ?_
              intro a hE
              obtain ⟨x1, ex1, hl2⟩ := bnd hl2
              obtain ⟨b3, b3o, b3c, b3r, b3k, b3f⟩ := RoSl.at hp0 slty26 ex1
              obtain rfl : b3c = Enc.enc x1 := b3k
              have b3f : AtP ρ b3 b3o [(.int .i64 x1.hash), (.int .i64 x1.at_)] := b3f
              refine q_val (wk0 rfl) rfl rfl hE (v := (.pointer (some ⟨b3, b3o, none⟩))) (ex_index rfl hE rfl rfl b3r) ?_
              intro a hE
              refine q_val (wk0 rfl) rfl rfl hE (v := (.pointer (some ⟨b3, b3o + 1, none⟩))) (ex_field rfl hE rfl (fldty65_1 _ _)) ?_
              intro a hE
              refine q_val (wk0 rfl) rfl rfl hE (v := (.int .i64 x1.at_)) (ex_load rfl hE rfl (fun w hw => run_ld1 varty3 (b3f.c 1 rfl w hw))) ?_
              intro a hE
              refine q_val (wk0 rfl) rfl rfl hE (v := (.int .i64 p2)) (ex_move rfl hE rfl) ?_
              intro a hE
              refine q_val (wk0 rfl) rfl rfl hE (v := (.bool (decide (x1.at_ = p2)))) (ex_eql rfl hE rfl rfl) ?_
              intro a hE
              refine q_val (wk0 rfl) rfl rfl hE (v := (.bool (decide (x1.at_ = p2)))) (ex_move rfl hE rfl) ?_
              intro a hE
              obtain ⟨m1, hg1, hl2⟩ := bnd hl2
              refine q_cut [_, _, _, _, _, _, _, _] (fun a => Env 52 [(38, (.bool m1)), (0, vp0), (1, vp1), (2, (.int .i64 p2)), (3, (.int .i64 p3)), (9, (.int .i64 lp1_0)), (10, (.int .i64 lp2_0))] a) ?_ ?_
              · rcases Bool.eq_false_or_eq_true (decide (x1.at_ = p2)) with hb5 | hb5
                ·
                  replace hg1 := (it hb5).symm.trans hg1
                  refine q_val (wk1 hE rfl rfl rfl hb5) rfl rfl hE (v := vp1) (ex_move rfl hE rfl) ?_
                  intro a hE
                  refine q_val (wk1 hE rfl rfl rfl hb5) rfl rfl hE (v := (.int .i64 lp2_0)) (ex_move rfl hE rfl) ?_
                  intro a hE
                  obtain ⟨x2, ex2, hg1⟩ := bnd hg1
                  obtain ⟨b4, b4o, b4c, b4r, b4k, b4f⟩ := RoSl.at hp1 slty26 ex2
                  obtain rfl : b4c = Enc.enc x2 := b4k
                  have b4f : AtP ρ b4 b4o [(.int .i64 x2.hash), (.int .i64 x2.at_)] := b4f
                  refine q_val (wk1 hE rfl rfl rfl hb5) rfl rfl hE (v := (.pointer (some ⟨b4, b4o, none⟩))) (ex_index rfl hE rfl rfl b4r) ?_
                  intro a hE
                  refine q_val (wk1 hE rfl rfl rfl hb5) rfl rfl hE (v := (.pointer (some ⟨b4, b4o + 1, none⟩))) (ex_field rfl hE rfl (fldty65_1 _ _)) ?_
                  intro a hE
                  refine q_val (wk1 hE rfl rfl rfl hb5) rfl rfl hE (v := (.int .i64 x2.at_)) (ex_load rfl hE rfl (fun w hw => run_ld1 varty3 (b4f.c 1 rfl w hw))) ?_
                  intro a hE
                  refine q_val (wk1 hE rfl rfl rfl hb5) rfl rfl hE (v := (.int .i64 p3)) (ex_move rfl hE rfl) ?_
                  intro a hE
                  refine q_val (wk1 hE rfl rfl rfl hb5) rfl rfl hE (v := (.bool (decide (x2.at_ = p3)))) (ex_eql rfl hE rfl rfl) ?_
                  intro a hE
                  refine q_val (wk0 rfl) rfl rfl hE (v := (.bool (decide (x2.at_ = p3)))) (ex_pick1 rfl hE rfl hb5 rfl) ?_
                  intro a hE
                  obtain rfl := Option.some.inj hg1
                  exact q_nil (hE.cut ⟨rfl, rfl, rfl, rfl, rfl, rfl, rfl, trivial⟩)
                ·
                  replace hg1 := (ie hb5).symm.trans hg1
                  refine q_skip (wk2 hE rfl rfl rfl hb5) rfl rfl hE ?_
                  intro a hE
                  refine q_skip (wk2 hE rfl rfl rfl hb5) rfl rfl hE ?_
                  intro a hE
                  refine q_skip (wk2 hE rfl rfl rfl hb5) rfl rfl hE ?_
                  intro a hE
                  refine q_skip (wk2 hE rfl rfl rfl hb5) rfl rfl hE ?_
                  intro a hE
                  refine q_skip (wk2 hE rfl rfl rfl hb5) rfl rfl hE ?_
                  intro a hE
                  refine q_skip (wk2 hE rfl rfl rfl hb5) rfl rfl hE ?_
                  intro a hE
                  refine q_skip (wk2 hE rfl rfl rfl hb5) rfl rfl hE ?_
                  intro a hE
                  refine q_val (wk0 rfl) rfl rfl hE (v := (.bool false)) (ex_pick0 rfl hE rfl hb5 rfl) ?_
                  intro a hE
                  obtain rfl := Option.some.inj hg1
                  exact q_nil (hE.cut ⟨rfl, rfl, rfl, rfl, rfl, rfl, rfl, trivial⟩)
              · intro a hE
                refine q_val (wk0 rfl) rfl rfl hE (v := (.bool m1)) (ex_move rfl hE rfl) ?_
                intro a hE
                obtain ⟨m2, hg2, hl2⟩ := bnd hl2
                refine q_cut [_, _, _, _, _, _, _, _, _, _, _, _] (fun a => Env 52 [(51, (.bool m2)), (0, vp0), (1, vp1), (2, (.int .i64 p2)), (3, (.int .i64 p3)), (9, (.int .i64 lp1_0)), (10, (.int .i64 lp2_0))] a) ?_ ?_
                · rcases Bool.eq_false_or_eq_true m1 with hb6 | hb6
                  ·
                    replace hg2 := (it hb6).symm.trans hg2
                    refine q_val (wk1 hE rfl rfl rfl hb6) rfl rfl hE (v := vp0) (ex_move rfl hE rfl) ?_
                    intro a hE
                    refine q_val (wk1 hE rfl rfl rfl hb6) rfl rfl hE (v := (.int .i64 lp1_0)) (ex_move rfl hE rfl) ?_
                    intro a hE
                    obtain ⟨x3, ex3, hg2⟩ := bnd hg2
                    obtain ⟨b5, b5o, b5c, b5r, b5k, b5f⟩ := RoSl.at hp0 slty26 ex3
                    obtain rfl : b5c = Enc.enc x3 := b5k
                    have b5f : AtP ρ b5 b5o [(.int .i64 x3.hash), (.int .i64 x3.at_)] := b5f
                    refine q_val (wk1 hE rfl rfl rfl hb6) rfl rfl hE (v := (.pointer (some ⟨b5, b5o, none⟩))) (ex_index rfl hE rfl rfl b5r) ?_
                    intro a hE
                    refine q_val (wk1 hE rfl rfl rfl hb6) rfl rfl hE (v := (.pointer (some ⟨b5, b5o, none⟩))) (ex_field rfl hE rfl (fldty65_0 _ _)) ?_
                    intro a hE
                    refine q_val (wk1 hE rfl rfl rfl hb6) rfl rfl hE (v := (.int .i64 x3.hash)) (ex_load rfl hE rfl (fun w hw => run_ld1 varty3 (b5f.c 0 rfl w hw))) ?_
                    intro a hE
                    refine q_val (wk1 hE rfl rfl rfl hb6) rfl rfl hE (v := vp1) (ex_move rfl hE rfl) ?_
                    intro a hE
                    refine q_val (wk1 hE rfl rfl rfl hb6) rfl rfl hE (v := (.int .i64 lp2_0)) (ex_move rfl hE rfl) ?_
                    intro a hE
                    obtain ⟨x4, ex4, hg2⟩ := bnd hg2
                    obtain ⟨b6, b6o, b6c, b6r, b6k, b6f⟩ := RoSl.at hp1 slty26 ex4
                    obtain rfl : b6c = Enc.enc x4 := b6k
                    have b6f : AtP ρ b6 b6o [(.int .i64 x4.hash), (.int .i64 x4.at_)] := b6f
                    refine q_val (wk1 hE rfl rfl rfl hb6) rfl rfl hE (v := (.pointer (some ⟨b6, b6o, none⟩))) (ex_index rfl hE rfl rfl b6r) ?_
                    intro a hE
                    refine q_val (wk1 hE rfl rfl rfl hb6) rfl rfl hE (v := (.pointer (some ⟨b6, b6o, none⟩))) (ex_field rfl hE rfl (fldty65_0 _ _)) ?_
                    intro a hE
                    refine q_val (wk1 hE rfl rfl rfl hb6) rfl rfl hE (v := (.int .i64 x4.hash)) (ex_load rfl hE rfl (fun w hw => run_ld1 varty3 (b6f.c 0 rfl w hw))) ?_
                    intro a hE
                    refine q_val (wk1 hE rfl rfl rfl hb6) rfl rfl hE (v := (.bool (decide (x3.hash = x4.hash)))) (ex_eql rfl hE rfl rfl) ?_
                    intro a hE
                    refine q_val (wk0 rfl) rfl rfl hE (v := (.bool (decide (x3.hash = x4.hash)))) (ex_pick1 rfl hE rfl hb6 rfl) ?_
                    intro a hE
                    obtain rfl := Option.some.inj hg2
                    exact q_nil (hE.cut ⟨rfl, rfl, rfl, rfl, rfl, rfl, rfl, trivial⟩)
                  ·
                    replace hg2 := (ie hb6).symm.trans hg2
                    refine q_skip (wk2 hE rfl rfl rfl hb6) rfl rfl hE ?_
                    intro a hE
                    refine q_skip (wk2 hE rfl rfl rfl hb6) rfl rfl hE ?_
                    intro a hE
                    refine q_skip (wk2 hE rfl rfl rfl hb6) rfl rfl hE ?_
                    intro a hE
                    refine q_skip (wk2 hE rfl rfl rfl hb6) rfl rfl hE ?_
                    intro a hE
                    refine q_skip (wk2 hE rfl rfl rfl hb6) rfl rfl hE ?_
                    intro a hE
                    refine q_skip (wk2 hE rfl rfl rfl hb6) rfl rfl hE ?_
                    intro a hE
                    refine q_skip (wk2 hE rfl rfl rfl hb6) rfl rfl hE ?_
                    intro a hE
                    refine q_skip (wk2 hE rfl rfl rfl hb6) rfl rfl hE ?_
                    intro a hE
                    refine q_skip (wk2 hE rfl rfl rfl hb6) rfl rfl hE ?_
                    intro a hE
                    refine q_skip (wk2 hE rfl rfl rfl hb6) rfl rfl hE ?_
                    intro a hE
                    refine q_skip (wk2 hE rfl rfl rfl hb6) rfl rfl hE ?_
                    intro a hE
                    refine q_val (wk0 rfl) rfl rfl hE (v := (.bool false)) (ex_pick0 rfl hE rfl hb6 rfl) ?_
                    intro a hE
                    obtain rfl := Option.some.inj hg2
                    exact q_nil (hE.cut ⟨rfl, rfl, rfl, rfl, rfl, rfl, rfl, trivial⟩)
                · intro a hE
                  refine q_nil fun w hp => ?_
                  have hp : Hp Z ρ (L) w := hp
                  refine k_if hE rfl (fun hb7 => ?_) (fun hb7 => ?_)
                  · replace hl2 := (it hb7).symm.trans hl2
                    refine k_seq ?_
                    refine k_region ?_
                    refine s_val (wk0 rfl) rfl rfl hE hp (v := (.bool true)) (ex_asn rfl hE rfl) ?_
                    intro a hE
                    refine s_nil ?_
                    refine k_ret ?_
                    refine ⟨_, (Option.some.inj hl2).symm, fun hb => ?_⟩
                    subst hb
                    refine ⟨_, (Option.some.inj hl1).symm, fun hb => ?_⟩
                    subst hb
                    obtain rfl := Option.some.inj hm
                    exact ret1 hE rfl rfl ⟨_, rfl, rfl, hp⟩
                  · replace hl2 := (ie hb7).symm.trans hl2
                    refine k_skip ?_
                    refine k_region ?_
                    refine s_val (wk0 rfl) rfl rfl hE hp (v := (.int .i64 lp2_0)) (ex_move rfl hE rfl) ?_
                    intro a hE
                    obtain ⟨x5, ex5, hl2⟩ := bnd hl2
                    refine s_val (wk0 rfl) rfl rfl hE hp (v := (.int .i64 x5)) (ex_add rfl hE rfl rfl (inK_some ex5)) ?_
                    intro a hE
                    refine s_val (wk0 rfl) rfl rfl hE hp (v := (.int .i64 x5)) (ex_asn rfl hE rfl) ?_
                    intro a hE
                    refine s_nil ?_
                    exact ⟨_, (Option.some.inj hl2).symm, hE.cut ⟨rfl, rfl, rfl, rfl, rfl, rfl, trivial⟩, hp⟩
            · replace hl2 := (ie hb4).symm.trans hl2
              refine k_exit ?_
              refine ⟨_, (Option.some.inj hl2).symm, fun hbb => ?_⟩
              exact ⟨_, hbb.symm, hE.cut ⟨rfl, rfl, rfl, rfl, rfl, trivial⟩, hp⟩
        · rintro a w ⟨b2s, rfl, hE, hp⟩
          dsimp only at hl1
          refine k_region ?_
          refine s_val (wk0 rfl) rfl rfl hE hp (v := (.int .i64 lp1_0)) (ex_move rfl hE rfl) ?_
          intro a hE
          obtain ⟨x6, ex6, hl1⟩ := bnd hl1
          refine s_val (wk0 rfl) rfl rfl hE hp (v := (.int .i64 x6)) (ex_add rfl hE rfl rfl (inK_some ex6)) ?_
          intro a hE
          refine s_val (wk0 rfl) rfl rfl hE hp (v := (.int .i64 x6)) (ex_asn rfl hE rfl) ?_
          intro a hE
          refine s_nil ?_
          exact ⟨_, (Option.some.inj hl1).symm, hE.cut ⟨rfl, rfl, rfl, rfl, rfl, trivial⟩, hp⟩
      · replace hl1 := (ie hb2).symm.trans hl1
        refine k_exit ?_
        refine ⟨_, (Option.some.inj hl1).symm, fun hbb => ?_⟩
        exact ⟨_, hbb.symm, hE.cut trivial, hp⟩
  · rintro a w ⟨b1s, rfl, hE, hp⟩
    dsimp only at hm
    refine k_seq ?_
    refine k_region ?_
    refine s_val (wk0 rfl) rfl rfl hE hp (v := (.bool false)) (ex_asn rfl hE rfl) ?_
    intro a hE
    refine s_nil ?_
    refine k_ret ?_
    obtain rfl := Option.some.inj hm
    exact ret1 hE rfl rfl ⟨_, rfl, rfl, hp⟩
/- assessor/assessorref44.places -/
set_option maxRecDepth 100000 in
set_option maxHeartbeats 4000000 in
theorem c_assessorref44_places {Z : World} {ρ : PH} {L : List Atom} {w : World} (p0 : (List Mark)) (vp0 : Value) (hp0 : RoSl ρ vp0 p0) (hp : Hp Z ρ (L) w) (r : (List Int)) (hm : m_assessorref44_places p0 = some r) :
    Calls Try.prog 55 #[vp0] w (Ret fun v w' => ∃ (vr1 : Value), v = vr1 ∧ Hp Z ρ (OwnSl 3 vr1 r :: L) w') := by
  refine enter (N := 20) Try.func55 rfl rfl [(0, vp0)] rfl (argsIn_mem ⟨rfl, trivial⟩) fun a hE => ?_
  unfold m_assessorref44_places at hm
  refine k_seq ?_
  refine k_region ?_
  refine s_val (wk0 rfl) rfl rfl hE hp (v := (.slice none 0 0)) (ex_asn rfl hE rfl) ?_
  intro a hE
  refine s_nil ?_
  refine k_seq ?_
  refine k_region ?_
  refine s_lit (wk0 rfl) rfl rfl hE hp rfl [] trivial [] 3 (fun w => by simp [Instr.buildSlice, Instr.fill, Value.cells, go_sem]) ?_
  intro a w b1 hE hp
  have hp : Hp Z ρ (Pt b1 (.cells #[] 3 (0, 0)) :: L) w := hp
  refine s_val (wk0 rfl) rfl rfl hE hp (v := (.slice (some ⟨b1, 0, none⟩) 0 0)) (ex_asn rfl hE rfl) ?_
  intro a hE
  refine s_nil ?_
  refine k_seq ?_
  refine k_seq ?_
  refine k_region ?_
  refine s_val (wk0 rfl) rfl rfl hE hp (v := (.int .i64 0)) (ex_asn rfl hE rfl) ?_
  intro a hE
  refine s_nil ?_
  have hp := (hp.get 0 rfl).imp (own_of_pt (l := (([] : List Int) : List Int)) (n := 0) rfl (by decide) rfl)
  have hp : Hp Z ρ (OwnSl 3 (.slice (some ⟨b1, 0, none⟩) 0 0) ([] : List Int) :: L) w := hp
  obtain ⟨b2, hb1, hm⟩ := bnd hm
  refine k_block (fun a w => ∃ (w2 : Value), Env 20 [(3, w2)] a ∧ Hp Z ρ (OwnSl 3 w2 b2 :: L) w) ?_ ?_
  · refine k_loop hb1 (fun s a w => ∃ (w2 : Value), Env 20 [(0, vp0), (3, w2), (4, (.int .i64 s.1))] a ∧ Hp Z ρ (OwnSl 3 w2 s.2 :: L) w) ?_ ?_
    · exact ⟨_, hE.cut ⟨rfl, rfl, rfl, trivial⟩, hp⟩
    · rintro ⟨lp1_0, lp1_1⟩ st a w ⟨w2, hE, hp⟩ hl1
      have hE : Env 20 [(0, vp0), (3, w2), (4, (.int .i64 lp1_0))] a := hE
      have hp : Hp Z ρ (OwnSl 3 w2 lp1_1 :: L) w := hp
      replace hl1 : m_assessorref44_places_lp1 p0 lp1_0 lp1_1 = some st := hl1
      unfold m_assessorref44_places_lp1 at hl1
      refine k_seq ?_
      refine k_seq ?_
      refine k_region ?_
      refine s_val (wk0 rfl) rfl rfl hE hp (v := (.int .i64 lp1_0)) (ex_move rfl hE rfl) ?_
      intro a hE
      refine s_val (wk0 rfl) rfl rfl hE hp (v := vp0) (ex_move rfl hE rfl) ?_
      intro a hE
      refine s_val (wk0 rfl) rfl rfl hE hp (v := (.int .i64 (p0.length : Int))) (ex_len rfl hE rfl (RoSl.len hp0 slty26)) ?_
      intro a hE
      refine s_val (wk0 rfl) rfl rfl hE hp (v := (.bool (decide (lp1_0 < (p0.length : Int))))) (ex_lss rfl hE rfl rfl) ?_
      intro a hE
      refine s_nil ?_
      refine k_if hE rfl (fun hb2 => ?_) (fun hb2 => ?_)
      · replace hl1 := (it hb2).symm.trans hl1
        refine k_skip ?_
        refine k_seq ?_
        refine k_plain ?_
        refine k_region ?_
        refine s_val (wk0 rfl) rfl rfl hE hp (v := w2) (ex_move rfl hE rfl) ?_
        intro a hE
        refine s_val (wk0 rfl) rfl rfl hE hp (v := vp0) (ex_move rfl hE rfl) ?_
        intro a hE
        refine s_val (wk0 rfl) rfl rfl hE hp (v := (.int .i64 lp1_0)) (ex_move rfl hE rfl) ?_
        intro a hE
        obtain ⟨x1, ex1, hl1⟩ := bnd hl1
        obtain ⟨b3, b3o, b3c, b3r, b3k, b3f⟩ := RoSl.at hp0 slty26 ex1
        obtain rfl : b3c = Enc.enc x1 := b3k
        have b3f : AtP ρ b3 b3o [(.int .i64 x1.hash), (.int .i64 x1.at_)] := b3f
        refine s_val (wk0 rfl) rfl rfl hE hp (v := (.pointer (some ⟨b3, b3o, none⟩))) (ex_index rfl hE rfl rfl b3r) ?_
        intro a hE
        refine s_val (wk0 rfl) rfl rfl hE hp (v := (.pointer (some ⟨b3, b3o + 1, none⟩))) (ex_field rfl hE rfl (fldty65_1 _ _)) ?_
        intro a hE
        refine s_val (wk0 rfl) rfl rfl hE hp (v := (.int .i64 x1.at_)) (ex_load rfl hE rfl (fun w hw => run_ld1 varty3 (b3f.c 1 rfl w hw))) ?_
        intro a hE
        obtain ⟨x2, ex2, hl1⟩ := bnd hl1
        refine s_call (wk0 rfl) rfl rfl hE rfl [w2, (.int .i64 x1.at_)] ⟨rfl, rfl, trivial⟩ ent35 (c_assessorref43_Add_own lp1_1 w2 x1.at_ (hp.get 0 rfl) x2 ex2) Ret.ret ?_
        intro v1 a w hR hE
        obtain ⟨u, hu, hp⟩ := Ret.of hR
        rw [← hu] at hp
        have hp : Hp Z ρ (OwnSl 3 v1 x2 :: L) w := hp
        refine s_val (wk0 rfl) rfl rfl hE hp (v := v1) (ex_asn rfl hE rfl) ?_
        intro a hE
        refine s_nil ?_
        refine k_region ?_
        refine s_val (wk0 rfl) rfl rfl hE hp (v := (.int .i64 lp1_0)) (ex_move rfl hE rfl) ?_
        intro a hE
        obtain ⟨x3, ex3, hl1⟩ := bnd hl1
        refine s_val (wk0 rfl) rfl rfl hE hp (v := (.int .i64 x3)) (ex_add rfl hE rfl rfl (inK_some ex3)) ?_
        intro a hE
        refine s_val (wk0 rfl) rfl rfl hE hp (v := (.int .i64 x3)) (ex_asn rfl hE rfl) ?_
        intro a hE
        refine s_nil ?_
        exact ⟨_, (Option.some.inj hl1).symm, _, hE.cut ⟨rfl, rfl, rfl, trivial⟩, hp⟩
      · replace hl1 := (ie hb2).symm.trans hl1
        refine k_exit ?_
        refine ⟨_, (Option.some.inj hl1).symm, fun hbb => ?_⟩
        subst hbb
        exact ⟨_, hE.cut ⟨rfl, trivial⟩, hp⟩
  · rintro a w ⟨w2, hE, hp⟩
    refine k_seq ?_
    refine k_region ?_
    refine s_val (wk0 rfl) rfl rfl hE hp (v := w2) (ex_move rfl hE rfl) ?_
    intro a hE
    refine s_val (wk0 rfl) rfl rfl hE hp (v := w2) (ex_asn rfl hE rfl) ?_
    intro a hE
    refine s_nil ?_
    refine k_ret ?_
    obtain rfl := Option.some.inj hm
    exact ret1 hE rfl rfl ⟨_, rfl, _, rfl, hp⟩
/- assessor/assessorref44.longer -/
set_option maxRecDepth 100000 in
set_option maxHeartbeats 4000000 in
theorem c_assessorref44_longer {Z : World} {ρ : PH} {L : List Atom} {w : World} (p0 : Overlap) (p1 : Overlap) (hp : Hp Z ρ (L) w) (r : Bool) (hm : m_assessorref44_longer p0 p1 = some r) :
    Calls Try.prog 57 #[(.agg #[(.int .i64 p0.a), (.int .i64 p0.b), (.int .i64 p0.len)]), (.agg #[(.int .i64 p1.a), (.int .i64 p1.b), (.int .i64 p1.len)])] w (Ret fun v w' => v = (.bool r) ∧ Hp Z ρ (L) w') := by
  refine enter (N := 34) Try.func57 rfl rfl [(0, (.agg #[(.int .i64 p0.a), (.int .i64 p0.b), (.int .i64 p0.len)])), (1, (.agg #[(.int .i64 p1.a), (.int .i64 p1.b), (.int .i64 p1.len)]))] rfl (argsIn_mem ⟨rfl, rfl, trivial⟩) fun a hE => ?_
  unfold m_assessorref44_longer at hm
  refine k_seq ?_
  refine k_region ?_
  refine s_box (wk0 rfl) rfl rfl hE hp rfl (v := (.agg #[(.int .i64 p0.a), (.int .i64 p0.b), (.int .i64 p0.len)])) rfl ?_
  intro a w b1 hE hp
  have hp : Hp Z ρ (Pt b1 (.cells #[(.int .i64 p0.a), (.int .i64 p0.b), (.int .i64 p0.len)] 63 (0, 0)) :: L) w := hp
  refine s_box (wk0 rfl) rfl rfl hE hp rfl (v := (.agg #[(.int .i64 p1.a), (.int .i64 p1.b), (.int .i64 p1.len)])) rfl ?_
  intro a w b2 hE hp
  have hp : Hp Z ρ (Pt b2 (.cells #[(.int .i64 p1.a), (.int .i64 p1.b), (.int .i64 p1.len)] 63 (0, 0)) :: _ :: L) w := hp
  refine s_val (wk0 rfl) rfl rfl hE hp (v := (.bool false)) (ex_asn rfl hE rfl) ?_
  intro a hE
  refine s_nil ?_
  refine k_seq ?_
  refine k_seq ?_
  refine k_region ?_
  refine s_val (wk0 rfl) rfl rfl hE hp (v := (.pointer (some ⟨b1, 2, none⟩))) (ex_field rfl hE rfl (fldty63_2 _ _)) ?_
  intro a hE
  refine s_val (wk0 rfl) rfl rfl hE hp (v := (.int .i64 p0.len)) (ex_load rfl hE rfl (fun w hw => run_ld1 varty3 (Hp.c 1 rfl 2 rfl w hw))) ?_
  intro a hE
  refine s_val (wk0 rfl) rfl rfl hE hp (v := (.pointer (some ⟨b2, 2, none⟩))) (ex_field rfl hE rfl (fldty63_2 _ _)) ?_
  intro a hE
  refine s_val (wk0 rfl) rfl rfl hE hp (v := (.int .i64 p1.len)) (ex_load rfl hE rfl (fun w hw => run_ld1 varty3 (Hp.c 0 rfl 2 rfl w hw))) ?_
  intro a hE
  refine s_val (wk0 rfl) rfl rfl hE hp (v := (.bool (!decide (p0.len = p1.len)))) (ex_neq rfl hE rfl rfl) ?_
  intro a hE
  refine s_nil ?_
  refine k_if hE rfl (fun hb1 => ?_) (fun hb1 => ?_)
  · replace hm := (it hb1).symm.trans hm
    refine k_seq ?_
    refine k_region ?_
    refine s_val (wk0 rfl) rfl rfl hE hp (v := (.pointer (some ⟨b1, 2, none⟩))) (ex_field rfl hE rfl (fldty63_2 _ _)) ?_
    intro a hE
    refine s_val (wk0 rfl) rfl rfl hE hp (v := (.int .i64 p0.len)) (ex_load rfl hE rfl (fun w hw => run_ld1 varty3 (Hp.c 1 rfl 2 rfl w hw))) ?_
    intro a hE
    refine s_val (wk0 rfl) rfl rfl hE hp (v := (.pointer (some ⟨b2, 2, none⟩))) (ex_field rfl hE rfl (fldty63_2 _ _)) ?_
    intro a hE
    refine s_val (wk0 rfl) rfl rfl hE hp (v := (.int .i64 p1.len)) (ex_load rfl hE rfl (fun w hw => run_ld1 varty3 (Hp.c 0 rfl 2 rfl w hw))) ?_
    intro a hE
    refine s_val (wk0 rfl) rfl rfl hE hp (v := (.bool (decide (p1.len < p0.len)))) (ex_gtr rfl hE rfl rfl) ?_
    intro a hE
    refine s_val (wk0 rfl) rfl rfl hE hp (v := (.bool (decide (p1.len < p0.len)))) (ex_asn rfl hE rfl) ?_
    intro a hE
    refine s_nil ?_
    refine k_ret ?_
    obtain rfl := Option.some.inj hm
    exact ret1 hE rfl rfl ⟨_, rfl, rfl, (((hp.get 1 rfl).drop).drop)⟩
  · replace hm := (ie hb1).symm.trans hm
    refine k_skip ?_
    refine k_seq ?_
    refine k_region ?_
    refine s_val (wk0 rfl) rfl rfl hE hp (v := (.pointer (some ⟨b1, 0, none⟩))) (ex_field rfl hE rfl (fldty63_0 _ _)) ?_
    intro a hE
    refine s_val (wk0 rfl) rfl rfl hE hp (v := (.int .i64 p0.a)) (ex_load rfl hE rfl (fun w hw => run_ld1 varty3 (Hp.c 1 rfl 0 rfl w hw))) ?_
    intro a hE
    refine s_val (wk0 rfl) rfl rfl hE hp (v := (.pointer (some ⟨b2, 0, none⟩))) (ex_field rfl hE rfl (fldty63_0 _ _)) ?_
    intro a hE
    refine s_val (wk0 rfl) rfl rfl hE hp (v := (.int .i64 p1.a)) (ex_load rfl hE rfl (fun w hw => run_ld1 varty3 (Hp.c 0 rfl 0 rfl w hw))) ?_
    intro a hE
    refine s_val (wk0 rfl) rfl rfl hE hp (v := (.bool (decide (p0.a < p1.a)))) (ex_lss rfl hE rfl rfl) ?_
    intro a hE
    refine s_val (wk0 rfl) rfl rfl hE hp (v := (.bool (decide (p0.a < p1.a)))) (ex_move rfl hE rfl) ?_
    intro a hE
    refine s_cut [_, _, _, _, _, _, _, _, _, _, _, _, _] (fun a w => Env 34 [(33, (.bool ((decide (p0.a < p1.a)) || ((decide (p0.a = p1.a)) && (decide (p0.b < p1.b))))))] a ∧ Hp Z ρ (Pt b2 (.cells #[(.int .i64 p1.a), (.int .i64 p1.b), (.int .i64 p1.len)] 63 (0, 0)) :: Pt b1 (.cells #[(.int .i64 p0.a), (.int .i64 p0.b), (.int .i64 p0.len)] 63 (0, 0)) :: L) w) ?_ ?_
    · rcases Bool.eq_false_or_eq_true (decide (p0.a < p1.a)) with hb2 | hb2
      ·
        refine s_skip (wk2 hE rfl rfl rfl hb2) rfl rfl hE ?_
        intro a hE
        refine s_skip (wk2 hE rfl rfl rfl hb2) rfl rfl hE ?_
        intro a hE
        refine s_skip (wk2 hE rfl rfl rfl hb2) rfl rfl hE ?_
        intro a hE
        refine s_skip (wk2 hE rfl rfl rfl hb2) rfl rfl hE ?_
        intro a hE
        refine s_skip (wk2 hE rfl rfl rfl hb2) rfl rfl hE ?_
        intro a hE
        refine s_skip (wk2 hE rfl rfl rfl hb2) rfl rfl hE ?_
        intro a hE
        refine s_skip (wk3 hE rfl rfl rfl) rfl rfl hE ?_
        intro a hE
        refine s_skip (wk3 hE rfl rfl rfl) rfl rfl hE ?_
        intro a hE
        refine s_skip (wk3 hE rfl rfl rfl) rfl rfl hE ?_
        intro a hE
        refine s_skip (wk3 hE rfl rfl rfl) rfl rfl hE ?_
        intro a hE
        refine s_skip (wk3 hE rfl rfl rfl) rfl rfl hE ?_
        intro a hE
        refine s_skip (wk2 hE rfl rfl rfl hb2) rfl rfl hE ?_
        intro a hE
        refine s_val (wk0 rfl) rfl rfl hE hp (v := (.bool true)) (ex_pick1 rfl hE rfl hb2 rfl) ?_
        intro a hE
        have hE := hE.eqv (v' := (.bool ((decide (p0.a < p1.a)) || ((decide (p0.a = p1.a)) && (decide (p0.b < p1.b)))))) (by rw [hb2]; rfl)
        exact s_nil ⟨hE.cut ⟨rfl, trivial⟩, hp⟩
      ·
        refine s_val (wk1 hE rfl rfl rfl hb2) rfl rfl hE hp (v := (.pointer (some ⟨b1, 0, none⟩))) (ex_field rfl hE rfl (fldty63_0 _ _)) ?_
        intro a hE
        refine s_val (wk1 hE rfl rfl rfl hb2) rfl rfl hE hp (v := (.int .i64 p0.a)) (ex_load rfl hE rfl (fun w hw => run_ld1 varty3 (Hp.c 1 rfl 0 rfl w hw))) ?_
        intro a hE
        refine s_val (wk1 hE rfl rfl rfl hb2) rfl rfl hE hp (v := (.pointer (some ⟨b2, 0, none⟩))) (ex_field rfl hE rfl (fldty63_0 _ _)) ?_
        intro a hE
        refine s_val (wk1 hE rfl rfl rfl hb2) rfl rfl hE hp (v := (.int .i64 p1.a)) (ex_load rfl hE rfl (fun w hw => run_ld1 varty3 (Hp.c 0 rfl 0 rfl w hw))) ?_
        intro a hE
        refine s_val (wk1 hE rfl rfl rfl hb2) rfl rfl hE hp (v := (.bool (decide (p0.a = p1.a)))) (ex_eql rfl hE rfl rfl) ?_
        intro a hE
        refine s_val (wk1 hE rfl rfl rfl hb2) rfl rfl hE hp (v := (.bool (decide (p0.a = p1.a)))) (ex_move rfl hE rfl) ?_
        intro a hE
        refine s_cut [_, _, _, _, _, _] (fun a w => Env 34 [(32, (.bool ((decide (p0.a = p1.a)) && (decide (p0.b < p1.b))))), (20, (.bool (decide (p0.a < p1.a))))] a ∧ Hp Z ρ (Pt b2 (.cells #[(.int .i64 p1.a), (.int .i64 p1.b), (.int .i64 p1.len)] 63 (0, 0)) :: Pt b1 (.cells #[(.int .i64 p0.a), (.int .i64 p0.b), (.int .i64 p0.len)] 63 (0, 0)) :: L) w) ?_ ?_
        · rcases Bool.eq_false_or_eq_true (decide (p0.a = p1.a)) with hb3 | hb3
          ·
            refine s_val (wk1 hE rfl rfl rfl hb3) rfl rfl hE hp (v := (.pointer (some ⟨b1, 1, none⟩))) (ex_field rfl hE rfl (fldty63_1 _ _)) ?_
            intro a hE
            refine s_val (wk1 hE rfl rfl rfl hb3) rfl rfl hE hp (v := (.int .i64 p0.b)) (ex_load rfl hE rfl (fun w hw => run_ld1 varty3 (Hp.c 1 rfl 1 rfl w hw))) ?_
            intro a hE
            refine s_val (wk1 hE rfl rfl rfl hb3) rfl rfl hE hp (v := (.pointer (some ⟨b2, 1, none⟩))) (ex_field rfl hE rfl (fldty63_1 _ _)) ?_
            intro a hE
            refine s_val (wk1 hE rfl rfl rfl hb3) rfl rfl hE hp (v := (.int .i64 p1.b)) (ex_load rfl hE rfl (fun w hw => run_ld1 varty3 (Hp.c 0 rfl 1 rfl w hw))) ?_
            intro a hE
            refine s_val (wk1 hE rfl rfl rfl hb3) rfl rfl hE hp (v := (.bool (decide (p0.b < p1.b)))) (ex_lss rfl hE rfl rfl) ?_
            intro a hE
            refine s_val (wk1 hE rfl rfl rfl hb2) rfl rfl hE hp (v := (.bool (decide (p0.b < p1.b)))) (ex_pick1 rfl hE rfl hb3 rfl) ?_
            intro a hE
            have hE := hE.eqv (v' := (.bool ((decide (p0.a = p1.a)) && (decide (p0.b < p1.b))))) (by rw [hb3]; rfl)
            exact s_nil ⟨hE.cut ⟨rfl, rfl, trivial⟩, hp⟩
          ·
            refine s_skip (wk2 hE rfl rfl rfl hb3) rfl rfl hE ?_
            intro a hE
            refine s_skip (wk2 hE rfl rfl rfl hb3) rfl rfl hE ?_
            intro a hE
            refine s_skip (wk2 hE rfl rfl rfl hb3) rfl rfl hE ?_
            intro a hE
            refine s_skip (wk2 hE rfl rfl rfl hb3) rfl rfl hE ?_
            intro a hE
            refine s_skip (wk2 hE rfl rfl rfl hb3) rfl rfl hE ?_
            intro a hE
            refine s_val (wk1 hE rfl rfl rfl hb2) rfl rfl hE hp (v := (.bool false)) (ex_pick0 rfl hE rfl hb3 rfl) ?_
            intro a hE
            have hE := hE.eqv (v' := (.bool ((decide (p0.a = p1.a)) && (decide (p0.b < p1.b))))) (by rw [hb3]; rfl)
            exact s_nil ⟨hE.cut ⟨rfl, rfl, trivial⟩, hp⟩
        · rintro a w ⟨hE, hp⟩
          refine s_val (wk0 rfl) rfl rfl hE hp (v := (.bool ((decide (p0.a = p1.a)) && (decide (p0.b < p1.b))))) (ex_pick0 rfl hE rfl hb2 rfl) ?_
          intro a hE
          have hE := hE.eqv (v' := (.bool ((decide (p0.a < p1.a)) || ((decide (p0.a = p1.a)) && (decide (p0.b < p1.b)))))) (by rw [hb2]; rfl)
          exact s_nil ⟨hE.cut ⟨rfl, trivial⟩, hp⟩
    · rintro a w ⟨hE, hp⟩
      refine s_val (wk0 rfl) rfl rfl hE hp (v := (.bool ((decide (p0.a < p1.a)) || ((decide (p0.a = p1.a)) && (decide (p0.b < p1.b)))))) (ex_asn rfl hE rfl) ?_
      intro a hE
      refine s_nil ?_
      refine k_ret ?_
      obtain rfl := Option.some.inj hm
      exact ret1 hE rfl rfl ⟨_, rfl, rfl, (((hp.get 1 rfl).drop).drop)⟩
/- assessor/assessorref44.Overlaps -/
set_option maxRecDepth 100000 in
set_option maxHeartbeats 4000000 in
theorem c_assessorref44_Overlaps {Z : World} {ρ : PH} {L : List Atom} {w : World} (p0 : (List Mark)) (vp0 : Value) (hp0 : RoSl ρ vp0 p0) (p1 : (List Mark)) (vp1 : Value) (hp1 : RoSl ρ vp1 p1) (p2 : Int) (hp : Hp Z ρ (L) w) (r : ((List Overlap) × Int)) (hm : m_assessorref44_Overlaps p0 p1 p2 = some r) :
    Calls Try.prog 30 #[vp0, vp1, (.int .i64 p2)] w (Ret fun v w' => ∃ (vr1 : Value), v = .tuple #[vr1, (.int .i64 r.2)] ∧ Hp Z ρ (OwnSl 63 vr1 r.1 :: L) w') := by
  refine enter (N := 217) Try.func30 rfl rfl [(0, vp0), (1, vp1), (2, (.int .i64 p2))] rfl (argsIn_mem ⟨rfl, rfl, rfl, trivial⟩) fun a hE => ?_
  unfold m_assessorref44_Overlaps at hm
  refine k_seq ?_
  refine k_region ?_
  refine s_val (wk0 rfl) rfl rfl hE hp (v := (.slice none 0 0)) (ex_asn rfl hE rfl) ?_
  intro a hE
  refine s_val (wk0 rfl) rfl rfl hE hp (v := (.int .i64 0)) (ex_asn rfl hE rfl) ?_
  intro a hE
  refine s_nil ?_
  refine k_seq ?_
  refine k_region ?_
  refine s_lit (wk0 rfl) rfl rfl hE hp rfl [] trivial [] 63 (fun w => by simp [Instr.buildSlice, Instr.fill, Value.cells, go_sem]) ?_
  intro a w b1 hE hp
  have hp : Hp Z ρ (Pt b1 (.cells #[] 63 (0, 0)) :: L) w := hp
  refine s_val (wk0 rfl) rfl rfl hE hp (v := (.slice (some ⟨b1, 0, none⟩) 0 0)) (ex_asn rfl hE rfl) ?_
  intro a hE
  refine s_nil ?_
  refine k_seq ?_
  refine k_seq ?_
  refine k_region ?_
  refine s_val (wk0 rfl) rfl rfl hE hp (v := (.int .i64 p2)) (ex_move rfl hE rfl) ?_
  intro a hE
  refine s_val (wk0 rfl) rfl rfl hE hp (v := (.bool (decide (p2 < 1)))) (ex_lss rfl hE rfl rfl) ?_
  intro a hE
  refine s_val (wk0 rfl) rfl rfl hE hp (v := (.bool (decide (p2 < 1)))) (ex_move rfl hE rfl) ?_
  intro a hE
  refine s_cut [_, _, _] (fun a w => Env 217 [(29, (.bool ((decide (p2 < 1)) || (decide (64 < p2))))), (0, vp0), (1, vp1), (2, (.int .i64 p2)), (8, (.slice (some ⟨b1, 0, none⟩) 0 0))] a ∧ Hp Z ρ (Pt b1 (.cells #[] 63 (0, 0)) :: L) w) ?_ ?_
  · rcases Bool.eq_false_or_eq_true (decide (p2 < 1)) with hb1 | hb1
    ·
      refine s_skip (wk2 hE rfl rfl rfl hb1) rfl rfl hE ?_
      intro a hE
      refine s_skip (wk2 hE rfl rfl rfl hb1) rfl rfl hE ?_
      intro a hE
      refine s_val (wk0 rfl) rfl rfl hE hp (v := (.bool true)) (ex_pick1 rfl hE rfl hb1 rfl) ?_
      intro a hE
      have hE := hE.eqv (v' := (.bool ((decide (p2 < 1)) || (decide (64 < p2))))) (by rw [hb1]; rfl)
      exact s_nil ⟨hE.cut ⟨rfl, rfl, rfl, rfl, rfl, trivial⟩, hp⟩
    ·
      refine s_val (wk1 hE rfl rfl rfl hb1) rfl rfl hE hp (v := (.int .i64 p2)) (ex_move rfl hE rfl) ?_
      intro a hE
      refine s_val (wk1 hE rfl rfl rfl hb1) rfl rfl hE hp (v := (.bool (decide (64 < p2)))) (ex_gtr rfl hE rfl rfl) ?_
      intro a hE
      refine s_val (wk0 rfl) rfl rfl hE hp (v := (.bool (decide (64 < p2)))) (ex_pick0 rfl hE rfl hb1 rfl) ?_
      intro a hE
      have hE := hE.eqv (v' := (.bool ((decide (p2 < 1)) || (decide (64 < p2))))) (by rw [hb1]; rfl)
      exact s_nil ⟨hE.cut ⟨rfl, rfl, rfl, rfl, rfl, trivial⟩, hp⟩
  · rintro a w ⟨hE, hp⟩
    refine s_nil ?_
    refine k_if hE rfl (fun hb2 => ?_) (fun hb2 => ?_)
    · replace hm := (it hb2).symm.trans hm
      refine k_seq ?_
      refine k_region ?_
      refine s_val (wk0 rfl) rfl rfl hE hp (v := (.slice (some ⟨b1, 0, none⟩) 0 0)) (ex_move rfl hE rfl) ?_
      intro a hE
      refine s_val (wk0 rfl) rfl rfl hE hp (v := (.slice (some ⟨b1, 0, none⟩) 0 0)) (ex_asn rfl hE rfl) ?_
      intro a hE
      refine s_val (wk0 rfl) rfl rfl hE hp (v := (.int .i64 2)) (ex_asn rfl hE rfl) ?_
      intro a hE
      refine s_nil ?_
      refine k_ret ?_
      have hp := (hp.get 0 rfl).imp (own_of_pt (l := (([] : List Overlap) : List Overlap)) (n := 0) rfl (by decide) rfl)
      have hp : Hp Z ρ (OwnSl 63 (.slice (some ⟨b1, 0, none⟩) 0 0) ([] : List Overlap) :: L) w := hp
      obtain rfl := Option.some.inj hm
      exact ret2 hE rfl rfl rfl ⟨_, rfl, _, rfl, hp⟩
    · replace hm := (ie hb2).symm.trans hm
      refine k_skip ?_
      refine k_seq ?_
      refine k_seq ?_
      refine k_region ?_
      refine s_val (wk0 rfl) rfl rfl hE hp (v := (.int .i64 0)) (ex_asn rfl hE rfl) ?_
      intro a hE
      refine s_nil ?_
      obtain ⟨b2, hb3, hm⟩ := bnd hm
      refine k_block (fun a w => ∃ s : Unit, b2 = .brk s ∧ (Env 217 [(0, vp0), (1, vp1), (2, (.int .i64 p2)), (8, (.slice (some ⟨b1, 0, none⟩) 0 0))] a ∧ Hp Z ρ (Pt b1 (.cells #[] 63 (0, 0)) :: L) w)) ?_ ?_
      · refine k_loop hb3 (fun s a w => Env 217 [(0, vp0), (1, vp1), (2, (.int .i64 p2)), (8, (.slice (some ⟨b1, 0, none⟩) 0 0)), (9, (.int .i64 s))] a ∧ Hp Z ρ (Pt b1 (.cells #[] 63 (0, 0)) :: L) w) ?_ ?_
        · exact ⟨hE.cut ⟨rfl, rfl, rfl, rfl, rfl, trivial⟩, hp⟩
        · rintro lp1_0 st a w ⟨hE, hp⟩ hl1
          have hE : Env 217 [(0, vp0), (1, vp1), (2, (.int .i64 p2)), (8, (.slice (some ⟨b1, 0, none⟩) 0 0)), (9, (.int .i64 lp1_0))] a := hE
          have hp : Hp Z ρ (_ :: L) w := hp
          replace hl1 : m_assessorref44_Overlaps_lp1 p0 p1 lp1_0 = some st := hl1
          unfold m_assessorref44_Overlaps_lp1 at hl1
          refine k_seq ?_
          refine k_seq ?_
          refine k_region ?_
          refine s_val (wk0 rfl) rfl rfl hE hp (v := (.int .i64 lp1_0)) (ex_move rfl hE rfl) ?_
          intro a hE
          refine s_val (wk0 rfl) rfl rfl hE hp (v := vp0) (ex_move rfl hE rfl) ?_
          intro a hE
          refine s_val (wk0 rfl) rfl rfl hE hp (v := (.int .i64 (p0.length : Int))) (ex_len rfl hE rfl (RoSl.len hp0 slty26)) ?_
          intro a hE
          refine s_val (wk0 rfl) rfl rfl hE hp (v := vp1) (ex_move rfl hE rfl) ?_
          intro a hE
          refine s_val (wk0 rfl) rfl rfl hE hp (v := (.int .i64 (p1.length : Int))) (ex_len rfl hE rfl (RoSl.len hp1 slty26)) ?_
          intro a hE
          obtain ⟨x1, ex1, hl1⟩ := bnd hl1
          refine s_val (wk0 rfl) rfl rfl hE hp (v := (.int .i64 x1)) (ex_add rfl hE rfl rfl (inK_some ex1)) ?_
          intro a hE
          refine s_val (wk0 rfl) rfl rfl hE hp (v := (.bool (decide (lp1_0 < x1)))) (ex_lss rfl hE rfl rfl) ?_
          intro a hE
          refine s_nil ?_
          refine k_if hE rfl (fun hb4 => ?_) (fun hb4 => ?_)
          · replace hl1 := (it hb4).symm.trans hl1
            refine k_skip ?_
            refine k_seq ?_
            refine k_plain ?_
            refine k_seq ?_
            refine k_region ?_
            refine s_val (wk0 rfl) rfl rfl hE hp (v := (.agg #[(.int .i64 0), (.int .i64 0)])) (ex_bld rfl hE [] (by exact trivial) (fun w => by simp [Instr.build, Instr.fill, Value.cells, go_sem])) ?_
            intro a hE
            refine s_new (wk0 rfl) rfl rfl hE hp rfl [(.int .i64 0), (.int .i64 0)] (fun w => by simp [Instr.alloc, go_sem] <;> rfl) ?_
            intro a w b3 hE hp
            have hp : Hp Z ρ (Pt b3 (.cells #[(.int .i64 0), (.int .i64 0)] 65 (0, 0)) :: _ :: L) w := hp
            refine s_store (wk0 rfl) rfl hE hp rfl rfl rfl 0 rfl varty65.size_ rfl (allOne_mem ⟨rfl, rfl, trivial⟩) [(.int .i64 0), (.int .i64 0)] rfl ?_
            intro w hp
            have hp : Hp Z ρ (_ :: _ :: L) w := hp
            refine s_nil ?_
            refine k_seq ?_
            refine k_seq ?_
            refine k_region ?_
            refine s_val (wk0 rfl) rfl rfl hE hp (v := (.int .i64 lp1_0)) (ex_move rfl hE rfl) ?_
            intro a hE
            refine s_val (wk0 rfl) rfl rfl hE hp (v := vp0) (ex_move rfl hE rfl) ?_
            intro a hE
            refine s_val (wk0 rfl) rfl rfl hE hp (v := (.int .i64 (p0.length : Int))) (ex_len rfl hE rfl (RoSl.len hp0 slty26)) ?_
            intro a hE
            refine s_val (wk0 rfl) rfl rfl hE hp (v := (.bool (decide (lp1_0 < (p0.length : Int))))) (ex_lss rfl hE rfl rfl) ?_
            intro a hE
            refine s_nil ?_
            have hE := hE.cut (E' := [(0, vp0), (1, vp1), (2, (.int .i64 p2)), (8, (.slice (some ⟨b1, 0, none⟩) 0 0)), (9, (.int .i64 lp1_0)), (10, (.pointer (some ⟨b3, 0, none⟩))), (44, (.bool (decide (lp1_0 < (p0.length : Int)))))]) ⟨rfl, rfl, rfl, rfl, rfl, rfl, rfl, trivial⟩
            obtain ⟨j1, hj1, hl1⟩ := bnd hl1
            refine k_cut (fun a w => Env 217 [(0, vp0), (1, vp1), (2, (.int .i64 p2)), (8, (.slice (some ⟨b1, 0, none⟩) 0 0)), (9, (.int .i64 lp1_0)), (10, (.pointer (some ⟨b3, 0, none⟩)))] a ∧ Hp Z ρ (Pt b3 (.cells #[(.int .i64 j1.1), (.int .i64 j1.2)] 65 (0, 0)) :: Pt b1 (.cells #[] 63 (0, 0)) :: L) w) ?_ ?_
            ·
              refine k_if hE rfl (fun hb5 => ?_) (fun hb5 => ?_)
              · replace hj1 := (it hb5).symm.trans hj1
                refine k_region ?_
                refine s_val (wk0 rfl) rfl rfl hE hp (v := vp0) (ex_move rfl hE rfl) ?_
                intro a hE
                refine s_val (wk0 rfl) rfl rfl hE hp (v := (.int .i64 lp1_0)) (ex_move rfl hE rfl) ?_
                intro a hE
                obtain ⟨x2, ex2, hj1⟩ := bnd hj1
                obtain ⟨b4, b4o, b4c, b4r, b4k, b4f⟩ := RoSl.at hp0 slty26 ex2
                obtain rfl : b4c = Enc.enc x2 := b4k
                have b4f : AtP ρ b4 b4o [(.int .i64 x2.hash), (.int .i64 x2.at_)] := b4f
                refine s_val (wk0 rfl) rfl rfl hE hp (v := (.pointer (some ⟨b4, b4o, none⟩))) (ex_index rfl hE rfl rfl b4r) ?_
                intro a hE
                refine s_val (wk0 rfl) rfl rfl hE hp (v := (.agg #[(.int .i64 x2.hash), (.int .i64 x2.at_)])) (ex_load rfl hE rfl (fun w hw => run_ldN (cs := [(.int .i64 x2.hash), (.int .i64 x2.at_)]) varty65 (fun j u hj => cell_of hw.le (b4f j u hj)))) ?_
                intro a hE
                refine s_store (wk0 rfl) rfl hE hp rfl rfl rfl 0 rfl varty65.size_ rfl (allOne_mem ⟨rfl, rfl, trivial⟩) [(.int .i64 x2.hash), (.int .i64 x2.at_)] rfl ?_
                intro w hp
                have hp : Hp Z ρ (Pt b3 (.cells #[(.int .i64 x2.hash), (.int .i64 x2.at_)] 65 (0, 0)) :: _ :: L) w := hp
                refine s_nil ?_
                obtain rfl := Option.some.inj hj1
                exact ⟨hE.cut ⟨rfl, rfl, rfl, rfl, rfl, rfl, trivial⟩, hp⟩
              · replace hj1 := (ie hb5).symm.trans hj1
                refine k_region ?_
                refine s_val (wk0 rfl) rfl rfl hE hp (v := vp1) (ex_move rfl hE rfl) ?_
                intro a hE
                refine s_val (wk0 rfl) rfl rfl hE hp (v := (.int .i64 lp1_0)) (ex_move rfl hE rfl) ?_
                intro a hE
                refine s_val (wk0 rfl) rfl rfl hE hp (v := vp0) (ex_move rfl hE rfl) ?_
                intro a hE
                refine s_val (wk0 rfl) rfl rfl hE hp (v := (.int .i64 (p0.length : Int))) (ex_len rfl hE rfl (RoSl.len hp0 slty26)) ?_
                intro a hE
                obtain ⟨x3, ex3, hj1⟩ := bnd hj1
                refine s_val (wk0 rfl) rfl rfl hE hp (v := (.int .i64 x3)) (ex_sub rfl hE rfl rfl (inK_some ex3)) ?_
                intro a hE
                obtain ⟨x4, ex4, hj1⟩ := bnd hj1
                obtain ⟨b5, b5o, b5c, b5r, b5k, b5f⟩ := RoSl.at hp1 slty26 ex4
                obtain rfl : b5c = Enc.enc x4 := b5k
                have b5f : AtP ρ b5 b5o [(.int .i64 x4.hash), (.int .i64 x4.at_)] := b5f
                refine s_val (wk0 rfl) rfl rfl hE hp (v := (.pointer (some ⟨b5, b5o, none⟩))) (ex_index rfl hE rfl rfl b5r) ?_
                intro a hE
                refine s_val (wk0 rfl) rfl rfl hE hp (v := (.agg #[(.int .i64 x4.hash), (.int .i64 x4.at_)])) (ex_load rfl hE rfl (fun w hw => run_ldN (cs := [(.int .i64 x4.hash), (.int .i64 x4.at_)]) varty65 (fun j u hj => cell_of hw.le (b5f j u hj)))) ?_
                intro a hE
                refine s_store (wk0 rfl) rfl hE hp rfl rfl rfl 0 rfl varty65.size_ rfl (allOne_mem ⟨rfl, rfl, trivial⟩) [(.int .i64 x4.hash), (.int .i64 x4.at_)] rfl ?_
                intro w hp
                have hp : Hp Z ρ (Pt b3 (.cells #[(.int .i64 x4.hash), (.int .i64 x4.at_)] 65 (0, 0)) :: _ :: L) w := hp
                refine s_nil ?_
                have hE := hE.cut (E' := [(0, vp0), (1, vp1), (2, (.int .i64 p2)), (8, (.slice (some ⟨b1, 0, none⟩) 0 0)), (9, (.int .i64 lp1_0)), (10, (.pointer (some ⟨b3, 0, none⟩)))]) ⟨rfl, rfl, rfl, rfl, rfl, rfl, trivial⟩
                obtain rfl := Option.some.inj hj1
                exact ⟨hE.cut ⟨rfl, rfl, rfl, rfl, rfl, rfl, trivial⟩, hp⟩
            · rintro a w ⟨hE, hp⟩
              refine k_seq ?_
              refine k_region ?_
              refine s_val (wk0 rfl) rfl rfl hE hp (v := (.pointer (some ⟨b3, 1, none⟩))) (ex_field rfl hE rfl (fldty65_1 _ _)) ?_
              intro a hE
              refine s_val (wk0 rfl) rfl rfl hE hp (v := (.int .i64 j1.2)) (ex_load rfl hE rfl (fun w hw => run_ld1 varty3 (Hp.c 0 rfl 1 rfl w hw))) ?_
              intro a hE
              refine s_val (wk0 rfl) rfl rfl hE hp (v := (.bool (decide (j1.2 < 0)))) (ex_lss rfl hE rfl rfl) ?_
              intro a hE
              refine s_val (wk0 rfl) rfl rfl hE hp (v := (.bool (decide (j1.2 < 0)))) (ex_move rfl hE rfl) ?_
              intro a hE
              refine s_cut [_, _, _, _] (fun a w => Env 217 [(63, (.bool ((decide (j1.2 < 0)) || (decide (2048 < j1.2))))), (0, vp0), (1, vp1), (2, (.int .i64 p2)), (8, (.slice (some ⟨b1, 0, none⟩) 0 0)), (9, (.int .i64 lp1_0))] a ∧ Hp Z ρ (Pt b3 (.cells #[(.int .i64 j1.1), (.int .i64 j1.2)] 65 (0, 0)) :: Pt b1 (.cells #[] 63 (0, 0)) :: L) w) ?_ ?_
              · rcases Bool.eq_false_or_eq_true (decide (j1.2 < 0)) with hb6 | hb6
                ·
                  refine s_skip (wk2 hE rfl rfl rfl hb6) rfl rfl hE ?_
                  intro a hE
                  refine s_skip (wk2 hE rfl rfl rfl hb6) rfl rfl hE ?_
                  intro a hE
                  refine s_skip (wk2 hE rfl rfl rfl hb6) rfl rfl hE ?_
                  intro a hE
                  refine s_val (wk0 rfl) rfl rfl hE hp (v := (.bool true)) (ex_pick1 rfl hE rfl hb6 rfl) ?_
                  intro a hE
                  have hE := hE.eqv (v' := (.bool ((decide (j1.2 < 0)) || (decide (2048 < j1.2))))) (by rw [hb6]; rfl)
                  exact s_nil ⟨hE.cut ⟨rfl, rfl, rfl, rfl, rfl, rfl, trivial⟩, hp⟩
                ·
                  refine s_val (wk1 hE rfl rfl rfl hb6) rfl rfl hE hp (v := (.pointer (some ⟨b3, 1, none⟩))) (ex_field rfl hE rfl (fldty65_1 _ _)) ?_
                  intro a hE
                  refine s_val (wk1 hE rfl rfl rfl hb6) rfl rfl hE hp (v := (.int .i64 j1.2)) (ex_load rfl hE rfl (fun w hw => run_ld1 varty3 (Hp.c 0 rfl 1 rfl w hw))) ?_
                  intro a hE
                  refine s_val (wk1 hE rfl rfl rfl hb6) rfl rfl hE hp (v := (.bool (decide (2048 < j1.2)))) (ex_gtr rfl hE rfl rfl) ?_
                  intro a hE
                  refine s_val (wk0 rfl) rfl rfl hE hp (v := (.bool (decide (2048 < j1.2)))) (ex_pick0 rfl hE rfl hb6 rfl) ?_
                  intro a hE
                  have hE := hE.eqv (v' := (.bool ((decide (j1.2 < 0)) || (decide (2048 < j1.2))))) (by rw [hb6]; rfl)
                  exact s_nil ⟨hE.cut ⟨rfl, rfl, rfl, rfl, rfl, rfl, trivial⟩, hp⟩
              · rintro a w ⟨hE, hp⟩
                refine s_nil ?_
                refine k_if hE rfl (fun hb7 => ?_) (fun hb7 => ?_)
                · replace hl1 := (it hb7).symm.trans hl1
                  refine k_seq ?_
                  refine k_region ?_
                  refine s_val (wk0 rfl) rfl rfl hE hp (v := (.slice (some ⟨b1, 0, none⟩) 0 0)) (ex_move rfl hE rfl) ?_
                  intro a hE
                  refine s_val (wk0 rfl) rfl rfl hE hp (v := (.slice (some ⟨b1, 0, none⟩) 0 0)) (ex_asn rfl hE rfl) ?_
                  intro a hE
                  refine s_val (wk0 rfl) rfl rfl hE hp (v := (.int .i64 2)) (ex_asn rfl hE rfl) ?_
                  intro a hE
                  refine s_nil ?_
                  refine k_ret ?_
                  refine ⟨_, (Option.some.inj hl1).symm, fun hb => ?_⟩
                  subst hb
                  have hp := (hp.get 1 rfl).imp (own_of_pt (l := (([] : List Overlap) : List Overlap)) (n := 0) rfl (by decide) rfl)
                  have hp : Hp Z ρ (OwnSl 63 (.slice (some ⟨b1, 0, none⟩) 0 0) ([] : List Overlap) :: Pt b3 (.cells #[(.int .i64 j1.1), (.int .i64 j1.2)] 65 (0, 0)) :: L) w := hp
                  obtain rfl := Option.some.inj hm
                  exact ret2 hE rfl rfl rfl ⟨_, rfl, _, rfl, ((hp.get 1 rfl).drop)⟩
                · replace hl1 := (ie hb7).symm.trans hl1
                  refine k_skip ?_
                  refine k_region ?_
                  refine s_val (wk0 rfl) rfl rfl hE hp (v := (.int .i64 lp1_0)) (ex_move rfl hE rfl) ?_
                  intro a hE
                  obtain ⟨x5, ex5, hl1⟩ := bnd hl1
                  refine s_val (wk0 rfl) rfl rfl hE hp (v := (.int .i64 x5)) (ex_add rfl hE rfl rfl (inK_some ex5)) ?_
                  intro a hE
                  refine s_val (wk0 rfl) rfl rfl hE hp (v := (.int .i64 x5)) (ex_asn rfl hE rfl) ?_
                  intro a hE
                  refine s_nil ?_
                  exact ⟨_, (Option.some.inj hl1).symm, hE.cut ⟨rfl, rfl, rfl, rfl, rfl, trivial⟩, (hp.drop)⟩
          · replace hl1 := (ie hb4).symm.trans hl1
            refine k_exit ?_
            refine ⟨_, (Option.some.inj hl1).symm, fun hbb => ?_⟩
            exact ⟨_, hbb.symm, hE.cut ⟨rfl, rfl, rfl, rfl, trivial⟩, hp⟩
      · rintro a w ⟨b2s, rfl, hE, hp⟩
        dsimp only at hm
        refine k_seq ?_
        refine k_seq ?_
        refine k_region ?_
        refine s_val (wk0 rfl) rfl rfl hE hp (v := vp0) (ex_move rfl hE rfl) ?_
        intro a hE
        refine s_val (wk0 rfl) rfl rfl hE hp (v := (.int .i64 (p0.length : Int))) (ex_len rfl hE rfl (RoSl.len hp0 slty26)) ?_
        intro a hE
        refine s_val (wk0 rfl) rfl rfl hE hp (v := (.bool (decide (256 < (p0.length : Int))))) (ex_gtr rfl hE rfl rfl) ?_
        intro a hE
        refine s_val (wk0 rfl) rfl rfl hE hp (v := (.bool (decide (256 < (p0.length : Int))))) (ex_move rfl hE rfl) ?_
        intro a hE
        refine s_cut [_, _, _, _] (fun a w => Env 217 [(72, (.bool ((decide (256 < (p0.length : Int))) || (decide (256 < (p1.length : Int)))))), (0, vp0), (1, vp1), (2, (.int .i64 p2)), (8, (.slice (some ⟨b1, 0, none⟩) 0 0))] a ∧ Hp Z ρ (Pt b1 (.cells #[] 63 (0, 0)) :: L) w) ?_ ?_
        · rcases Bool.eq_false_or_eq_true (decide (256 < (p0.length : Int))) with hb8 | hb8
          ·
            refine s_skip (wk2 hE rfl rfl rfl hb8) rfl rfl hE ?_
            intro a hE
            refine s_skip (wk2 hE rfl rfl rfl hb8) rfl rfl hE ?_
            intro a hE
            refine s_skip (wk2 hE rfl rfl rfl hb8) rfl rfl hE ?_
            intro a hE
            refine s_val (wk0 rfl) rfl rfl hE hp (v := (.bool true)) (ex_pick1 rfl hE rfl hb8 rfl) ?_
            intro a hE
            have hE := hE.eqv (v' := (.bool ((decide (256 < (p0.length : Int))) || (decide (256 < (p1.length : Int)))))) (by rw [hb8]; rfl)
            exact s_nil ⟨hE.cut ⟨rfl, rfl, rfl, rfl, rfl, trivial⟩, hp⟩
          ·
            refine s_val (wk1 hE rfl rfl rfl hb8) rfl rfl hE hp (v := vp1) (ex_move rfl hE rfl) ?_
            intro a hE
            refine s_val (wk1 hE rfl rfl rfl hb8) rfl rfl hE hp (v := (.int .i64 (p1.length : Int))) (ex_len rfl hE rfl (RoSl.len hp1 slty26)) ?_
            intro a hE
            refine s_val (wk1 hE rfl rfl rfl hb8) rfl rfl hE hp (v := (.bool (decide (256 < (p1.length : Int))))) (ex_gtr rfl hE rfl rfl) ?_
            intro a hE
            refine s_val (wk0 rfl) rfl rfl hE hp (v := (.bool (decide (256 < (p1.length : Int))))) (ex_pick0 rfl hE rfl hb8 rfl) ?_
            intro a hE
            have hE := hE.eqv (v' := (.bool ((decide (256 < (p0.length : Int))) || (decide (256 < (p1.length : Int)))))) (by rw [hb8]; rfl)
            exact s_nil ⟨hE.cut ⟨rfl, rfl, rfl, rfl, rfl, trivial⟩, hp⟩
        · rintro a w ⟨hE, hp⟩
          refine s_nil ?_
          refine k_if hE rfl (fun hb9 => ?_) (fun hb9 => ?_)
          · replace hm := (it hb9).symm.trans hm
            refine k_seq ?_
            refine k_region ?_
            refine s_val (wk0 rfl) rfl rfl hE hp (v := (.slice (some ⟨b1, 0, none⟩) 0 0)) (ex_move rfl hE rfl) ?_
            intro a hE
            refine s_val (wk0 rfl) rfl rfl hE hp (v := (.slice (some ⟨b1, 0, none⟩) 0 0)) (ex_asn rfl hE rfl) ?_
            intro a hE
            refine s_val (wk0 rfl) rfl rfl hE hp (v := (.int .i64 8)) (ex_asn rfl hE rfl) ?_
            intro a hE
            refine s_nil ?_
            refine k_ret ?_
            have hp := (hp.get 0 rfl).imp (own_of_pt (l := (([] : List Overlap) : List Overlap)) (n := 0) rfl (by decide) rfl)
            have hp : Hp Z ρ (OwnSl 63 (.slice (some ⟨b1, 0, none⟩) 0 0) ([] : List Overlap) :: L) w := hp
            obtain rfl := Option.some.inj hm
            exact ret2 hE rfl rfl rfl ⟨_, rfl, _, rfl, hp⟩
          · replace hm := (ie hb9).symm.trans hm
            refine k_skip ?_
            refine k_seq ?_
            refine k_region ?_
            refine s_val (wk0 rfl) rfl rfl hE hp (v := vp0) (ex_move rfl hE rfl) ?_
            intro a hE
            obtain ⟨x6, ex6, hm⟩ := bnd hm
            refine s_call (wk0 rfl) rfl rfl hE rfl [vp0] ⟨rfl, trivial⟩ ent55 (c_assessorref44_places p0 vp0 hp0 hp x6 ex6) Ret.ret ?_
            intro vr1 a w hR hE
            obtain ⟨u, rfl, hp⟩ := Ret.of hR
            have hp : Hp Z ρ (OwnSl 3 vr1 x6 :: _ :: L) w := hp
            refine s_val (wk0 rfl) rfl rfl hE hp (v := vp1) (ex_move rfl hE rfl) ?_
            intro a hE
            obtain ⟨x7, ex7, hm⟩ := bnd hm
            refine s_call (wk0 rfl) rfl rfl hE rfl [vp1] ⟨rfl, trivial⟩ ent55 (c_assessorref44_places p1 vp1 hp1 hp x7 ex7) Ret.ret ?_
            intro vr2 a w hR hE
            obtain ⟨u, rfl, hp⟩ := Ret.of hR
            have hp : Hp Z ρ (OwnSl 3 vr2 x7 :: _ :: _ :: L) w := hp
            refine s_val (wk0 rfl) rfl rfl hE hp (v := vr1) (ex_asn rfl hE rfl) ?_
            intro a hE
            refine s_val (wk0 rfl) rfl rfl hE hp (v := vr2) (ex_asn rfl hE rfl) ?_
            intro a hE
            refine s_nil ?_
            refine k_seq ?_
            refine k_region ?_
            refine s_lit (wk0 rfl) rfl rfl hE hp rfl [] trivial [] 3 (fun w => by simp [Instr.buildSlice, Instr.fill, Value.cells, go_sem]) ?_
            intro a w b6 hE hp
            have hp : Hp Z ρ (Pt b6 (.cells #[] 3 (0, 0)) :: _ :: _ :: _ :: L) w := hp
            refine s_val (wk0 rfl) rfl rfl hE hp (v := (.slice (some ⟨b6, 0, none⟩) 0 0)) (ex_asn rfl hE rfl) ?_
            intro a hE
            refine s_nil ?_
            refine k_seq ?_
            refine k_seq ?_
            refine k_region ?_
            refine s_val (wk0 rfl) rfl rfl hE hp (v := (.int .i64 0)) (ex_asn rfl hE rfl) ?_
            intro a hE
            refine s_nil ?_
            have hp := (hp.get 0 rfl).imp (own_of_pt (l := (([] : List Int) : List Int)) (n := 0) rfl (by decide) rfl)
            have hp : Hp Z ρ (OwnSl 3 (.slice (some ⟨b6, 0, none⟩) 0 0) ([] : List Int) :: _ :: _ :: _ :: L) w := hp
            obtain ⟨b7, hb10, hm⟩ := bnd hm
            refine k_block (fun a w => ∃ (w7 : Value), Env 217 [(0, vp0), (1, vp1), (2, (.int .i64 p2)), (8, (.slice (some ⟨b1, 0, none⟩) 0 0)), (11, vr1), (13, w7)] a ∧ Hp Z ρ (OwnSl 3 w7 b7 :: OwnSl 3 vr2 x7 :: OwnSl 3 vr1 x6 :: Pt b1 (.cells #[] 63 (0, 0)) :: L) w) ?_ ?_
            · refine k_loop hb10 (fun s a w => ∃ (w7 : Value), Env 217 [(0, vp0), (1, vp1), (2, (.int .i64 p2)), (8, (.slice (some ⟨b1, 0, none⟩) 0 0)), (11, vr1), (12, vr2), (13, w7), (14, (.int .i64 s.1))] a ∧ Hp Z ρ (OwnSl 3 w7 s.2 :: OwnSl 3 vr2 x7 :: OwnSl 3 vr1 x6 :: Pt b1 (.cells #[] 63 (0, 0)) :: L) w) ?_ ?_
              · exact ⟨_, hE.cut ⟨rfl, rfl, rfl, rfl, rfl, rfl, rfl, rfl, trivial⟩, hp⟩
              · rintro ⟨lp2_0, lp2_1⟩ st a w ⟨w7, hE, hp⟩ hl2
                have hE : Env 217 [(0, vp0), (1, vp1), (2, (.int .i64 p2)), (8, (.slice (some ⟨b1, 0, none⟩) 0 0)), (11, vr1), (12, vr2), (13, w7), (14, (.int .i64 lp2_0))] a := hE
                have hp : Hp Z ρ (OwnSl 3 w7 lp2_1 :: _ :: _ :: _ :: L) w := hp
                replace hl2 : m_assessorref44_Overlaps_lp2 p0 p1 x6 x7 lp2_0 lp2_1 = some st := hl2
                unfold m_assessorref44_Overlaps_lp2 at hl2
                refine k_seq ?_
                refine k_seq ?_
                refine k_region ?_
                refine s_val (wk0 rfl) rfl rfl hE hp (v := (.int .i64 lp2_0)) (ex_move rfl hE rfl) ?_
                intro a hE
                refine s_val (wk0 rfl) rfl rfl hE hp (v := vr1) (ex_move rfl hE rfl) ?_
                intro a hE
                refine s_val (wk0 rfl) rfl rfl hE hp (v := (.int .i64 (x6.length : Int))) (ex_len rfl hE rfl (OwnSl.len hp 2 rfl slty23)) ?_
                intro a hE
                refine s_val (wk0 rfl) rfl rfl hE hp (v := (.bool (decide (lp2_0 < (x6.length : Int))))) (ex_lss rfl hE rfl rfl) ?_
                intro a hE
                refine s_nil ?_
                refine k_if hE rfl (fun hb11 => ?_) (fun hb11 => ?_)
                · replace hl2 := (it hb11).symm.trans hl2
                  refine k_skip ?_
                  refine k_seq ?_
                  refine k_plain ?_
                  refine k_seq ?_
                  refine k_region ?_
                  refine s_val (wk0 rfl) rfl rfl hE hp (v := (.int .i64 0)) (ex_asn rfl hE rfl) ?_
                  intro a hE
                  refine s_nil ?_
                  obtain ⟨b8, hb12, hl2⟩ := bnd hl2
                  refine k_block (fun a w => ∃ (w7 : Value), Env 217 [(0, vp0), (1, vp1), (2, (.int .i64 p2)), (8, (.slice (some ⟨b1, 0, none⟩) 0 0)), (11, vr1), (12, vr2), (13, w7), (14, (.int .i64 lp2_0))] a ∧ Hp Z ρ (OwnSl 3 w7 b8 :: OwnSl 3 vr2 x7 :: OwnSl 3 vr1 x6 :: Pt b1 (.cells #[] 63 (0, 0)) :: L) w) ?_ ?_
                  · refine k_loop hb12 (fun s a w => ∃ (w7 : Value), Env 217 [(0, vp0), (1, vp1), (2, (.int .i64 p2)), (8, (.slice (some ⟨b1, 0, none⟩) 0 0)), (11, vr1), (12, vr2), (13, w7), (14, (.int .i64 lp2_0)), (15, (.int .i64 s.1))] a ∧ Hp Z ρ (OwnSl 3 w7 s.2 :: OwnSl 3 vr2 x7 :: OwnSl 3 vr1 x6 :: Pt b1 (.cells #[] 63 (0, 0)) :: L) w) ?_ ?_
                    · exact ⟨_, hE.cut ⟨rfl, rfl, rfl, rfl, rfl, rfl, rfl, rfl, rfl, trivial⟩, hp⟩
                    · rintro ⟨lp3_0, lp3_1⟩ st a w ⟨w7, hE, hp⟩ hl3
                      have hE : Env 217 [(0, vp0), (1, vp1), (2, (.int .i64 p2)), (8, (.slice (some ⟨b1, 0, none⟩) 0 0)), (11, vr1), (12, vr2), (13, w7), (14, (.int .i64 lp2_0)), (15, (.int .i64 lp3_0))] a := hE
                      have hp : Hp Z ρ (OwnSl 3 w7 lp3_1 :: _ :: _ :: _ :: L) w := hp
                      replace hl3 : m_assessorref44_Overlaps_lp3 p0 p1 x6 x7 lp2_0 lp3_0 lp3_1 = some st := hl3
                      unfold m_assessorref44_Overlaps_lp3 at hl3
                      refine k_seq ?_
                      refine k_seq ?_
                      refine k_region ?_
                      refine s_val (wk0 rfl) rfl rfl hE hp (v := (.int .i64 lp3_0)) (ex_move rfl hE rfl) ?_
                      intro a hE
                      refine s_val (wk0 rfl) rfl rfl hE hp (v := vr2) (ex_move rfl hE rfl) ?_
                      intro a hE
                      refine s_val (wk0 rfl) rfl rfl hE hp (v := (.int .i64 (x7.length : Int))) (ex_len rfl hE rfl (OwnSl.len hp 1 rfl slty23)) ?_
                      intro a hE
                      refine s_val (wk0 rfl) rfl rfl hE hp (v := (.bool (decide (lp3_0 < (x7.length : Int))))) (ex_lss rfl hE rfl rfl) ?_
                      intro a hE
                      refine s_nil ?_
                      refine k_if hE rfl (fun hb13 => ?_) (fun hb13 => ?_)
                      · replace hl3 := (it hb13).symm.trans hl3
                        refine k_skip ?_
                        refine k_seq ?_
                        refine k_plain ?_
                        refine k_seq ?_
                        refine k_quiet (by kernel_rfl) (by kernel_rfl) hp ?_
                        refine q_val (wk0 rfl) rfl rfl hE (v := vp0) (ex_move rfl hE rfl) ?_
                        intro a hE
                        refine q_val (wk0 rfl) rfl rfl hE (v := vp1) (ex_move rfl hE rfl) ?_
                        intro a hE
                        refine q_val (wk0 rfl) rfl rfl hE (v := vr1) (ex_move rfl hE rfl) ?_
                        intro a hE
                        refine q_val (wk0 rfl) rfl rfl hE (v := (.int .i64 lp2_0)) (ex_move rfl hE rfl) ?_
                        intro a hE
                        obtain ⟨x8, ex8, hl3⟩ := bnd hl3
                        obtain ⟨b9, b9o, b9r, b9v, b9f⟩ := OwnSl.at hp 2 rfl slty23 ex8
                        have b9f : ∀ (j : Nat) (u : Value), ([(.int .i64 x8)] : List Value)[j]? = some u → ∀ ρ' L' w, Hp Z ρ' (OwnSl 3 vr1 x6 :: L') w → w.cell? ⟨b9, b9o + j, none⟩ = some u := b9f
                        refine q_val (wk0 rfl) rfl rfl hE (v := (.pointer (some ⟨b9, b9o, none⟩))) (ex_index rfl hE rfl rfl b9r) ?_
                        intro a hE
                        refine q_val (wk0 rfl) rfl rfl hE (v := (.int .i64 x8)) (ex_load rfl hE rfl (fun w hw => run_ld1 varty3 (b9f 0 _ rfl _ _ w (hw.get 2 rfl)))) ?_
                        intro a hE
                        refine q_val (wk0 rfl) rfl rfl hE (v := vr2) (ex_move rfl hE rfl) ?_
                        intro a hE
                        refine q_val (wk0 rfl) rfl rfl hE (v := (.int .i64 lp3_0)) (ex_move rfl hE rfl) ?_
                        intro a hE
                        obtain ⟨x9, ex9, hl3⟩ := bnd hl3
                        obtain ⟨b10, b10o, b10r, b10v, b10f⟩ := OwnSl.at hp 1 rfl slty23 ex9
                        have b10f : ∀ (j : Nat) (u : Value), ([(.int .i64 x9)] : List Value)[j]? = some u → ∀ ρ' L' w, Hp Z ρ' (OwnSl 3 vr2 x7 :: L') w → w.cell? ⟨b10, b10o + j, none⟩ = some u := b10f
                        refine q_val (wk0 rfl) rfl rfl hE (v := (.pointer (some ⟨b10, b10o, none⟩))) (ex_index rfl hE rfl rfl b10r) ?_
                        intro a hE
                        refine q_val (wk0 rfl) rfl rfl hE (v := (.int .i64 x9)) (ex_load rfl hE rfl (fun w hw => run_ld1 varty3 (b10f 0 _ rfl _ _ w (hw.get 1 rfl)))) ?_
                        intro a hE
                        obtain ⟨x10, ex10, hl3⟩ := bnd hl3
                        refine q_call (wk0 rfl) rfl rfl hE rfl [vp0, vp1, (.int .i64 x8), (.int .i64 x9)] ⟨rfl, rfl, rfl, rfl, trivial⟩ ent56 (v := (.bool x10)) (fun w hw => Calls.mono (c_assessorref44_match p0 vp0 hp0 p1 vp1 hp1 x8 x9 hw x10 ex10) fun e w' ⟨v, he, hv, hh⟩ => ⟨by rw [he, hv], hh⟩) ?_
                        intro a hE
                        refine q_nil fun w hp => ?_
                        have hp : Hp Z ρ (_ :: _ :: _ :: _ :: L) w := hp
                        have hE := hE.cut (E' := [(0, vp0), (1, vp1), (2, (.int .i64 p2)), (8, (.slice (some ⟨b1, 0, none⟩) 0 0)), (11, vr1), (12, vr2), (13, w7), (14, (.int .i64 lp2_0)), (15, (.int .i64 lp3_0)), (101, (.bool x10))]) ⟨rfl, rfl, rfl, rfl, rfl, rfl, rfl, rfl, rfl, rfl, trivial⟩
                        refine k_if hE rfl (fun hb14 => ?_) (fun hb14 => ?_)
                        · replace hl3 := (it hb14).symm.trans hl3
                          obtain ⟨x11, ex11, hl3⟩ := bnd hl3
                          obtain ⟨x12, ex12, hl3⟩ := bnd hl3
                          obtain ⟨x13, ex13, hl3⟩ := bnd hl3
                          obtain ⟨x14, ex14, hl3⟩ := bnd hl3
                          have hp := hp.drew
                          refine k_heldV ([([], At0 Z ρ), ([], At1 Z ρ (OwnSl 3 vr2 x7)), ([], At1 Z ρ (OwnSl 3 vr1 x6))] : Facts) (fun a w => ∃ y7 : Value, Env 217 [(0, vp0), (1, vp1), (2, (.int .i64 p2)), (8, (.slice (some ⟨b1, 0, none⟩) 0 0)), (11, vr1), (12, vr2), (13, y7), (14, (.int .i64 lp2_0)), (15, (.int .i64 lp3_0))] a ∧ Hp Z ρ (OwnSl 3 y7 x14 :: OwnSl 3 vr2 x7 :: OwnSl 3 vr1 x6 :: Pt b1 (.cells #[] 63 (0, 0)) :: L) w) (by kernel_rfl) ⟨fun _ => ⟨_, hp⟩, fun _ => ⟨_, (hp.get 1 rfl)⟩, fun _ => ⟨_, (hp.get 2 rfl)⟩, trivial⟩ (fun hS => ?_) ?_
                          ·
                            generalize w.drew = w at hS hp ⊢
                            refine v_take0 0 (wk0 rfl) rfl rfl rfl hE (by kernel_rfl) (by kernel_rfl) (by kernel_rfl) rfl (by kernel_rfl) hS (v := w7) (fun _ => ex_move rfl hE rfl) ?_
                            intro a hE hS
                            refine v_take0 1 (wk0 rfl) rfl rfl rfl hE (by kernel_rfl) (by kernel_rfl) (by kernel_rfl) rfl (by kernel_rfl) hS (v := vr2) (fun _ => ex_move rfl hE rfl) ?_
                            intro a hE hS
                            refine v_take0 2 (wk0 rfl) rfl rfl rfl hE (by kernel_rfl) (by kernel_rfl) (by kernel_rfl) rfl (by kernel_rfl) hS (v := (.int .i64 lp3_0)) (fun _ => ex_move rfl hE rfl) ?_
                            intro a hE hS
                            obtain ⟨b13, b13o, b13r, b13v, b13f⟩ := OwnSl.at hp 1 rfl slty23 ex11
                            have b13f : ∀ (j : Nat) (u : Value), ([(.int .i64 x11)] : List Value)[j]? = some u → ∀ ρ' L' w, Hp Z ρ' (OwnSl 3 vr2 x7 :: L') w → w.cell? ⟨b13, b13o + j, none⟩ = some u := b13f
                            refine v_take0 3 (wk0 rfl) rfl rfl rfl hE (by kernel_rfl) (by kernel_rfl) (by kernel_rfl) rfl (by kernel_rfl) hS (v := (.pointer (some ⟨b13, b13o, none⟩))) (fun _ => ex_index rfl hE rfl rfl b13r) ?_
                            intro a hE hS
                            refine v_take1 4 1 (wk0 rfl) rfl rfl rfl hE (by kernel_rfl) (by kernel_rfl) (by kernel_rfl) rfl (by kernel_rfl) hS (v := (.int .i64 x11)) (fun _ => ex_load rfl hE rfl (fun w hw => run_ld1 varty3 (b13f 0 _ rfl _ _ w (hw.get 0 rfl)))) ?_
                            intro a hE hS
                            refine v_take0 5 (wk0 rfl) rfl rfl rfl hE (by kernel_rfl) (by kernel_rfl) (by kernel_rfl) rfl (by kernel_rfl) hS (v := vr1) (fun _ => ex_move rfl hE rfl) ?_
                            intro a hE hS
                            refine v_take0 6 (wk0 rfl) rfl rfl rfl hE (by kernel_rfl) (by kernel_rfl) (by kernel_rfl) rfl (by kernel_rfl) hS (v := (.int .i64 lp2_0)) (fun _ => ex_move rfl hE rfl) ?_
                            intro a hE hS
                            obtain ⟨b14, b14o, b14r, b14v, b14f⟩ := OwnSl.at hp 2 rfl slty23 ex12
                            have b14f : ∀ (j : Nat) (u : Value), ([(.int .i64 x12)] : List Value)[j]? = some u → ∀ ρ' L' w, Hp Z ρ' (OwnSl 3 vr1 x6 :: L') w → w.cell? ⟨b14, b14o + j, none⟩ = some u := b14f
                            refine v_take0 7 (wk0 rfl) rfl rfl rfl hE (by kernel_rfl) (by kernel_rfl) (by kernel_rfl) rfl (by kernel_rfl) hS (v := (.pointer (some ⟨b14, b14o, none⟩))) (fun _ => ex_index rfl hE rfl rfl b14r) ?_
                            intro a hE hS
                            refine v_take1 8 2 (wk0 rfl) rfl rfl rfl hE (by kernel_rfl) (by kernel_rfl) (by kernel_rfl) rfl (by kernel_rfl) hS (v := (.int .i64 x12)) (fun _ => ex_load rfl hE rfl (fun w hw => run_ld1 varty3 (b14f 0 _ rfl _ _ w (hw.get 0 rfl)))) ?_
                            intro a hE hS
                            refine v_take0 9 (wk0 rfl) rfl rfl rfl hE (by kernel_rfl) (by kernel_rfl) (by kernel_rfl) rfl (by kernel_rfl) hS (v := (.int .i64 x13)) (fun _ => ex_sub rfl hE rfl rfl (inK_some ex13)) ?_
                            intro a hE hS
                            refine v_all [10] (by kernel_rfl) rfl ?_
                            refine List.forall_mem_cons.2 ⟨?_, fun _ h => absurd h (by simp)⟩
                            ·
                              refine h_op rfl ?_
                              refine s_call (wk0 rfl) rfl rfl hE rfl [w7, (.int .i64 x13)] ⟨rfl, rfl, trivial⟩ ent35 (c_assessorref43_Add_own lp3_1 w7 x13 (hp.get 0 rfl) x14 ex14) Ret.ret ?_
                              intro v2 a w hR hE
                              obtain ⟨u, hu, hp⟩ := Ret.of hR
                              rw [← hu] at hp
                              have hp : Hp Z ρ (OwnSl 3 v2 x14 :: _ :: _ :: _ :: L) w := hp
                              refine s_nil (and_with ⟨fun _ => ⟨_, hp⟩, fun _ => ⟨_, (hp.get 1 rfl)⟩, fun _ => ⟨_, (hp.get 2 rfl)⟩, trivial⟩ fun hS => ?_)
                              refine v_take0 11 (wk0 rfl) rfl rfl rfl hE (by kernel_rfl) (by kernel_rfl) (by kernel_rfl) rfl (by kernel_rfl) hS (v := v2) (fun _ => ex_asn rfl hE rfl) ?_
                              intro a hE hS
                              exact v_done (by kernel_rfl) ⟨_, hE.cut ⟨rfl, rfl, rfl, rfl, rfl, rfl, rfl, rfl, rfl, trivial⟩, hp⟩
                          · rintro a w ⟨y7, hE, hp⟩
                            refine k_region ?_
                            refine s_val (wk0 rfl) rfl rfl hE hp (v := (.int .i64 lp3_0)) (ex_move rfl hE rfl) ?_
                            intro a hE
                            obtain ⟨x15, ex15, hl3⟩ := bnd hl3
                            refine s_val (wk0 rfl) rfl rfl hE hp (v := (.int .i64 x15)) (ex_add rfl hE rfl rfl (inK_some ex15)) ?_
                            intro a hE
                            refine s_val (wk0 rfl) rfl rfl hE hp (v := (.int .i64 x15)) (ex_asn rfl hE rfl) ?_
                            intro a hE
                            refine s_nil ?_
                            exact ⟨_, (Option.some.inj hl3).symm, _, hE.cut ⟨rfl, rfl, rfl, rfl, rfl, rfl, rfl, rfl, rfl, trivial⟩, hp⟩
                        · replace hl3 := (ie hb14).symm.trans hl3
                          refine k_skip ?_
                          refine k_region ?_
                          refine s_val (wk0 rfl) rfl rfl hE hp (v := (.int .i64 lp3_0)) (ex_move rfl hE rfl) ?_
                          intro a hE
                          obtain ⟨x16, ex16, hl3⟩ := bnd hl3
                          refine s_val (wk0 rfl) rfl rfl hE hp (v := (.int .i64 x16)) (ex_add rfl hE rfl rfl (inK_some ex16)) ?_
                          intro a hE
                          refine s_val (wk0 rfl) rfl rfl hE hp (v := (.int .i64 x16)) (ex_asn rfl hE rfl) ?_
                          intro a hE
                          refine s_nil ?_
                          exact ⟨_, (Option.some.inj hl3).symm, _, hE.cut ⟨rfl, rfl, rfl, rfl, rfl, rfl, rfl, rfl, rfl, trivial⟩, hp⟩
                      · replace hl3 := (ie hb13).symm.trans hl3
                        refine k_exit ?_
                        refine ⟨_, (Option.some.inj hl3).symm, fun hbb => ?_⟩
                        subst hbb
                        exact ⟨_, hE.cut ⟨rfl, rfl, rfl, rfl, rfl, rfl, rfl, rfl, trivial⟩, hp⟩
                  · rintro a w ⟨w7, hE, hp⟩
                    refine k_region ?_
                    refine s_val (wk0 rfl) rfl rfl hE hp (v := (.int .i64 lp2_0)) (ex_move rfl hE rfl) ?_
                    intro a hE
                    obtain ⟨x17, ex17, hl2⟩ := bnd hl2
                    refine s_val (wk0 rfl) rfl rfl hE hp (v := (.int .i64 x17)) (ex_add rfl hE rfl rfl (inK_some ex17)) ?_
                    intro a hE
                    refine s_val (wk0 rfl) rfl rfl hE hp (v := (.int .i64 x17)) (ex_asn rfl hE rfl) ?_
                    intro a hE
                    refine s_nil ?_
                    exact ⟨_, (Option.some.inj hl2).symm, _, hE.cut ⟨rfl, rfl, rfl, rfl, rfl, rfl, rfl, rfl, trivial⟩, hp⟩
                · replace hl2 := (ie hb11).symm.trans hl2
                  refine k_exit ?_
                  refine ⟨_, (Option.some.inj hl2).symm, fun hbb => ?_⟩
                  subst hbb
                  exact ⟨_, hE.cut ⟨rfl, rfl, rfl, rfl, rfl, rfl, trivial⟩, hp⟩
            · rintro a w ⟨w7, hE, hp⟩
              refine k_seq ?_
              refine k_seq ?_
              refine k_region ?_
              refine s_val (wk0 rfl) rfl rfl hE hp (v := (.int .i64 0)) (ex_asn rfl hE rfl) ?_
              intro a hE
              refine s_nil ?_
              have hp := (hp.get 3 rfl).imp (own_of_pt (l := (([] : List Overlap) : List Overlap)) (n := 0) rfl (by decide) rfl)
              have hp : Hp Z ρ (OwnSl 63 (.slice (some ⟨b1, 0, none⟩) 0 0) ([] : List Overlap) :: OwnSl 3 w7 b7 :: _ :: _ :: L) w := hp
              obtain ⟨b15, hb15, hm⟩ := bnd hm
              refine k_block (fun a w => ∃ (w2 : Value), Env 217 [(8, w2)] a ∧ Hp Z ρ (OwnSl 63 w2 b15 :: OwnSl 3 w7 b7 :: OwnSl 3 vr2 x7 :: OwnSl 3 vr1 x6 :: L) w) ?_ ?_
              · refine k_loop hb15 (fun s a w => ∃ (w2 : Value), Env 217 [(0, vp0), (1, vp1), (2, (.int .i64 p2)), (8, w2), (11, vr1), (13, w7), (16, (.int .i64 s.1))] a ∧ Hp Z ρ (OwnSl 63 w2 s.2 :: OwnSl 3 w7 b7 :: OwnSl 3 vr2 x7 :: OwnSl 3 vr1 x6 :: L) w) ?_ ?_
                · exact ⟨_, hE.cut ⟨rfl, rfl, rfl, rfl, rfl, rfl, rfl, trivial⟩, hp⟩
                · rintro ⟨lp4_0, lp4_1⟩ st a w ⟨w2, hE, hp⟩ hl4
                  have hE : Env 217 [(0, vp0), (1, vp1), (2, (.int .i64 p2)), (8, w2), (11, vr1), (13, w7), (16, (.int .i64 lp4_0))] a := hE
                  have hp : Hp Z ρ (OwnSl 63 w2 lp4_1 :: _ :: _ :: _ :: L) w := hp
                  replace hl4 : m_assessorref44_Overlaps_lp4 p0 p1 p2 x6 b7 lp4_0 lp4_1 = some st := hl4
                  unfold m_assessorref44_Overlaps_lp4 at hl4
                  refine k_seq ?_
                  refine k_seq ?_
                  refine k_region ?_
                  refine s_val (wk0 rfl) rfl rfl hE hp (v := (.int .i64 lp4_0)) (ex_move rfl hE rfl) ?_
                  intro a hE
                  refine s_val (wk0 rfl) rfl rfl hE hp (v := w7) (ex_move rfl hE rfl) ?_
                  intro a hE
                  refine s_val (wk0 rfl) rfl rfl hE hp (v := (.int .i64 (b7.length : Int))) (ex_len rfl hE rfl (OwnSl.len hp 1 rfl slty23)) ?_
                  intro a hE
                  refine s_val (wk0 rfl) rfl rfl hE hp (v := (.bool (decide (lp4_0 < (b7.length : Int))))) (ex_lss rfl hE rfl rfl) ?_
                  intro a hE
                  refine s_nil ?_
                  refine k_if hE rfl (fun hb16 => ?_) (fun hb16 => ?_)
                  · replace hl4 := (it hb16).symm.trans hl4
                    refine k_skip ?_
                    refine k_seq ?_
                    refine k_plain ?_
                    refine k_seq ?_
                    refine k_region ?_
                    refine s_val (wk0 rfl) rfl rfl hE hp (v := (.int .i64 (-1))) (ex_asn rfl hE rfl) ?_
                    intro a hE
                    refine s_val (wk0 rfl) rfl rfl hE hp (v := (.int .i64 (-1))) (ex_asn rfl hE rfl) ?_
                    intro a hE
                    refine s_nil ?_
                    refine k_seq ?_
                    refine k_region ?_
                    refine s_val (wk0 rfl) rfl rfl hE hp (v := (.int .i64 0)) (ex_asn rfl hE rfl) ?_
                    intro a hE
                    refine s_nil ?_
                    obtain ⟨b16, hb17, hl4⟩ := bnd hl4
                    refine k_block (fun a w => ∃ (w2 : Value), Env 217 [(0, vp0), (1, vp1), (2, (.int .i64 p2)), (8, w2), (11, vr1), (13, w7), (16, (.int .i64 lp4_0))] a ∧ Hp Z ρ (OwnSl 63 w2 b16 :: OwnSl 3 w7 b7 :: OwnSl 3 vr2 x7 :: OwnSl 3 vr1 x6 :: L) w) ?_ ?_
                    · refine k_loop hb17 (fun s a w => ∃ (w2 : Value), Env 217 [(0, vp0), (1, vp1), (2, (.int .i64 p2)), (8, w2), (11, vr1), (13, w7), (16, (.int .i64 lp4_0)), (17, (.int .i64 s.1)), (18, (.int .i64 s.2.1)), (19, (.int .i64 s.2.2.1))] a ∧ Hp Z ρ (OwnSl 63 w2 s.2.2.2 :: OwnSl 3 w7 b7 :: OwnSl 3 vr2 x7 :: OwnSl 3 vr1 x6 :: L) w) ?_ ?_
                      · exact ⟨_, hE.cut ⟨rfl, rfl, rfl, rfl, rfl, rfl, rfl, rfl, rfl, rfl, trivial⟩, hp⟩
                      · rintro ⟨lp5_0, lp5_1, lp5_2, lp5_3⟩ st a w ⟨w2, hE, hp⟩ hl5
                        have hE : Env 217 [(0, vp0), (1, vp1), (2, (.int .i64 p2)), (8, w2), (11, vr1), (13, w7), (16, (.int .i64 lp4_0)), (17, (.int .i64 lp5_0)), (18, (.int .i64 lp5_1)), (19, (.int .i64 lp5_2))] a := hE
                        have hp : Hp Z ρ (OwnSl 63 w2 lp5_3 :: _ :: _ :: _ :: L) w := hp
                        replace hl5 : m_assessorref44_Overlaps_lp5 p0 p1 p2 x6 b7 lp4_0 lp5_0 lp5_1 lp5_2 lp5_3 = some st := hl5
                        unfold m_assessorref44_Overlaps_lp5 at hl5
                        refine k_seq ?_
                        refine k_seq ?_
                        refine k_region ?_
                        refine s_val (wk0 rfl) rfl rfl hE hp (v := (.int .i64 lp5_2)) (ex_move rfl hE rfl) ?_
                        intro a hE
                        refine s_val (wk0 rfl) rfl rfl hE hp (v := vr1) (ex_move rfl hE rfl) ?_
                        intro a hE
                        refine s_val (wk0 rfl) rfl rfl hE hp (v := (.int .i64 (x6.length : Int))) (ex_len rfl hE rfl (OwnSl.len hp 3 rfl slty23)) ?_
                        intro a hE
                        refine s_val (wk0 rfl) rfl rfl hE hp (v := (.bool (decide (lp5_2 ≤ (x6.length : Int))))) (ex_leq rfl hE rfl rfl) ?_
                        intro a hE
                        refine s_nil ?_
                        refine k_if hE rfl (fun hb18 => ?_) (fun hb18 => ?_)
                        · replace hl5 := (it hb18).symm.trans hl5
                          refine k_skip ?_
                          refine k_seq ?_
                          refine k_plain ?_
                          refine k_seq ?_
                          refine k_region ?_
                          refine s_val (wk0 rfl) rfl rfl hE hp (v := (.int .i64 (-1))) (ex_asn rfl hE rfl) ?_
                          intro a hE
                          refine s_nil ?_
                          refine k_seq ?_
                          refine k_seq ?_
                          refine k_quiet (by kernel_rfl) (by kernel_rfl) hp ?_
                          refine q_val (wk0 rfl) rfl rfl hE (v := (.int .i64 lp5_2)) (ex_move rfl hE rfl) ?_
                          intro a hE
                          refine q_val (wk0 rfl) rfl rfl hE (v := vr1) (ex_move rfl hE rfl) ?_
                          intro a hE
                          refine q_val (wk0 rfl) rfl rfl hE (v := (.int .i64 (x6.length : Int))) (ex_len rfl hE rfl (OwnSl.len hp 3 rfl slty23)) ?_
                          intro a hE
                          refine q_val (wk0 rfl) rfl rfl hE (v := (.bool (decide (lp5_2 < (x6.length : Int))))) (ex_lss rfl hE rfl rfl) ?_
                          intro a hE
                          refine q_val (wk0 rfl) rfl rfl hE (v := (.bool (decide (lp5_2 < (x6.length : Int))))) (ex_move rfl hE rfl) ?_
                          intro a hE
                          obtain ⟨m1, hg1, hl5⟩ := bnd hl5
                          refine q_cut [_, _, _, _, _, _, _, _, _, _, _, _, _, _, _, _, _] (fun a => Env 217 [(146, (.bool m1)), (0, vp0), (1, vp1), (2, (.int .i64 p2)), (8, w2), (11, vr1), (13, w7), (16, (.int .i64 lp4_0)), (17, (.int .i64 lp5_0)), (18, (.int .i64 lp5_1)), (19, (.int .i64 lp5_2)), (20, (.int .i64 (-1)))] a) ?_ ?_
                          · rcases Bool.eq_false_or_eq_true (decide (lp5_2 < (x6.length : Int))) with hb19 | hb19
                            ·
                              replace hg1 := (it hb19).symm.trans hg1
                              refine q_val (wk1 hE rfl rfl rfl hb19) rfl rfl hE (v := vp0) (ex_move rfl hE rfl) ?_
                              intro a hE
                              refine q_val (wk1 hE rfl rfl rfl hb19) rfl rfl hE (v := vp1) (ex_move rfl hE rfl) ?_
                              intro a hE
                              refine q_val (wk1 hE rfl rfl rfl hb19) rfl rfl hE (v := vr1) (ex_move rfl hE rfl) ?_
                              intro a hE
                              refine q_val (wk1 hE rfl rfl rfl hb19) rfl rfl hE (v := (.int .i64 lp5_2)) (ex_move rfl hE rfl) ?_
                              intro a hE
                              obtain ⟨x18, ex18, hg1⟩ := bnd hg1
                              obtain ⟨b17, b17o, b17r, b17v, b17f⟩ := OwnSl.at hp 3 rfl slty23 ex18
                              have b17f : ∀ (j : Nat) (u : Value), ([(.int .i64 x18)] : List Value)[j]? = some u → ∀ ρ' L' w, Hp Z ρ' (OwnSl 3 vr1 x6 :: L') w → w.cell? ⟨b17, b17o + j, none⟩ = some u := b17f
                              refine q_val (wk1 hE rfl rfl rfl hb19) rfl rfl hE (v := (.pointer (some ⟨b17, b17o, none⟩))) (ex_index rfl hE rfl rfl b17r) ?_
                              intro a hE
                              refine q_val (wk1 hE rfl rfl rfl hb19) rfl rfl hE (v := (.int .i64 x18)) (ex_load rfl hE rfl (fun w hw => run_ld1 varty3 (b17f 0 _ rfl _ _ w (hw.get 3 rfl)))) ?_
                              intro a hE
                              refine q_val (wk1 hE rfl rfl rfl hb19) rfl rfl hE (v := vr1) (ex_move rfl hE rfl) ?_
                              intro a hE
                              refine q_val (wk1 hE rfl rfl rfl hb19) rfl rfl hE (v := (.int .i64 lp5_2)) (ex_move rfl hE rfl) ?_
                              intro a hE
                              obtain ⟨x19, ex19, hg1⟩ := bnd hg1
                              obtain ⟨b18, b18o, b18r, b18v, b18f⟩ := OwnSl.at hp 3 rfl slty23 ex19
                              have b18f : ∀ (j : Nat) (u : Value), ([(.int .i64 x19)] : List Value)[j]? = some u → ∀ ρ' L' w, Hp Z ρ' (OwnSl 3 vr1 x6 :: L') w → w.cell? ⟨b18, b18o + j, none⟩ = some u := b18f
                              refine q_val (wk1 hE rfl rfl rfl hb19) rfl rfl hE (v := (.pointer (some ⟨b18, b18o, none⟩))) (ex_index rfl hE rfl rfl b18r) ?_
                              intro a hE
                              refine q_val (wk1 hE rfl rfl rfl hb19) rfl rfl hE (v := (.int .i64 x19)) (ex_load rfl hE rfl (fun w hw => run_ld1 varty3 (b18f 0 _ rfl _ _ w (hw.get 3 rfl)))) ?_
                              intro a hE
                              refine q_val (wk1 hE rfl rfl rfl hb19) rfl rfl hE (v := w7) (ex_move rfl hE rfl) ?_
                              intro a hE
                              refine q_val (wk1 hE rfl rfl rfl hb19) rfl rfl hE (v := (.int .i64 lp4_0)) (ex_move rfl hE rfl) ?_
                              intro a hE
                              obtain ⟨x20, ex20, hg1⟩ := bnd hg1
                              obtain ⟨b19, b19o, b19r, b19v, b19f⟩ := OwnSl.at hp 1 rfl slty23 ex20
                              have b19f : ∀ (j : Nat) (u : Value), ([(.int .i64 x20)] : List Value)[j]? = some u → ∀ ρ' L' w, Hp Z ρ' (OwnSl 3 w7 b7 :: L') w → w.cell? ⟨b19, b19o + j, none⟩ = some u := b19f
                              refine q_val (wk1 hE rfl rfl rfl hb19) rfl rfl hE (v := (.pointer (some ⟨b19, b19o, none⟩))) (ex_index rfl hE rfl rfl b19r) ?_
                              intro a hE
                              refine q_val (wk1 hE rfl rfl rfl hb19) rfl rfl hE (v := (.int .i64 x20)) (ex_load rfl hE rfl (fun w hw => run_ld1 varty3 (b19f 0 _ rfl _ _ w (hw.get 1 rfl)))) ?_
                              intro a hE
                              obtain ⟨x21, ex21, hg1⟩ := bnd hg1
                              refine q_val (wk1 hE rfl rfl rfl hb19) rfl rfl hE (v := (.int .i64 x21)) (ex_add rfl hE rfl rfl (inK_some ex21)) ?_
                              intro a hE
                              obtain ⟨x22, ex22, hg1⟩ := bnd hg1
                              refine q_call (wk1 hE rfl rfl rfl hb19) rfl rfl hE rfl [vp0, vp1, (.int .i64 x18), (.int .i64 x21)] ⟨rfl, rfl, rfl, rfl, trivial⟩ ent56 (v := (.bool x22)) (fun w hw => Calls.mono (c_assessorref44_match p0 vp0 hp0 p1 vp1 hp1 x18 x21 hw x22 ex22) fun e w' ⟨v, he, hv, hh⟩ => ⟨by rw [he, hv], hh⟩) ?_
                              intro a hE
                              refine q_val (wk0 rfl) rfl rfl hE (v := (.bool x22)) (ex_pick1 rfl hE rfl hb19 rfl) ?_
                              intro a hE
                              obtain rfl := Option.some.inj hg1
                              exact q_nil (hE.cut ⟨rfl, rfl, rfl, rfl, rfl, rfl, rfl, rfl, rfl, rfl, rfl, rfl, trivial⟩)
                            ·
                              replace hg1 := (ie hb19).symm.trans hg1
                              refine q_skip (wk2 hE rfl rfl rfl hb19) rfl rfl hE ?_
                              intro a hE
                              refine q_skip (wk2 hE rfl rfl rfl hb19) rfl rfl hE ?_
                              intro a hE
                              refine q_skip (wk2 hE rfl rfl rfl hb19) rfl rfl hE ?_
                              intro a hE
                              refine q_skip (wk2 hE rfl rfl rfl hb19) rfl rfl hE ?_
                              intro a hE
                              refine q_skip (wk2 hE rfl rfl rfl hb19) rfl rfl hE ?_
                              intro a hE
                              refine q_skip (wk2 hE rfl rfl rfl hb19) rfl rfl hE ?_
                              intro a hE
                              refine q_skip (wk2 hE rfl rfl rfl hb19) rfl rfl hE ?_
                              intro a hE
                              refine q_skip (wk2 hE rfl rfl rfl hb19) rfl rfl hE ?_
                              intro a hE
                              refine q_skip (wk2 hE rfl rfl rfl hb19) rfl rfl hE ?_
                              intro a hE
                              refine q_skip (wk2 hE rfl rfl rfl hb19) rfl rfl hE ?_
                              intro a hE
                              refine q_skip (wk2 hE rfl rfl rfl hb19) rfl rfl hE ?_
                              intro a hE
                              refine q_skip (wk2 hE rfl rfl rfl hb19) rfl rfl hE ?_
                              intro a hE
                              refine q_skip (wk2 hE rfl rfl rfl hb19) rfl rfl hE ?_
                              intro a hE
                              refine q_skip (wk2 hE rfl rfl rfl hb19) rfl rfl hE ?_
                              intro a hE
                              refine q_skip (wk2 hE rfl rfl rfl hb19) rfl rfl hE ?_
                              intro a hE
                              refine q_skip (wk2 hE rfl rfl rfl hb19) rfl rfl hE ?_
                              intro a hE
                              refine q_val (wk0 rfl) rfl rfl hE (v := (.bool false)) (ex_pick0 rfl hE rfl hb19 rfl) ?_
                              intro a hE
                              obtain rfl := Option.some.inj hg1
                              exact q_nil (hE.cut ⟨rfl, rfl, rfl, rfl, rfl, rfl, rfl, rfl, rfl, rfl, rfl, rfl, trivial⟩)
                          · intro a hE
                            refine q_nil fun w hp => ?_
                            have hp : Hp Z ρ (_ :: _ :: _ :: _ :: L) w := hp
                            obtain ⟨j2, hj2, hl5⟩ := bnd hl5
                            refine k_cut (fun a w => Env 217 [(0, vp0), (1, vp1), (2, (.int .i64 p2)), (8, w2), (11, vr1), (13, w7), (16, (.int .i64 lp4_0)), (17, (.int .i64 lp5_0)), (18, (.int .i64 lp5_1)), (19, (.int .i64 lp5_2)), (20, (.int .i64 j2))] a ∧ Hp Z ρ (OwnSl 63 w2 lp5_3 :: OwnSl 3 w7 b7 :: OwnSl 3 vr2 x7 :: OwnSl 3 vr1 x6 :: L) w) ?_ ?_
                            ·
                              refine k_if hE rfl (fun hb20 => ?_) (fun hb20 => ?_)
                              · replace hj2 := (it hb20).symm.trans hj2
                                refine k_region ?_
                                refine s_val (wk0 rfl) rfl rfl hE hp (v := vr1) (ex_move rfl hE rfl) ?_
                                intro a hE
                                refine s_val (wk0 rfl) rfl rfl hE hp (v := (.int .i64 lp5_2)) (ex_move rfl hE rfl) ?_
                                intro a hE
                                obtain ⟨x23, ex23, hj2⟩ := bnd hj2
                                obtain ⟨b20, b20o, b20r, b20v, b20f⟩ := OwnSl.at hp 3 rfl slty23 ex23
                                have b20f : ∀ (j : Nat) (u : Value), ([(.int .i64 x23)] : List Value)[j]? = some u → ∀ ρ' L' w, Hp Z ρ' (OwnSl 3 vr1 x6 :: L') w → w.cell? ⟨b20, b20o + j, none⟩ = some u := b20f
                                refine s_val (wk0 rfl) rfl rfl hE hp (v := (.pointer (some ⟨b20, b20o, none⟩))) (ex_index rfl hE rfl rfl b20r) ?_
                                intro a hE
                                refine s_val (wk0 rfl) rfl rfl hE hp (v := (.int .i64 x23)) (ex_load rfl hE rfl (fun w hw => run_ld1 varty3 (b20f 0 _ rfl _ _ w (hw.get 3 rfl)))) ?_
                                intro a hE
                                refine s_val (wk0 rfl) rfl rfl hE hp (v := (.int .i64 x23)) (ex_asn rfl hE rfl) ?_
                                intro a hE
                                refine s_nil ?_
                                obtain rfl := Option.some.inj hj2
                                exact ⟨hE.cut ⟨rfl, rfl, rfl, rfl, rfl, rfl, rfl, rfl, rfl, rfl, rfl, trivial⟩, hp⟩
                              · replace hj2 := (ie hb20).symm.trans hj2
                                refine k_skip ?_
                                obtain rfl := Option.some.inj hj2
                                exact ⟨hE.cut ⟨rfl, rfl, rfl, rfl, rfl, rfl, rfl, rfl, rfl, rfl, rfl, trivial⟩, hp⟩
                            · rintro a w ⟨hE, hp⟩
                              refine k_seq ?_
                              refine k_seq ?_
                              refine k_region ?_
                              refine s_val (wk0 rfl) rfl rfl hE hp (v := (.int .i64 lp5_0)) (ex_move rfl hE rfl) ?_
                              intro a hE
                              refine s_val (wk0 rfl) rfl rfl hE hp (v := (.bool (decide (0 ≤ lp5_0)))) (ex_geq rfl hE rfl rfl) ?_
                              intro a hE
                              refine s_val (wk0 rfl) rfl rfl hE hp (v := (.bool (decide (0 ≤ lp5_0)))) (ex_move rfl hE rfl) ?_
                              intro a hE
                              obtain ⟨m2, hg2, hl5⟩ := bnd hl5
                              refine s_cut [_, _, _, _, _, _, _, _, _, _, _, _, _, _, _, _] (fun a w => Env 217 [(169, (.bool m2)), (0, vp0), (1, vp1), (2, (.int .i64 p2)), (8, w2), (11, vr1), (13, w7), (16, (.int .i64 lp4_0)), (17, (.int .i64 lp5_0)), (18, (.int .i64 lp5_1)), (19, (.int .i64 lp5_2)), (20, (.int .i64 j2))] a ∧ Hp Z ρ (OwnSl 63 w2 lp5_3 :: OwnSl 3 w7 b7 :: OwnSl 3 vr2 x7 :: OwnSl 3 vr1 x6 :: L) w) ?_ ?_
                              · rcases Bool.eq_false_or_eq_true (decide (0 ≤ lp5_0)) with hb21 | hb21
                                ·
                                  replace hg2 := (it hb21).symm.trans hg2
                                  refine s_val (wk1 hE rfl rfl rfl hb21) rfl rfl hE hp (v := (.int .i64 lp5_2)) (ex_move rfl hE rfl) ?_
                                  intro a hE
                                  refine s_val (wk1 hE rfl rfl rfl hb21) rfl rfl hE hp (v := vr1) (ex_move rfl hE rfl) ?_
                                  intro a hE
                                  refine s_val (wk1 hE rfl rfl rfl hb21) rfl rfl hE hp (v := (.int .i64 (x6.length : Int))) (ex_len rfl hE rfl (OwnSl.len hp 3 rfl slty23)) ?_
                                  intro a hE
                                  refine s_val (wk1 hE rfl rfl rfl hb21) rfl rfl hE hp (v := (.bool (decide (lp5_2 = (x6.length : Int))))) (ex_eql rfl hE rfl rfl) ?_
                                  intro a hE
                                  refine s_val (wk1 hE rfl rfl rfl hb21) rfl rfl hE hp (v := (.bool (decide (lp5_2 = (x6.length : Int))))) (ex_move rfl hE rfl) ?_
                                  intro a hE
                                  obtain ⟨m3, hg3, hg2⟩ := bnd hg2
                                  refine s_cut [_, _, _, _, _, _, _, _, _, _] (fun a w => Env 217 [(168, (.bool m3)), (0, vp0), (1, vp1), (2, (.int .i64 p2)), (8, w2), (11, vr1), (13, w7), (16, (.int .i64 lp4_0)), (17, (.int .i64 lp5_0)), (18, (.int .i64 lp5_1)), (19, (.int .i64 lp5_2)), (20, (.int .i64 j2)), (153, (.bool (decide (0 ≤ lp5_0)))), (154, (.int .i64 lp5_2)), (155, vr1), (156, (.int .i64 (x6.length : Int))), (157, (.bool (decide (lp5_2 = (x6.length : Int))))), (158, (.bool (decide (lp5_2 = (x6.length : Int)))))] a ∧ Hp Z ρ (OwnSl 63 w2 lp5_3 :: OwnSl 3 w7 b7 :: OwnSl 3 vr2 x7 :: OwnSl 3 vr1 x6 :: L) w) ?_ ?_
                                  · rcases Bool.eq_false_or_eq_true (decide (lp5_2 = (x6.length : Int))) with hb22 | hb22
                                    ·
                                      replace hg3 := (it hb22).symm.trans hg3
                                      refine s_skip (wk2 hE rfl rfl rfl hb22) rfl rfl hE ?_
                                      intro a hE
                                      refine s_skip (wk2 hE rfl rfl rfl hb22) rfl rfl hE ?_
                                      intro a hE
                                      refine s_skip (wk2 hE rfl rfl rfl hb22) rfl rfl hE ?_
                                      intro a hE
                                      refine s_skip (wk3 hE rfl rfl rfl) rfl rfl hE ?_
                                      intro a hE
                                      refine s_skip (wk3 hE rfl rfl rfl) rfl rfl hE ?_
                                      intro a hE
                                      refine s_skip (wk3 hE rfl rfl rfl) rfl rfl hE ?_
                                      intro a hE
                                      refine s_skip (wk3 hE rfl rfl rfl) rfl rfl hE ?_
                                      intro a hE
                                      refine s_skip (wk3 hE rfl rfl rfl) rfl rfl hE ?_
                                      intro a hE
                                      refine s_skip (wk2 hE rfl rfl rfl hb22) rfl rfl hE ?_
                                      intro a hE
                                      refine s_val (wk1 hE rfl rfl rfl hb21) rfl rfl hE hp (v := (.bool true)) (ex_pick1 rfl hE rfl hb22 rfl) ?_
                                      intro a hE
                                      obtain rfl := Option.some.inj hg3
                                      exact s_nil ⟨hE.cut ⟨rfl, rfl, rfl, rfl, rfl, rfl, rfl, rfl, rfl, rfl, rfl, rfl, rfl, rfl, rfl, rfl, rfl, rfl, trivial⟩, hp⟩
                                    ·
                                      replace hg3 := (ie hb22).symm.trans hg3
                                      refine s_val (wk1 hE rfl rfl rfl hb22) rfl rfl hE hp (v := (.int .i64 j2)) (ex_move rfl hE rfl) ?_
                                      intro a hE
                                      refine s_val (wk1 hE rfl rfl rfl hb22) rfl rfl hE hp (v := (.bool (decide (0 ≤ j2)))) (ex_geq rfl hE rfl rfl) ?_
                                      intro a hE
                                      refine s_val (wk1 hE rfl rfl rfl hb22) rfl rfl hE hp (v := (.bool (decide (0 ≤ j2)))) (ex_move rfl hE rfl) ?_
                                      intro a hE
                                      obtain ⟨m4, hg4, hg3⟩ := bnd hg3
                                      refine s_cut [_, _, _, _, _, _] (fun a w => Env 217 [(167, (.bool m4)), (0, vp0), (1, vp1), (2, (.int .i64 p2)), (8, w2), (11, vr1), (13, w7), (16, (.int .i64 lp4_0)), (17, (.int .i64 lp5_0)), (18, (.int .i64 lp5_1)), (19, (.int .i64 lp5_2)), (20, (.int .i64 j2)), (153, (.bool (decide (0 ≤ lp5_0)))), (154, (.int .i64 lp5_2)), (155, vr1), (156, (.int .i64 (x6.length : Int))), (157, (.bool (decide (lp5_2 = (x6.length : Int))))), (158, (.bool (decide (lp5_2 = (x6.length : Int))))), (159, (.int .i64 j2)), (160, (.bool (decide (0 ≤ j2)))), (161, (.bool (decide (0 ≤ j2))))] a ∧ Hp Z ρ (OwnSl 63 w2 lp5_3 :: OwnSl 3 w7 b7 :: OwnSl 3 vr2 x7 :: OwnSl 3 vr1 x6 :: L) w) ?_ ?_
                                      · rcases Bool.eq_false_or_eq_true (decide (0 ≤ j2)) with hb23 | hb23
                                        ·
                                          replace hg4 := (it hb23).symm.trans hg4
                                          refine s_val (wk1 hE rfl rfl rfl hb23) rfl rfl hE hp (v := (.int .i64 j2)) (ex_move rfl hE rfl) ?_
                                          intro a hE
                                          refine s_val (wk1 hE rfl rfl rfl hb23) rfl rfl hE hp (v := (.int .i64 lp5_1)) (ex_move rfl hE rfl) ?_
                                          intro a hE
                                          refine s_val (wk1 hE rfl rfl rfl hb23) rfl rfl hE hp (v := (.int .i64 p2)) (ex_move rfl hE rfl) ?_
                                          intro a hE
                                          obtain ⟨x24, ex24, hg4⟩ := bnd hg4
                                          refine s_val (wk1 hE rfl rfl rfl hb23) rfl rfl hE hp (v := (.int .i64 x24)) (ex_add rfl hE rfl rfl (inK_some ex24)) ?_
                                          intro a hE
                                          refine s_val (wk1 hE rfl rfl rfl hb23) rfl rfl hE hp (v := (.bool (decide (x24 < j2)))) (ex_gtr rfl hE rfl rfl) ?_
                                          intro a hE
                                          refine s_val (wk1 hE rfl rfl rfl hb22) rfl rfl hE hp (v := (.bool (decide (x24 < j2)))) (ex_pick1 rfl hE rfl hb23 rfl) ?_
                                          intro a hE
                                          obtain rfl := Option.some.inj hg4
                                          exact s_nil ⟨hE.cut ⟨rfl, rfl, rfl, rfl, rfl, rfl, rfl, rfl, rfl, rfl, rfl, rfl, rfl, rfl, rfl, rfl, rfl, rfl, rfl, rfl, rfl, trivial⟩, hp⟩
                                        ·
                                          replace hg4 := (ie hb23).symm.trans hg4
                                          refine s_skip (wk2 hE rfl rfl rfl hb23) rfl rfl hE ?_
                                          intro a hE
                                          refine s_skip (wk2 hE rfl rfl rfl hb23) rfl rfl hE ?_
                                          intro a hE
                                          refine s_skip (wk2 hE rfl rfl rfl hb23) rfl rfl hE ?_
                                          intro a hE
                                          refine s_skip (wk2 hE rfl rfl rfl hb23) rfl rfl hE ?_
                                          intro a hE
                                          refine s_skip (wk2 hE rfl rfl rfl hb23) rfl rfl hE ?_
                                          intro a hE
                                          refine s_val (wk1 hE rfl rfl rfl hb22) rfl rfl hE hp (v := (.bool false)) (ex_pick0 rfl hE rfl hb23 rfl) ?_
                                          intro a hE
                                          obtain rfl := Option.some.inj hg4
                                          exact s_nil ⟨hE.cut ⟨rfl, rfl, rfl, rfl, rfl, rfl, rfl, rfl, rfl, rfl, rfl, rfl, rfl, rfl, rfl, rfl, rfl, rfl, rfl, rfl, rfl, trivial⟩, hp⟩
                                      · rintro a w ⟨hE, hp⟩
                                        refine s_val (wk1 hE rfl rfl rfl hb21) rfl rfl hE hp (v := (.bool m4)) (ex_pick0 rfl hE rfl hb22 rfl) ?_
                                        intro a hE
                                        obtain rfl := Option.some.inj hg3
                                        exact s_nil ⟨hE.cut ⟨rfl, rfl, rfl, rfl, rfl, rfl, rfl, rfl, rfl, rfl, rfl, rfl, rfl, rfl, rfl, rfl, rfl, rfl, trivial⟩, hp⟩
                                  · rintro a w ⟨hE, hp⟩
                                    refine s_val (wk0 rfl) rfl rfl hE hp (v := (.bool m3)) (ex_pick1 rfl hE rfl hb21 rfl) ?_
                                    intro a hE
                                    obtain rfl := Option.some.inj hg2
                                    exact s_nil ⟨hE.cut ⟨rfl, rfl, rfl, rfl, rfl, rfl, rfl, rfl, rfl, rfl, rfl, rfl, trivial⟩, hp⟩
                                ·
                                  replace hg2 := (ie hb21).symm.trans hg2
                                  refine s_skip (wk2 hE rfl rfl rfl hb21) rfl rfl hE ?_
                                  intro a hE
                                  refine s_skip (wk2 hE rfl rfl rfl hb21) rfl rfl hE ?_
                                  intro a hE
                                  refine s_skip (wk2 hE rfl rfl rfl hb21) rfl rfl hE ?_
                                  intro a hE
                                  refine s_skip (wk2 hE rfl rfl rfl hb21) rfl rfl hE ?_
                                  intro a hE
                                  refine s_skip (wk2 hE rfl rfl rfl hb21) rfl rfl hE ?_
                                  intro a hE
                                  refine s_skip (wk3 hE rfl rfl rfl) rfl rfl hE ?_
                                  intro a hE
                                  refine s_skip (wk3 hE rfl rfl rfl) rfl rfl hE ?_
                                  intro a hE
                                  refine s_skip (wk3 hE rfl rfl rfl) rfl rfl hE ?_
                                  intro a hE
                                  refine s_skip (wk3 hE rfl rfl rfl) rfl rfl hE ?_
                                  intro a hE
                                  refine s_skip (wk3 hE rfl rfl rfl) rfl rfl hE ?_
                                  intro a hE
                                  refine s_skip (wk3 hE rfl rfl rfl) rfl rfl hE ?_
                                  intro a hE
                                  refine s_skip (wk3 hE rfl rfl rfl) rfl rfl hE ?_
                                  intro a hE
                                  refine s_skip (wk3 hE rfl rfl rfl) rfl rfl hE ?_
                                  intro a hE
                                  refine s_skip (wk3 hE rfl rfl rfl) rfl rfl hE ?_
                                  intro a hE
                                  refine s_skip (wk2 hE rfl rfl rfl hb21) rfl rfl hE ?_
                                  intro a hE
                                  refine s_val (wk0 rfl) rfl rfl hE hp (v := (.bool false)) (ex_pick0 rfl hE rfl hb21 rfl) ?_
                                  intro a hE
                                  obtain rfl := Option.some.inj hg2
                                  exact s_nil ⟨hE.cut ⟨rfl, rfl, rfl, rfl, rfl, rfl, rfl, rfl, rfl, rfl, rfl, rfl, trivial⟩, hp⟩
                              · rintro a w ⟨hE, hp⟩
                                refine s_nil ?_
                                obtain ⟨j3, hj3, hl5⟩ := bnd hl5
                                refine k_cut (fun a w => ∃ (w2 : Value), Env 217 [(0, vp0), (1, vp1), (2, (.int .i64 p2)), (8, w2), (11, vr1), (13, w7), (16, (.int .i64 lp4_0)), (17, (.int .i64 j3.1)), (18, (.int .i64 lp5_1)), (19, (.int .i64 lp5_2)), (20, (.int .i64 j2))] a ∧ Hp Z ρ (OwnSl 63 w2 j3.2 :: OwnSl 3 w7 b7 :: OwnSl 3 vr2 x7 :: OwnSl 3 vr1 x6 :: L) w) ?_ ?_
                                ·
                                  refine k_if hE rfl (fun hb24 => ?_) (fun hb24 => ?_)
                                  · replace hj3 := (it hb24).symm.trans hj3
                                    refine k_seq ?_
                                    refine k_region ?_
                                    refine s_val (wk0 rfl) rfl rfl hE hp (v := (.int .i64 lp5_0)) (ex_move rfl hE rfl) ?_
                                    intro a hE
                                    refine s_val (wk0 rfl) rfl rfl hE hp (v := (.int .i64 lp5_0)) (ex_move rfl hE rfl) ?_
                                    intro a hE
                                    refine s_val (wk0 rfl) rfl rfl hE hp (v := w7) (ex_move rfl hE rfl) ?_
                                    intro a hE
                                    refine s_val (wk0 rfl) rfl rfl hE hp (v := (.int .i64 lp4_0)) (ex_move rfl hE rfl) ?_
                                    intro a hE
                                    obtain ⟨x25, ex25, hj3⟩ := bnd hj3
                                    obtain ⟨b21, b21o, b21r, b21v, b21f⟩ := OwnSl.at hp 1 rfl slty23 ex25
                                    have b21f : ∀ (j : Nat) (u : Value), ([(.int .i64 x25)] : List Value)[j]? = some u → ∀ ρ' L' w, Hp Z ρ' (OwnSl 3 w7 b7 :: L') w → w.cell? ⟨b21, b21o + j, none⟩ = some u := b21f
                                    refine s_val (wk0 rfl) rfl rfl hE hp (v := (.pointer (some ⟨b21, b21o, none⟩))) (ex_index rfl hE rfl rfl b21r) ?_
                                    intro a hE
                                    refine s_val (wk0 rfl) rfl rfl hE hp (v := (.int .i64 x25)) (ex_load rfl hE rfl (fun w hw => run_ld1 varty3 (b21f 0 _ rfl _ _ w (hw.get 1 rfl)))) ?_
                                    intro a hE
                                    obtain ⟨x26, ex26, hj3⟩ := bnd hj3
                                    refine s_val (wk0 rfl) rfl rfl hE hp (v := (.int .i64 x26)) (ex_add rfl hE rfl rfl (inK_some ex26)) ?_
                                    intro a hE
                                    refine s_val (wk0 rfl) rfl rfl hE hp (v := (.int .i64 lp5_1)) (ex_move rfl hE rfl) ?_
                                    intro a hE
                                    refine s_val (wk0 rfl) rfl rfl hE hp (v := (.int .i64 lp5_0)) (ex_move rfl hE rfl) ?_
                                    intro a hE
                                    obtain ⟨x27, ex27, hj3⟩ := bnd hj3
                                    refine s_val (wk0 rfl) rfl rfl hE hp (v := (.int .i64 x27)) (ex_sub rfl hE rfl rfl (inK_some ex27)) ?_
                                    intro a hE
                                    refine s_val (wk0 rfl) rfl rfl hE hp (v := (.int .i64 p2)) (ex_move rfl hE rfl) ?_
                                    intro a hE
                                    obtain ⟨x28, ex28, hj3⟩ := bnd hj3
                                    refine s_val (wk0 rfl) rfl rfl hE hp (v := (.int .i64 x28)) (ex_add rfl hE rfl rfl (inK_some ex28)) ?_
                                    intro a hE
                                    refine s_val (wk0 rfl) rfl rfl hE hp (v := (.agg #[(.int .i64 lp5_0), (.int .i64 x26), (.int .i64 x28)])) (ex_bld rfl hE [(0, (.int .i64 lp5_0)), (1, (.int .i64 x26)), (2, (.int .i64 x28))] (by exact ⟨⟨rfl, rfl⟩, ⟨rfl, rfl⟩, ⟨rfl, rfl⟩, trivial⟩) (fun w => by simp [Instr.build, Instr.fill, Value.cells, go_sem])) ?_
                                    intro a hE
                                    refine s_new (wk0 rfl) rfl rfl hE hp rfl [(.int .i64 0), (.int .i64 0), (.int .i64 0)] (fun w => by simp [Instr.alloc, go_sem] <;> rfl) ?_
                                    intro a w b22 hE hp
                                    have hp : Hp Z ρ (Pt b22 (.cells #[(.int .i64 0), (.int .i64 0), (.int .i64 0)] 63 (0, 0)) :: _ :: _ :: _ :: _ :: L) w := hp
                                    refine s_store (wk0 rfl) rfl hE hp rfl rfl rfl 0 rfl varty63.size_ rfl (allOne_mem ⟨rfl, rfl, rfl, trivial⟩) [(.int .i64 lp5_0), (.int .i64 x26), (.int .i64 x28)] rfl ?_
                                    intro w hp
                                    have hp : Hp Z ρ (Pt b22 (.cells #[(.int .i64 lp5_0), (.int .i64 x26), (.int .i64 x28)] 63 (0, 0)) :: _ :: _ :: _ :: _ :: L) w := hp
                                    refine s_nil ?_
                                    have hE := hE.cut (E' := [(0, vp0), (1, vp1), (2, (.int .i64 p2)), (8, w2), (11, vr1), (13, w7), (16, (.int .i64 lp4_0)), (18, (.int .i64 lp5_1)), (19, (.int .i64 lp5_2)), (20, (.int .i64 j2)), (21, (.pointer (some ⟨b22, 0, none⟩)))]) ⟨rfl, rfl, rfl, rfl, rfl, rfl, rfl, rfl, rfl, rfl, rfl, trivial⟩
                                    refine k_seq ?_
                                    refine k_region ?_
                                    refine s_val (wk0 rfl) rfl rfl hE hp (v := w2) (ex_move rfl hE rfl) ?_
                                    intro a hE
                                    refine s_val (wk0 rfl) rfl rfl hE hp (v := (.int .i64 (lp5_3.length : Int))) (ex_len rfl hE rfl (OwnSl.len hp 1 rfl slty56)) ?_
                                    intro a hE
                                    refine s_val (wk0 rfl) rfl rfl hE hp (v := (.int .i64 (lp5_3.length : Int))) (ex_asn rfl hE rfl) ?_
                                    intro a hE
                                    refine s_nil ?_
                                    refine k_seq ?_
                                    obtain ⟨b23, hb25, hj3⟩ := bnd hj3
                                    refine k_block (fun a w => Env 217 [(0, vp0), (1, vp1), (2, (.int .i64 p2)), (8, w2), (11, vr1), (13, w7), (16, (.int .i64 lp4_0)), (18, (.int .i64 lp5_1)), (19, (.int .i64 lp5_2)), (20, (.int .i64 j2)), (21, (.pointer (some ⟨b22, 0, none⟩))), (22, (.int .i64 b23))] a ∧ Hp Z ρ (Pt b22 (.cells #[(.int .i64 lp5_0), (.int .i64 x26), (.int .i64 x28)] 63 (0, 0)) :: OwnSl 63 w2 lp5_3 :: OwnSl 3 w7 b7 :: OwnSl 3 vr2 x7 :: OwnSl 3 vr1 x6 :: L) w) ?_ ?_
                                    · refine k_loop hb25 (fun s a w => Env 217 [(0, vp0), (1, vp1), (2, (.int .i64 p2)), (8, w2), (11, vr1), (13, w7), (16, (.int .i64 lp4_0)), (18, (.int .i64 lp5_1)), (19, (.int .i64 lp5_2)), (20, (.int .i64 j2)), (21, (.pointer (some ⟨b22, 0, none⟩))), (22, (.int .i64 s))] a ∧ Hp Z ρ (Pt b22 (.cells #[(.int .i64 lp5_0), (.int .i64 x26), (.int .i64 x28)] 63 (0, 0)) :: OwnSl 63 w2 lp5_3 :: OwnSl 3 w7 b7 :: OwnSl 3 vr2 x7 :: OwnSl 3 vr1 x6 :: L) w) ?_ ?_
                                      · exact ⟨hE.cut ⟨rfl, rfl, rfl, rfl, rfl, rfl, rfl, rfl, rfl, rfl, rfl, rfl, trivial⟩, hp⟩
                                      · rintro lp6_0 st a w ⟨hE, hp⟩ hl6
                                        have hE : Env 217 [(0, vp0), (1, vp1), (2, (.int .i64 p2)), (8, w2), (11, vr1), (13, w7), (16, (.int .i64 lp4_0)), (18, (.int .i64 lp5_1)), (19, (.int .i64 lp5_2)), (20, (.int .i64 j2)), (21, (.pointer (some ⟨b22, 0, none⟩))), (22, (.int .i64 lp6_0))] a := hE
                                        have hp : Hp Z ρ (_ :: _ :: _ :: _ :: _ :: L) w := hp
                                        replace hl6 : m_assessorref44_Overlaps_lp6 lp5_0 lp5_3 x26 x28 lp6_0 = some st := hl6
                                        unfold m_assessorref44_Overlaps_lp6 at hl6
                                        refine k_seq ?_
                                        refine k_seq ?_
                                        refine k_quiet (by kernel_rfl) (by kernel_rfl) hp ?_
                                        refine q_val (wk0 rfl) rfl rfl hE (v := (.int .i64 lp6_0)) (ex_move rfl hE rfl) ?_
                                        intro a hE
                                        refine q_val (wk0 rfl) rfl rfl hE (v := (.bool (decide (0 < lp6_0)))) (ex_gtr rfl hE rfl rfl) ?_
                                        intro a hE
                                        refine q_val (wk0 rfl) rfl rfl hE (v := (.bool (decide (0 < lp6_0)))) (ex_move rfl hE rfl) ?_
                                        intro a hE
                                        obtain ⟨m5, hg5, hl6⟩ := bnd hl6
                                        refine q_cut [_, _, _, _, _, _, _, _] (fun a => Env 217 [(195, (.bool m5)), (0, vp0), (1, vp1), (2, (.int .i64 p2)), (8, w2), (11, vr1), (13, w7), (16, (.int .i64 lp4_0)), (18, (.int .i64 lp5_1)), (19, (.int .i64 lp5_2)), (20, (.int .i64 j2)), (21, (.pointer (some ⟨b22, 0, none⟩))), (22, (.int .i64 lp6_0))] a) ?_ ?_
                                        · rcases Bool.eq_false_or_eq_true (decide (0 < lp6_0)) with hb26 | hb26
                                          ·
                                            replace hg5 := (it hb26).symm.trans hg5
                                            refine q_val (wk1 hE rfl rfl rfl hb26) rfl rfl hE (v := (.agg #[(.int .i64 lp5_0), (.int .i64 x26), (.int .i64 x28)])) (ex_load rfl hE rfl (fun w hw => run_ldN (cs := [(.int .i64 lp5_0), (.int .i64 x26), (.int .i64 x28)]) varty63 (Hp.cN 0 rfl 0 _ (sub_all rfl) w hw))) ?_
                                            intro a hE
                                            refine q_val (wk1 hE rfl rfl rfl hb26) rfl rfl hE (v := w2) (ex_move rfl hE rfl) ?_
                                            intro a hE
                                            refine q_val (wk1 hE rfl rfl rfl hb26) rfl rfl hE (v := (.int .i64 lp6_0)) (ex_move rfl hE rfl) ?_
                                            intro a hE
                                            obtain ⟨x29, ex29, hg5⟩ := bnd hg5
                                            refine q_val (wk1 hE rfl rfl rfl hb26) rfl rfl hE (v := (.int .i64 x29)) (ex_sub rfl hE rfl rfl (inK_some ex29)) ?_
                                            intro a hE
                                            obtain ⟨x30, ex30, hg5⟩ := bnd hg5
                                            obtain ⟨b24, b24o, b24r, b24v, b24f⟩ := OwnSl.at hp 1 rfl slty56 ex30
                                            have b24f : ∀ (j : Nat) (u : Value), ([(.int .i64 x30.a), (.int .i64 x30.b), (.int .i64 x30.len)] : List Value)[j]? = some u → ∀ ρ' L' w, Hp Z ρ' (OwnSl 63 w2 lp5_3 :: L') w → w.cell? ⟨b24, b24o + j, none⟩ = some u := b24f
                                            refine q_val (wk1 hE rfl rfl rfl hb26) rfl rfl hE (v := (.pointer (some ⟨b24, b24o, none⟩))) (ex_index rfl hE rfl rfl b24r) ?_
                                            intro a hE
                                            refine q_val (wk1 hE rfl rfl rfl hb26) rfl rfl hE (v := (.agg #[(.int .i64 x30.a), (.int .i64 x30.b), (.int .i64 x30.len)])) (ex_load rfl hE rfl (fun w hw => run_ldN (cs := [(.int .i64 x30.a), (.int .i64 x30.b), (.int .i64 x30.len)]) varty63 (fun j u hj => b24f j u hj _ _ w (hw.get 1 rfl)))) ?_
                                            intro a hE
                                            obtain ⟨x31, ex31, hg5⟩ := bnd hg5
                                            refine q_call (wk1 hE rfl rfl rfl hb26) rfl rfl hE rfl [(.agg #[(.int .i64 lp5_0), (.int .i64 x26), (.int .i64 x28)]), (.agg #[(.int .i64 x30.a), (.int .i64 x30.b), (.int .i64 x30.len)])] ⟨rfl, rfl, trivial⟩ ent57 (v := (.bool x31)) (fun w hw => Calls.mono (c_assessorref44_longer (Overlap.mk lp5_0 x26 x28) x30 hw x31 ex31) fun e w' ⟨v, he, hv, hh⟩ => ⟨by rw [he, hv], hh⟩) ?_
                                            intro a hE
                                            refine q_val (wk0 rfl) rfl rfl hE (v := (.bool x31)) (ex_pick1 rfl hE rfl hb26 rfl) ?_
                                            intro a hE
                                            obtain rfl := Option.some.inj hg5
                                            exact q_nil (hE.cut ⟨rfl, rfl, rfl, rfl, rfl, rfl, rfl, rfl, rfl, rfl, rfl, rfl, rfl, trivial⟩)
                                          ·
                                            replace hg5 := (ie hb26).symm.trans hg5
                                            refine q_skip (wk2 hE rfl rfl rfl hb26) rfl rfl hE ?_
                                            intro a hE
                                            refine q_skip (wk2 hE rfl rfl rfl hb26) rfl rfl hE ?_
                                            intro a hE
                                            refine q_skip (wk2 hE rfl rfl rfl hb26) rfl rfl hE ?_
                                            intro a hE
                                            refine q_skip (wk2 hE rfl rfl rfl hb26) rfl rfl hE ?_
                                            intro a hE
                                            refine q_skip (wk2 hE rfl rfl rfl hb26) rfl rfl hE ?_
                                            intro a hE
                                            refine q_skip (wk2 hE rfl rfl rfl hb26) rfl rfl hE ?_
                                            intro a hE
                                            refine q_skip (wk2 hE rfl rfl rfl hb26) rfl rfl hE ?_
                                            intro a hE
                                            refine q_val (wk0 rfl) rfl rfl hE (v := (.bool false)) (ex_pick0 rfl hE rfl hb26 rfl) ?_
                                            intro a hE
                                            obtain rfl := Option.some.inj hg5
                                            exact q_nil (hE.cut ⟨rfl, rfl, rfl, rfl, rfl, rfl, rfl, rfl, rfl, rfl, rfl, rfl, rfl, trivial⟩)
                                        · intro a hE
                                          refine q_nil fun w hp => ?_
                                          have hp : Hp Z ρ (_ :: _ :: _ :: _ :: _ :: L) w := hp
                                          refine k_if hE rfl (fun hb27 => ?_) (fun hb27 => ?_)
                                          · replace hl6 := (it hb27).symm.trans hl6
                                            refine k_skip ?_
                                            refine k_plain ?_
                                            refine k_region ?_
                                            refine s_val (wk0 rfl) rfl rfl hE hp (v := (.int .i64 lp6_0)) (ex_move rfl hE rfl) ?_
                                            intro a hE
                                            obtain ⟨x32, ex32, hl6⟩ := bnd hl6
                                            refine s_val (wk0 rfl) rfl rfl hE hp (v := (.int .i64 x32)) (ex_sub rfl hE rfl rfl (inK_some ex32)) ?_
                                            intro a hE
                                            refine s_val (wk0 rfl) rfl rfl hE hp (v := (.int .i64 x32)) (ex_asn rfl hE rfl) ?_
                                            intro a hE
                                            refine s_nil ?_
                                            exact ⟨_, (Option.some.inj hl6).symm, hE.cut ⟨rfl, rfl, rfl, rfl, rfl, rfl, rfl, rfl, rfl, rfl, rfl, rfl, trivial⟩, hp⟩
                                          · replace hl6 := (ie hb27).symm.trans hl6
                                            refine k_exit ?_
                                            refine ⟨_, (Option.some.inj hl6).symm, fun hbb => ?_⟩
                                            subst hbb
                                            exact ⟨hE.cut ⟨rfl, rfl, rfl, rfl, rfl, rfl, rfl, rfl, rfl, rfl, rfl, rfl, trivial⟩, hp⟩
                                    · rintro a w ⟨hE, hp⟩
                                      refine k_seq ?_
                                      obtain ⟨x33, ex33, hj3⟩ := bnd hj3
                                      obtain ⟨x34, ex34, hj3⟩ := bnd hj3
                                      obtain ⟨x35, ex35, hj3⟩ := bnd hj3
                                      obtain ⟨x36, ex36, hj3⟩ := bnd hj3
                                      obtain ⟨x37, ex37, hj3⟩ := bnd hj3
                                      have hp := hp.drew
                                      refine k_heldV ([([], At0 Z ρ), ([], At1 Z ρ (Pt b22 (.cells #[(.int .i64 lp5_0), (.int .i64 x26), (.int .i64 x28)] 63 (0, 0))))] : Facts) (fun a w => ∃ y52 : Nat, ∃ y51 : Value, Env 217 [(0, vp0), (1, vp1), (2, (.int .i64 p2)), (8, y51), (11, vr1), (13, w7), (16, (.int .i64 lp4_0)), (18, (.int .i64 lp5_1)), (19, (.int .i64 lp5_2)), (20, (.int .i64 j2))] a ∧ Hp Z ρ (OwnSl 63 w2 lp5_3 :: Pt y52 (.cells #[(.int .i64 lp5_0), (.int .i64 x26), (.int .i64 x28)] 63 (0, 0)) :: OwnSl 63 y51 x37 :: Pt b22 (.cells #[(.int .i64 lp5_0), (.int .i64 x26), (.int .i64 x28)] 63 (0, 0)) :: OwnSl 3 w7 b7 :: OwnSl 3 vr2 x7 :: OwnSl 3 vr1 x6 :: L) w) (by kernel_rfl) ⟨fun _ => ⟨_, hp⟩, fun _ => ⟨_, (hp.get 0 rfl)⟩, trivial⟩ (fun hS => ?_) ?_
                                      ·
                                        generalize w.drew = w at hS hp ⊢
                                        refine v_take0 1 (wk0 rfl) rfl rfl rfl hE (by kernel_rfl) (by kernel_rfl) (by kernel_rfl) rfl (by kernel_rfl) hS (v := w2) (fun _ => ex_move rfl hE rfl) ?_
                                        intro a hE hS
                                        refine v_take0 2 (wk0 rfl) rfl rfl rfl hE (by kernel_rfl) (by kernel_rfl) (by kernel_rfl) rfl (by kernel_rfl) hS (v := (.int .i64 b23)) (fun _ => ex_move rfl hE rfl) ?_
                                        intro a hE hS
                                        obtain ⟨v10, v10r⟩ := OwnSl.view hp 1 rfl slty56 none (some (.i64, b23)) rfl rfl ex33
                                        refine v_take0 3 (wk0 rfl) rfl rfl rfl hE (by kernel_rfl) (by kernel_rfl) (by kernel_rfl) rfl (by kernel_rfl) hS (v := v10) (fun _ => ex_sl rfl hE rfl none (some (.i64, b23)) (by exact trivial) (by exact rfl) v10r) ?_
                                        intro a hE hS
                                        refine v_take1 5 1 (wk0 rfl) rfl rfl rfl hE (by kernel_rfl) (by kernel_rfl) (by kernel_rfl) rfl (by kernel_rfl) hS (v := (.agg #[(.int .i64 lp5_0), (.int .i64 x26), (.int .i64 x28)])) (fun _ => ex_load rfl hE rfl (fun w hw => run_ldN (cs := [(.int .i64 lp5_0), (.int .i64 x26), (.int .i64 x28)]) varty63 (Hp.cN 0 rfl 0 _ (sub_all rfl) w hw))) ?_
                                        intro a hE hS
                                        refine v_take0 8 (wk0 rfl) rfl rfl rfl hE (by kernel_rfl) (by kernel_rfl) (by kernel_rfl) rfl (by kernel_rfl) hS (v := w2) (fun _ => ex_move rfl hE rfl) ?_
                                        intro a hE hS
                                        refine v_take0 9 (wk0 rfl) rfl rfl rfl hE (by kernel_rfl) (by kernel_rfl) (by kernel_rfl) rfl (by kernel_rfl) hS (v := (.int .i64 b23)) (fun _ => ex_move rfl hE rfl) ?_
                                        intro a hE hS
                                        obtain ⟨v11, v11r⟩ := OwnSl.view hp 1 rfl slty56 (some (.i64, b23)) none rfl rfl ex36
                                        refine v_take0 10 (wk0 rfl) rfl rfl rfl hE (by kernel_rfl) (by kernel_rfl) (by kernel_rfl) rfl (by kernel_rfl) hS (v := v11) (fun _ => ex_sl rfl hE rfl (some (.i64, b23)) none (by exact rfl) (by exact trivial) v11r) ?_
                                        intro a hE hS
                                        refine v_all [0, 6] (by kernel_rfl) rfl ?_
                                        refine List.forall_mem_cons.2 ⟨?_, List.forall_mem_cons.2 ⟨?_, fun _ h => absurd h (by simp)⟩⟩
                                        ·
                                          refine h_op rfl ?_
                                          refine s_lit (wk0 rfl) rfl rfl hE hp rfl [] trivial [] 63 (fun w => by simp [Instr.buildSlice, Instr.fill, Value.cells, go_sem]) ?_
                                          intro a w b27 hE hp
                                          have hp : Hp Z ρ (Pt b27 (.cells #[] 63 (0, 0)) :: _ :: _ :: _ :: _ :: _ :: L) w := hp
                                          refine s_nil (and_with ⟨fun _ => ⟨_, hp⟩, fun _ => ⟨_, (hp.get 1 rfl)⟩, trivial⟩ fun hS => ?_)
                                          refine v_all [4, 6] (by kernel_rfl) rfl ?_
                                          refine List.forall_mem_cons.2 ⟨?_, List.forall_mem_cons.2 ⟨?_, fun _ h => absurd h (by simp)⟩⟩
                                          ·
                                            refine h_op rfl ?_
                                            have hp := (hp.get 0 rfl).imp (own_of_pt (l := (([] : List Overlap) : List Overlap)) (n := 0) rfl (by decide) rfl)
                                            have hp : Hp Z ρ (OwnSl 63 (.slice (some ⟨b27, 0, none⟩) 0 0) ([] : List Overlap) :: _ :: _ :: _ :: _ :: _ :: L) w := hp
                                            obtain ⟨k3, k3a, k3d, k3h⟩ := (hp.get 2 rfl).lend
                                            obtain ⟨v13, v13r, f3⟩ := RoSl.part (OwnSl.ro k3d k3a) slty56 none (some (.i64, b23)) rfl rfl ex33
                                            have f3 := sl_det w v13r v10r f3
                                            refine s_apps (wk0 rfl) rfl rfl hE k3h rfl slty56 rfl rfl 0 rfl rfl f3 ex34 ?_
                                            intro v12 a w hE hp
                                            have hp := Hp.back k3a k3d hp
                                            have hp : Hp Z ρ (_ :: OwnSl 63 v12 x34 :: _ :: _ :: _ :: _ :: L) w := hp
                                            refine s_nil (and_with ⟨fun _ => ⟨_, hp⟩, fun _ => ⟨_, (hp.get 2 rfl)⟩, trivial⟩ fun hS => ?_)
                                            refine v_all [6] (by kernel_rfl) rfl ?_
                                            refine List.forall_mem_cons.2 ⟨?_, fun _ h => absurd h (by simp)⟩
                                            ·
                                              refine h_op rfl ?_
                                              refine s_lit (wk0 rfl) rfl rfl hE hp rfl [(0, (.agg #[(.int .i64 lp5_0), (.int .i64 x26), (.int .i64 x28)]))] ⟨⟨rfl, rfl⟩, trivial⟩ [(.int .i64 lp5_0), (.int .i64 x26), (.int .i64 x28)] 63 (fun w => by simp [Instr.buildSlice, Instr.fill, Value.cells, go_sem]) ?_
                                              intro a w b28 hE hp
                                              have hp : Hp Z ρ (Pt b28 (.cells #[(.int .i64 lp5_0), (.int .i64 x26), (.int .i64 x28)] 63 (0, 0)) :: _ :: _ :: _ :: _ :: _ :: _ :: L) w := hp
                                              refine s_nil (and_with ⟨fun _ => ⟨_, hp⟩, fun _ => ⟨_, (hp.get 3 rfl)⟩, trivial⟩ fun hS => ?_)
                                              refine v_all [7] (by kernel_rfl) rfl ?_
                                              refine List.forall_mem_cons.2 ⟨?_, fun _ h => absurd h (by simp)⟩
                                              ·
                                                refine h_op rfl ?_
                                                refine s_app (wk0 rfl) rfl rfl hE hp rfl slty56 rfl rfl 2 rfl rfl (l2 := [(Overlap.mk lp5_0 x26 x28)]) rfl (fun j u hj => by have := Hp.cN 0 rfl 0 _ (sub_all rfl) w hp j u hj; simpa using this) ex35 ?_
                                                intro v14 a w hE hp
                                                have hp : Hp Z ρ (_ :: _ :: OwnSl 63 v14 x35 :: _ :: _ :: _ :: _ :: L) w := hp
                                                refine s_nil (and_with ⟨fun _ => ⟨_, hp⟩, fun _ => ⟨_, (hp.get 3 rfl)⟩, trivial⟩ fun hS => ?_)
                                                refine v_all [11] (by kernel_rfl) rfl ?_
                                                refine List.forall_mem_cons.2 ⟨?_, fun _ h => absurd h (by simp)⟩
                                                ·
                                                  refine h_op rfl ?_
                                                  obtain ⟨k4, k4a, k4d, k4h⟩ := (hp.get 1 rfl).lend
                                                  obtain ⟨v16, v16r, f4⟩ := RoSl.part (OwnSl.ro k4d k4a) slty56 (some (.i64, b23)) none rfl rfl ex36
                                                  have f4 := sl_det w v16r v11r f4
                                                  refine s_apps (wk0 rfl) rfl rfl hE k4h rfl slty56 rfl rfl 1 rfl rfl f4 ex37 ?_
                                                  intro v15 a w hE hp
                                                  have hp := Hp.back k4a k4d hp
                                                  have hp : Hp Z ρ (_ :: _ :: OwnSl 63 v15 x37 :: _ :: _ :: _ :: _ :: L) w := hp
                                                  refine s_nil (and_with ⟨fun _ => ⟨_, hp⟩, fun _ => ⟨_, (hp.get 3 rfl)⟩, trivial⟩ fun hS => ?_)
                                                  refine v_take0 12 (wk0 rfl) rfl rfl rfl hE (by kernel_rfl) (by kernel_rfl) (by kernel_rfl) rfl (by kernel_rfl) hS (v := v15) (fun _ => ex_asn rfl hE rfl) ?_
                                                  intro a hE hS
                                                  exact v_done (by kernel_rfl) ⟨_, _, hE.cut ⟨rfl, rfl, rfl, rfl, rfl, rfl, rfl, rfl, rfl, rfl, trivial⟩, hp⟩
                                          ·
                                            refine h_op rfl ?_
                                            refine s_lit (wk0 rfl) rfl rfl hE hp rfl [(0, (.agg #[(.int .i64 lp5_0), (.int .i64 x26), (.int .i64 x28)]))] ⟨⟨rfl, rfl⟩, trivial⟩ [(.int .i64 lp5_0), (.int .i64 x26), (.int .i64 x28)] 63 (fun w => by simp [Instr.buildSlice, Instr.fill, Value.cells, go_sem]) ?_
                                            intro a w b29 hE hp
                                            have hp : Hp Z ρ (Pt b29 (.cells #[(.int .i64 lp5_0), (.int .i64 x26), (.int .i64 x28)] 63 (0, 0)) :: _ :: _ :: _ :: _ :: _ :: _ :: L) w := hp
                                            refine s_nil (and_with ⟨fun _ => ⟨_, hp⟩, fun _ => ⟨_, (hp.get 2 rfl)⟩, trivial⟩ fun hS => ?_)
                                            refine v_all [4] (by kernel_rfl) rfl ?_
                                            refine List.forall_mem_cons.2 ⟨?_, fun _ h => absurd h (by simp)⟩
                                            ·
                                              refine h_op rfl ?_
                                              have hp := (hp.get 1 rfl).imp (own_of_pt (l := (([] : List Overlap) : List Overlap)) (n := 0) rfl (by decide) rfl)
                                              have hp : Hp Z ρ (OwnSl 63 (.slice (some ⟨b27, 0, none⟩) 0 0) ([] : List Overlap) :: _ :: _ :: _ :: _ :: _ :: _ :: L) w := hp
                                              obtain ⟨k5, k5a, k5d, k5h⟩ := (hp.get 3 rfl).lend
                                              obtain ⟨v18, v18r, f5⟩ := RoSl.part (OwnSl.ro k5d k5a) slty56 none (some (.i64, b23)) rfl rfl ex33
                                              have f5 := sl_det w v18r v10r f5
                                              refine s_apps (wk0 rfl) rfl rfl hE k5h rfl slty56 rfl rfl 0 rfl rfl f5 ex34 ?_
                                              intro v17 a w hE hp
                                              have hp := Hp.back k5a k5d hp
                                              have hp : Hp Z ρ (_ :: OwnSl 63 v17 x34 :: _ :: _ :: _ :: _ :: _ :: L) w := hp
                                              refine s_nil (and_with ⟨fun _ => ⟨_, hp⟩, fun _ => ⟨_, (hp.get 3 rfl)⟩, trivial⟩ fun hS => ?_)
                                              refine v_all [7] (by kernel_rfl) rfl ?_
                                              refine List.forall_mem_cons.2 ⟨?_, fun _ h => absurd h (by simp)⟩
                                              ·
                                                refine h_op rfl ?_
                                                refine s_app (wk0 rfl) rfl rfl hE hp rfl slty56 rfl rfl 1 rfl rfl (l2 := [(Overlap.mk lp5_0 x26 x28)]) rfl (fun j u hj => by have := Hp.cN 2 rfl 0 _ (sub_all rfl) w hp j u hj; simpa using this) ex35 ?_
                                                intro v19 a w hE hp
                                                have hp : Hp Z ρ (_ :: OwnSl 63 v19 x35 :: _ :: _ :: _ :: _ :: _ :: L) w := hp
                                                refine s_nil (and_with ⟨fun _ => ⟨_, hp⟩, fun _ => ⟨_, (hp.get 3 rfl)⟩, trivial⟩ fun hS => ?_)
                                                refine v_all [11] (by kernel_rfl) rfl ?_
                                                refine List.forall_mem_cons.2 ⟨?_, fun _ h => absurd h (by simp)⟩
                                                ·
                                                  refine h_op rfl ?_
                                                  obtain ⟨k6, k6a, k6d, k6h⟩ := (hp.get 0 rfl).lend
                                                  obtain ⟨v21, v21r, f6⟩ := RoSl.part (OwnSl.ro k6d k6a) slty56 (some (.i64, b23)) none rfl rfl ex36
                                                  have f6 := sl_det w v21r v11r f6
                                                  refine s_apps (wk0 rfl) rfl rfl hE k6h rfl slty56 rfl rfl 0 rfl rfl f6 ex37 ?_
                                                  intro v20 a w hE hp
                                                  have hp := Hp.back k6a k6d hp
                                                  have hp : Hp Z ρ (_ :: OwnSl 63 v20 x37 :: _ :: _ :: _ :: _ :: _ :: L) w := hp
                                                  refine s_nil (and_with ⟨fun _ => ⟨_, hp⟩, fun _ => ⟨_, (hp.get 3 rfl)⟩, trivial⟩ fun hS => ?_)
                                                  refine v_take0 12 (wk0 rfl) rfl rfl rfl hE (by kernel_rfl) (by kernel_rfl) (by kernel_rfl) rfl (by kernel_rfl) hS (v := v20) (fun _ => ex_asn rfl hE rfl) ?_
                                                  intro a hE hS
                                                  exact v_done (by kernel_rfl) ⟨_, _, hE.cut ⟨rfl, rfl, rfl, rfl, rfl, rfl, rfl, rfl, rfl, rfl, trivial⟩, (((((((hp.get 6 rfl).get 6 rfl).get 6 rfl).get 6 rfl).get 5 rfl).get 6 rfl).get 6 rfl)⟩
                                        ·
                                          refine h_op rfl ?_
                                          refine s_lit (wk0 rfl) rfl rfl hE hp rfl [(0, (.agg #[(.int .i64 lp5_0), (.int .i64 x26), (.int .i64 x28)]))] ⟨⟨rfl, rfl⟩, trivial⟩ [(.int .i64 lp5_0), (.int .i64 x26), (.int .i64 x28)] 63 (fun w => by simp [Instr.buildSlice, Instr.fill, Value.cells, go_sem]) ?_
                                          intro a w b30 hE hp
                                          have hp : Hp Z ρ (Pt b30 (.cells #[(.int .i64 lp5_0), (.int .i64 x26), (.int .i64 x28)] 63 (0, 0)) :: _ :: _ :: _ :: _ :: _ :: L) w := hp
                                          refine s_nil (and_with ⟨fun _ => ⟨_, hp⟩, fun _ => ⟨_, (hp.get 1 rfl)⟩, trivial⟩ fun hS => ?_)
                                          refine v_all [0] (by kernel_rfl) rfl ?_
                                          refine List.forall_mem_cons.2 ⟨?_, fun _ h => absurd h (by simp)⟩
                                          ·
                                            refine h_op rfl ?_
                                            refine s_lit (wk0 rfl) rfl rfl hE hp rfl [] trivial [] 63 (fun w => by simp [Instr.buildSlice, Instr.fill, Value.cells, go_sem]) ?_
                                            intro a w b31 hE hp
                                            have hp : Hp Z ρ (Pt b31 (.cells #[] 63 (0, 0)) :: _ :: _ :: _ :: _ :: _ :: _ :: L) w := hp
                                            refine s_nil (and_with ⟨fun _ => ⟨_, hp⟩, fun _ => ⟨_, (hp.get 2 rfl)⟩, trivial⟩ fun hS => ?_)
                                            refine v_all [4] (by kernel_rfl) rfl ?_
                                            refine List.forall_mem_cons.2 ⟨?_, fun _ h => absurd h (by simp)⟩
                                            ·
                                              refine h_op rfl ?_
                                              have hp := (hp.get 0 rfl).imp (own_of_pt (l := (([] : List Overlap) : List Overlap)) (n := 0) rfl (by decide) rfl)
                                              have hp : Hp Z ρ (OwnSl 63 (.slice (some ⟨b31, 0, none⟩) 0 0) ([] : List Overlap) :: _ :: _ :: _ :: _ :: _ :: _ :: L) w := hp
                                              obtain ⟨k7, k7a, k7d, k7h⟩ := (hp.get 3 rfl).lend
                                              obtain ⟨v23, v23r, f7⟩ := RoSl.part (OwnSl.ro k7d k7a) slty56 none (some (.i64, b23)) rfl rfl ex33
                                              have f7 := sl_det w v23r v10r f7
                                              refine s_apps (wk0 rfl) rfl rfl hE k7h rfl slty56 rfl rfl 0 rfl rfl f7 ex34 ?_
                                              intro v22 a w hE hp
                                              have hp := Hp.back k7a k7d hp
                                              have hp : Hp Z ρ (_ :: OwnSl 63 v22 x34 :: _ :: _ :: _ :: _ :: _ :: L) w := hp
                                              refine s_nil (and_with ⟨fun _ => ⟨_, hp⟩, fun _ => ⟨_, (hp.get 3 rfl)⟩, trivial⟩ fun hS => ?_)
                                              refine v_all [7] (by kernel_rfl) rfl ?_
                                              refine List.forall_mem_cons.2 ⟨?_, fun _ h => absurd h (by simp)⟩
                                              ·
                                                refine h_op rfl ?_
                                                refine s_app (wk0 rfl) rfl rfl hE hp rfl slty56 rfl rfl 1 rfl rfl (l2 := [(Overlap.mk lp5_0 x26 x28)]) rfl (fun j u hj => by have := Hp.cN 2 rfl 0 _ (sub_all rfl) w hp j u hj; simpa using this) ex35 ?_
                                                intro v24 a w hE hp
                                                have hp : Hp Z ρ (_ :: OwnSl 63 v24 x35 :: _ :: _ :: _ :: _ :: _ :: L) w := hp
                                                refine s_nil (and_with ⟨fun _ => ⟨_, hp⟩, fun _ => ⟨_, (hp.get 3 rfl)⟩, trivial⟩ fun hS => ?_)
                                                refine v_all [11] (by kernel_rfl) rfl ?_
                                                refine List.forall_mem_cons.2 ⟨?_, fun _ h => absurd h (by simp)⟩
                                                ·
                                                  refine h_op rfl ?_
                                                  obtain ⟨k8, k8a, k8d, k8h⟩ := (hp.get 0 rfl).lend
                                                  obtain ⟨v26, v26r, f8⟩ := RoSl.part (OwnSl.ro k8d k8a) slty56 (some (.i64, b23)) none rfl rfl ex36
                                                  have f8 := sl_det w v26r v11r f8
                                                  refine s_apps (wk0 rfl) rfl rfl hE k8h rfl slty56 rfl rfl 0 rfl rfl f8 ex37 ?_
                                                  intro v25 a w hE hp
                                                  have hp := Hp.back k8a k8d hp
                                                  have hp : Hp Z ρ (_ :: OwnSl 63 v25 x37 :: _ :: _ :: _ :: _ :: _ :: L) w := hp
                                                  refine s_nil (and_with ⟨fun _ => ⟨_, hp⟩, fun _ => ⟨_, (hp.get 3 rfl)⟩, trivial⟩ fun hS => ?_)
                                                  refine v_take0 12 (wk0 rfl) rfl rfl rfl hE (by kernel_rfl) (by kernel_rfl) (by kernel_rfl) rfl (by kernel_rfl) hS (v := v25) (fun _ => ex_asn rfl hE rfl) ?_
                                                  intro a hE hS
                                                  exact v_done (by kernel_rfl) ⟨_, _, hE.cut ⟨rfl, rfl, rfl, rfl, rfl, rfl, rfl, rfl, rfl, rfl, trivial⟩, (((((((hp.get 6 rfl).get 6 rfl).get 6 rfl).get 6 rfl).get 5 rfl).get 6 rfl).get 6 rfl)⟩
                                      · rintro a w ⟨y52, y51, hE, hp⟩
                                        refine k_region ?_
                                        refine s_val (wk0 rfl) rfl rfl hE hp (v := (.int .i64 (-1))) (ex_asn rfl hE rfl) ?_
                                        intro a hE
                                        refine s_nil ?_
                                        have hp := (hp.get 0 rfl).drop
                                        have hp : Hp Z ρ (Pt y52 (.cells #[(.int .i64 lp5_0), (.int .i64 x26), (.int .i64 x28)] 63 (0, 0)) :: OwnSl 63 y51 x37 :: _ :: _ :: _ :: _ :: L) w := hp
                                        obtain rfl := Option.some.inj hj3
                                        exact ⟨_, hE.cut ⟨rfl, rfl, rfl, rfl, rfl, rfl, rfl, rfl, rfl, rfl, rfl, trivial⟩, (((hp.get 2 rfl).drop).drop)⟩
                                  · replace hj3 := (ie hb24).symm.trans hj3
                                    refine k_skip ?_
                                    obtain rfl := Option.some.inj hj3
                                    exact ⟨_, hE.cut ⟨rfl, rfl, rfl, rfl, rfl, rfl, rfl, rfl, rfl, rfl, rfl, trivial⟩, hp⟩
                                · rintro a w ⟨w2, hE, hp⟩
                                  refine k_seq ?_
                                  refine k_region ?_
                                  refine s_val (wk0 rfl) rfl rfl hE hp (v := (.int .i64 j2)) (ex_move rfl hE rfl) ?_
                                  intro a hE
                                  refine s_val (wk0 rfl) rfl rfl hE hp (v := (.bool (decide (0 ≤ j2)))) (ex_geq rfl hE rfl rfl) ?_
                                  intro a hE
                                  refine s_nil ?_
                                  refine k_if hE rfl (fun hb28 => ?_) (fun hb28 => ?_)
                                  · replace hl5 := (it hb28).symm.trans hl5
                                    refine k_seq ?_
                                    refine k_seq ?_
                                    refine k_region ?_
                                    refine s_val (wk0 rfl) rfl rfl hE hp (v := (.int .i64 j3.1)) (ex_move rfl hE rfl) ?_
                                    intro a hE
                                    refine s_val (wk0 rfl) rfl rfl hE hp (v := (.bool (decide (j3.1 < 0)))) (ex_lss rfl hE rfl rfl) ?_
                                    intro a hE
                                    refine s_nil ?_
                                    obtain ⟨j4, hj4, hl5⟩ := bnd hl5
                                    refine k_cut (fun a w => Env 217 [(0, vp0), (1, vp1), (2, (.int .i64 p2)), (8, w2), (11, vr1), (13, w7), (16, (.int .i64 lp4_0)), (17, (.int .i64 j4)), (19, (.int .i64 lp5_2)), (20, (.int .i64 j2))] a ∧ Hp Z ρ (OwnSl 63 w2 j3.2 :: OwnSl 3 w7 b7 :: OwnSl 3 vr2 x7 :: OwnSl 3 vr1 x6 :: L) w) ?_ ?_
                                    ·
                                      refine k_if hE rfl (fun hb29 => ?_) (fun hb29 => ?_)
                                      · replace hj4 := (it hb29).symm.trans hj4
                                        refine k_region ?_
                                        refine s_val (wk0 rfl) rfl rfl hE hp (v := (.int .i64 j2)) (ex_move rfl hE rfl) ?_
                                        intro a hE
                                        refine s_val (wk0 rfl) rfl rfl hE hp (v := (.int .i64 j2)) (ex_asn rfl hE rfl) ?_
                                        intro a hE
                                        refine s_nil ?_
                                        obtain rfl := Option.some.inj hj4
                                        exact ⟨hE.cut ⟨rfl, rfl, rfl, rfl, rfl, rfl, rfl, rfl, rfl, rfl, trivial⟩, hp⟩
                                      · replace hj4 := (ie hb29).symm.trans hj4
                                        refine k_skip ?_
                                        obtain rfl := Option.some.inj hj4
                                        exact ⟨hE.cut ⟨rfl, rfl, rfl, rfl, rfl, rfl, rfl, rfl, rfl, rfl, trivial⟩, hp⟩
                                    · rintro a w ⟨hE, hp⟩
                                      refine k_region ?_
                                      refine s_val (wk0 rfl) rfl rfl hE hp (v := (.int .i64 j2)) (ex_move rfl hE rfl) ?_
                                      intro a hE
                                      refine s_val (wk0 rfl) rfl rfl hE hp (v := (.int .i64 j2)) (ex_asn rfl hE rfl) ?_
                                      intro a hE
                                      refine s_nil ?_
                                      refine k_region ?_
                                      refine s_val (wk0 rfl) rfl rfl hE hp (v := (.int .i64 lp5_2)) (ex_move rfl hE rfl) ?_
                                      intro a hE
                                      obtain ⟨x38, ex38, hl5⟩ := bnd hl5
                                      refine s_val (wk0 rfl) rfl rfl hE hp (v := (.int .i64 x38)) (ex_add rfl hE rfl rfl (inK_some ex38)) ?_
                                      intro a hE
                                      refine s_val (wk0 rfl) rfl rfl hE hp (v := (.int .i64 x38)) (ex_asn rfl hE rfl) ?_
                                      intro a hE
                                      refine s_nil ?_
                                      exact ⟨_, (Option.some.inj hl5).symm, _, hE.cut ⟨rfl, rfl, rfl, rfl, rfl, rfl, rfl, rfl, rfl, rfl, trivial⟩, hp⟩
                                  · replace hl5 := (ie hb28).symm.trans hl5
                                    refine k_skip ?_
                                    refine k_region ?_
                                    refine s_val (wk0 rfl) rfl rfl hE hp (v := (.int .i64 lp5_2)) (ex_move rfl hE rfl) ?_
                                    intro a hE
                                    obtain ⟨x39, ex39, hl5⟩ := bnd hl5
                                    refine s_val (wk0 rfl) rfl rfl hE hp (v := (.int .i64 x39)) (ex_add rfl hE rfl rfl (inK_some ex39)) ?_
                                    intro a hE
                                    refine s_val (wk0 rfl) rfl rfl hE hp (v := (.int .i64 x39)) (ex_asn rfl hE rfl) ?_
                                    intro a hE
                                    refine s_nil ?_
                                    have hE := hE.cut (E' := [(0, vp0), (1, vp1), (2, (.int .i64 p2)), (8, w2), (11, vr1), (13, w7), (16, (.int .i64 lp4_0)), (17, (.int .i64 j3.1)), (18, (.int .i64 lp5_1)), (19, (.int .i64 x39))]) ⟨rfl, rfl, rfl, rfl, rfl, rfl, rfl, rfl, rfl, rfl, trivial⟩
                                    exact ⟨_, (Option.some.inj hl5).symm, _, hE.cut ⟨rfl, rfl, rfl, rfl, rfl, rfl, rfl, rfl, rfl, rfl, trivial⟩, hp⟩
                        · replace hl5 := (ie hb18).symm.trans hl5
                          refine k_exit ?_
                          refine ⟨_, (Option.some.inj hl5).symm, fun hbb => ?_⟩
                          subst hbb
                          exact ⟨_, hE.cut ⟨rfl, rfl, rfl, rfl, rfl, rfl, rfl, trivial⟩, hp⟩
                    · rintro a w ⟨w2, hE, hp⟩
                      refine k_region ?_
                      refine s_val (wk0 rfl) rfl rfl hE hp (v := (.int .i64 lp4_0)) (ex_move rfl hE rfl) ?_
                      intro a hE
                      obtain ⟨x40, ex40, hl4⟩ := bnd hl4
                      refine s_val (wk0 rfl) rfl rfl hE hp (v := (.int .i64 x40)) (ex_add rfl hE rfl rfl (inK_some ex40)) ?_
                      intro a hE
                      refine s_val (wk0 rfl) rfl rfl hE hp (v := (.int .i64 x40)) (ex_asn rfl hE rfl) ?_
                      intro a hE
                      refine s_nil ?_
                      exact ⟨_, (Option.some.inj hl4).symm, _, hE.cut ⟨rfl, rfl, rfl, rfl, rfl, rfl, rfl, trivial⟩, hp⟩
                  · replace hl4 := (ie hb16).symm.trans hl4
                    refine k_exit ?_
                    refine ⟨_, (Option.some.inj hl4).symm, fun hbb => ?_⟩
                    subst hbb
                    exact ⟨_, hE.cut ⟨rfl, trivial⟩, hp⟩
              · rintro a w ⟨w2, hE, hp⟩
                refine k_seq ?_
                refine k_region ?_
                refine s_val (wk0 rfl) rfl rfl hE hp (v := w2) (ex_move rfl hE rfl) ?_
                intro a hE
                refine s_val (wk0 rfl) rfl rfl hE hp (v := w2) (ex_asn rfl hE rfl) ?_
                intro a hE
                refine s_val (wk0 rfl) rfl rfl hE hp (v := (.int .i64 0)) (ex_asn rfl hE rfl) ?_
                intro a hE
                refine s_nil ?_
                refine k_ret ?_
                obtain rfl := Option.some.inj hm
                exact ret2 hE rfl rfl rfl ⟨_, rfl, _, rfl, ((((((hp.get 3 rfl).drop).get 2 rfl).drop).get 1 rfl).drop)⟩
end Go.Proofs.Ytmfepkadggigpaa

/- The code goes as its model: assessor/assessorref26.Variable, assessor/assessorref26.Normal, assessor/assessorref26.IsClause, assessor/assessorref26.Valid, asses -/
import Derived.Test.YtelioaepnpnojaaGreatDoorKTr3
import Derived.Test.YtelioaepnpnojaaGreatDoorKTr4
set_option linter.unusedVariables false
set_option linter.unusedSimpArgs false
namespace Go.Proofs.YtelioaepnpnojaaGreatDoor
open Go.RowKit
set_option maxRecDepth 100000 in
set_option maxHeartbeats 4000000 in
theorem c_assessorref26_Variable {Z : World} {ρ : PH} {L : List Atom} {w : World} (hT : Tabs ρ) (p0 : Int) (hp : Hp Z ρ (L) w) (r : Int) (hm : m_assessorref26_Variable p0 = some r) :
    Calls Tryz.prog 31 #[(.int .i64 p0)] w (Ret fun v w' => v = (.int .i64 r) ∧ Hp Z ρ (L) w') := by
  refine enter (N := 8) Tryz.func31 rfl rfl [(0, (.int .i64 p0))] rfl (argsIn_mem ⟨rfl, trivial⟩) fun a hE => ?_
  unfold m_assessorref26_Variable at hm
  refine k_seq ?_
  refine k_region ?_
  refine s_val (wk0 rfl) rfl rfl hE hp (v := (.int .i64 0)) (ex_asn rfl hE rfl) ?_
  intro a hE
  refine s_nil ?_
  refine k_seq ?_
  refine k_seq ?_
  refine k_region ?_
  refine s_val (wk0 rfl) rfl rfl hE hp (v := (.int .i64 p0)) (ex_move rfl hE rfl) ?_
  intro a hE
  refine s_val (wk0 rfl) rfl rfl hE hp (v := (.bool (decide (p0 < 0)))) (ex_lss rfl hE rfl rfl) ?_
  intro a hE
  refine s_nil ?_
  refine k_if hE rfl (fun hc1 => ?_) (fun hc1 => ?_)
  · replace hm := (it hc1).symm.trans hm
    refine k_seq ?_
    refine k_region ?_
    refine s_val (wk0 rfl) rfl rfl hE hp (v := (.int .i64 p0)) (ex_move rfl hE rfl) ?_
    intro a hE
    obtain ⟨x1, ex1, hm⟩ := bnd hm
    refine s_val (wk0 rfl) rfl rfl hE hp (v := (.int .i64 x1)) (ex_neg rfl hE rfl (inK_some ex1)) ?_
    intro a hE
    refine s_val (wk0 rfl) rfl rfl hE hp (v := (.int .i64 x1)) (ex_asn rfl hE rfl) ?_
    intro a hE
    refine s_nil ?_
    refine k_ret ?_
    obtain rfl := Option.some.inj hm
    exact ret1 hE rfl rfl ⟨_, rfl, rfl, hp⟩
  · replace hm := (ie hc1).symm.trans hm
    refine k_skip ?_
    refine k_seq ?_
    refine k_region ?_
    refine s_val (wk0 rfl) rfl rfl hE hp (v := (.int .i64 p0)) (ex_move rfl hE rfl) ?_
    intro a hE
    refine s_val (wk0 rfl) rfl rfl hE hp (v := (.int .i64 p0)) (ex_asn rfl hE rfl) ?_
    intro a hE
    refine s_nil ?_
    refine k_ret ?_
    obtain rfl := Option.some.inj hm
    exact ret1 hE rfl rfl ⟨_, rfl, rfl, hp⟩
set_option maxRecDepth 100000 in
set_option maxHeartbeats 4000000 in
theorem c_assessorref26_Normal {Z : World} {ρ : PH} {L : List Atom} {w : World} (hT : Tabs ρ) (p0 : (List Int)) (vp0 : Value) (hp0 : RoSl ρ vp0 p0) (hp : Hp Z ρ (L) w) (r : ((List Int) × Bool)) (hm : m_assessorref26_Normal p0 = some r) :
    Calls Tryz.prog 13 #[vp0] w (Ret fun v w' => ∃ (vr1 : Value), v = .tuple #[vr1, (.bool r.2)] ∧ Hp Z ρ (OwnSl 3 vr1 r.1 :: L) w') := by
  refine enter (N := 102) Tryz.func13 rfl rfl [(0, vp0)] rfl (argsIn_mem ⟨rfl, trivial⟩) fun a hE => ?_
  unfold m_assessorref26_Normal at hm
  refine k_seq ?_
  refine k_region ?_
  refine s_val (wk0 rfl) rfl rfl hE hp (v := (.slice none 0 0)) (ex_asn rfl hE rfl) ?_
  intro a hE
  refine s_val (wk0 rfl) rfl rfl hE hp (v := (.bool false)) (ex_asn rfl hE rfl) ?_
  intro a hE
  refine s_nil ?_
  refine k_seq ?_
  refine k_region ?_
  refine s_lit (wk0 rfl) rfl rfl hE hp rfl [] trivial [] 3 (fun w => by simp [Instr.buildSlice, Instr.fill, Value.cells, go_sem]) ?_
  intro a w b1 hE hp
  have hp : Hp Z ρ (Pt b1 (.cells #[] 3 (0, 0)) :: L) w := hp
  refine s_val (wk0 rfl) rfl rfl hE hp (v := (.slice (some ⟨b1, 0, none⟩) 0 0)) (ex_asn rfl hE rfl) ?_
  intro a hE
  refine s_nil ?_
  refine k_seq ?_
  refine k_seq ?_
  refine k_region ?_
  refine s_val (wk0 rfl) rfl rfl hE hp (v := (.int .i64 0)) (ex_asn rfl hE rfl) ?_
  intro a hE
  refine s_nil ?_
  have hp := (hp.get 0 rfl).imp (own_of_pt (l := (([] : List Int) : List Int)) (n := 0) rfl (by decide) rfl)
  have hp : Hp Z ρ (OwnSl 3 (.slice (some ⟨b1, 0, none⟩) 0 0) ([] : List Int) :: L) w := hp
  obtain ⟨b2, hc1, hm⟩ := bnd hm
  refine k_block (fun a w => ∃ s : (List Int), b2 = .brk s ∧ (∃ (w2 : Value), Env 102 [(4, w2)] a ∧ Hp Z ρ (OwnSl 3 w2 s :: L) w)) ?_ ?_
  · refine k_loop hc1 (fun s a w => ∃ (w2 : Value), Env 102 [(0, vp0), (4, w2), (5, (.int .i64 s.1))] a ∧ Hp Z ρ (OwnSl 3 w2 s.2 :: L) w) ?_ ?_
    · exact ⟨_, hE.cut ⟨rfl, rfl, rfl, trivial⟩, hp⟩
    · rintro ⟨lp1_0, lp1_1⟩ st a w ⟨w2, hE, hp⟩ hl1
      have hE : Env 102 [(0, vp0), (4, w2), (5, (.int .i64 lp1_0))] a := hE
      have hp : Hp Z ρ (OwnSl 3 w2 lp1_1 :: L) w := hp
      replace hl1 : m_assessorref26_Normal_lp1 p0 lp1_0 lp1_1 = some st := hl1
      unfold m_assessorref26_Normal_lp1 at hl1
      refine k_seq ?_
      refine k_seq ?_
      refine k_region ?_
      refine s_val (wk0 rfl) rfl rfl hE hp (v := (.int .i64 lp1_0)) (ex_move rfl hE rfl) ?_
      intro a hE
      refine s_val (wk0 rfl) rfl rfl hE hp (v := vp0) (ex_move rfl hE rfl) ?_
      intro a hE
      refine s_val (wk0 rfl) rfl rfl hE hp (v := (.int .i64 (p0.length : Int))) (ex_len rfl hE rfl (RoSl.len hp0 slty25)) ?_
      intro a hE
      refine s_val (wk0 rfl) rfl rfl hE hp (v := (.bool (decide (lp1_0 < (p0.length : Int))))) (ex_lss rfl hE rfl rfl) ?_
      intro a hE
      refine s_nil ?_
      refine k_if hE rfl (fun hc2 => ?_) (fun hc2 => ?_)
      · replace hl1 := (it hc2).symm.trans hl1
        refine k_skip ?_
        refine k_seq ?_
        obtain ⟨j1, hj1, hl1⟩ := bnd hl1
        refine k_block (fun a w => ∃ s : (List Int), j1 = .brk s ∧ (∃ (w2 : Value), Env 102 [(0, vp0), (4, w2), (5, (.int .i64 lp1_0))] a ∧ Hp Z ρ (OwnSl 3 w2 s :: L) w)) ?_ ?_
        ·
          refine k_seq ?_
          refine k_seq ?_
          refine k_region ?_
          refine s_val (wk0 rfl) rfl rfl hE hp (v := vp0) (ex_move rfl hE rfl) ?_
          intro a hE
          refine s_val (wk0 rfl) rfl rfl hE hp (v := (.int .i64 lp1_0)) (ex_move rfl hE rfl) ?_
          intro a hE
          obtain ⟨x1, ex1, hj1⟩ := bnd hj1
          obtain ⟨b3, b3o, b3c, b3r, b3k, b3f⟩ := RoSl.at hp0 slty25 ex1
          obtain rfl : b3c = Enc.enc x1 := b3k
          have b3f : AtP ρ b3 b3o [(.int .i64 x1)] := b3f
          refine s_val (wk0 rfl) rfl rfl hE hp (v := (.pointer (some ⟨b3, b3o, none⟩))) (ex_index rfl hE rfl rfl b3r) ?_
          intro a hE
          refine s_val (wk0 rfl) rfl rfl hE hp (v := (.int .i64 x1)) (ex_load rfl hE rfl (fun w hw => run_ld1 varty3 (b3f.c 0 rfl w hw))) ?_
          intro a hE
          refine s_val (wk0 rfl) rfl rfl hE hp (v := (.bool (decide (x1 = 0)))) (ex_eql rfl hE rfl rfl) ?_
          intro a hE
          refine s_val (wk0 rfl) rfl rfl hE hp (v := (.bool (decide (x1 = 0)))) (ex_move rfl hE rfl) ?_
          intro a hE
          obtain ⟨m1, hg1, hj1⟩ := bnd hj1
          refine s_cut [_, _, _, _, _, _] (fun a w => Env 102 [(26, (.bool m1)), (0, vp0), (4, w2), (5, (.int .i64 lp1_0))] a ∧ Hp Z ρ (OwnSl 3 w2 lp1_1 :: L) w) ?_ ?_
          · rcases Bool.eq_false_or_eq_true (decide (x1 = 0)) with hc3 | hc3
            ·
              replace hg1 := (it hc3).symm.trans hg1
              refine s_skip (wk2 hE rfl rfl rfl hc3) rfl rfl hE ?_
              intro a hE
              refine s_skip (wk2 hE rfl rfl rfl hc3) rfl rfl hE ?_
              intro a hE
              refine s_skip (wk2 hE rfl rfl rfl hc3) rfl rfl hE ?_
              intro a hE
              refine s_skip (wk2 hE rfl rfl rfl hc3) rfl rfl hE ?_
              intro a hE
              refine s_skip (wk2 hE rfl rfl rfl hc3) rfl rfl hE ?_
              intro a hE
              refine s_val (wk0 rfl) rfl rfl hE hp (v := (.bool true)) (ex_pick1 rfl hE rfl hc3 rfl) ?_
              intro a hE
              obtain rfl := Option.some.inj hg1
              exact s_nil ⟨hE.cut ⟨rfl, rfl, rfl, rfl, trivial⟩, hp⟩
            ·
              replace hg1 := (ie hc3).symm.trans hg1
              refine s_val (wk1 hE rfl rfl rfl hc3) rfl rfl hE hp (v := vp0) (ex_move rfl hE rfl) ?_
              intro a hE
              refine s_val (wk1 hE rfl rfl rfl hc3) rfl rfl hE hp (v := (.int .i64 lp1_0)) (ex_move rfl hE rfl) ?_
              intro a hE
              obtain ⟨x2, ex2, hg1⟩ := bnd hg1
              obtain ⟨b4, b4o, b4c, b4r, b4k, b4f⟩ := RoSl.at hp0 slty25 ex2
              obtain rfl : b4c = Enc.enc x2 := b4k
              have b4f : AtP ρ b4 b4o [(.int .i64 x2)] := b4f
              refine s_val (wk1 hE rfl rfl rfl hc3) rfl rfl hE hp (v := (.pointer (some ⟨b4, b4o, none⟩))) (ex_index rfl hE rfl rfl b4r) ?_
              intro a hE
              refine s_val (wk1 hE rfl rfl rfl hc3) rfl rfl hE hp (v := (.int .i64 x2)) (ex_load rfl hE rfl (fun w hw => run_ld1 varty3 (b4f.c 0 rfl w hw))) ?_
              intro a hE
              refine s_val (wk1 hE rfl rfl rfl hc3) rfl rfl hE hp (v := (.bool (decide (x2 < (-1073741824))))) (ex_lss rfl hE rfl rfl) ?_
              intro a hE
              refine s_val (wk0 rfl) rfl rfl hE hp (v := (.bool (decide (x2 < (-1073741824))))) (ex_pick0 rfl hE rfl hc3 rfl) ?_
              intro a hE
              obtain rfl := Option.some.inj hg1
              exact s_nil ⟨hE.cut ⟨rfl, rfl, rfl, rfl, trivial⟩, hp⟩
          · rintro a w ⟨hE, hp⟩
            refine s_val (wk0 rfl) rfl rfl hE hp (v := (.bool m1)) (ex_move rfl hE rfl) ?_
            intro a hE
            obtain ⟨m2, hg2, hj1⟩ := bnd hj1
            refine s_cut [_, _, _, _, _, _] (fun a w => Env 102 [(33, (.bool m2)), (0, vp0), (4, w2), (5, (.int .i64 lp1_0))] a ∧ Hp Z ρ (OwnSl 3 w2 lp1_1 :: L) w) ?_ ?_
            · rcases Bool.eq_false_or_eq_true m1 with hc4 | hc4
              ·
                replace hg2 := (it hc4).symm.trans hg2
                refine s_skip (wk2 hE rfl rfl rfl hc4) rfl rfl hE ?_
                intro a hE
                refine s_skip (wk2 hE rfl rfl rfl hc4) rfl rfl hE ?_
                intro a hE
                refine s_skip (wk2 hE rfl rfl rfl hc4) rfl rfl hE ?_
                intro a hE
                refine s_skip (wk2 hE rfl rfl rfl hc4) rfl rfl hE ?_
                intro a hE
                refine s_skip (wk2 hE rfl rfl rfl hc4) rfl rfl hE ?_
                intro a hE
                refine s_val (wk0 rfl) rfl rfl hE hp (v := (.bool true)) (ex_pick1 rfl hE rfl hc4 rfl) ?_
                intro a hE
                obtain rfl := Option.some.inj hg2
                exact s_nil ⟨hE.cut ⟨rfl, rfl, rfl, rfl, trivial⟩, hp⟩
              ·
                replace hg2 := (ie hc4).symm.trans hg2
                refine s_val (wk1 hE rfl rfl rfl hc4) rfl rfl hE hp (v := vp0) (ex_move rfl hE rfl) ?_
                intro a hE
                refine s_val (wk1 hE rfl rfl rfl hc4) rfl rfl hE hp (v := (.int .i64 lp1_0)) (ex_move rfl hE rfl) ?_
                intro a hE
                obtain ⟨x3, ex3, hg2⟩ := bnd hg2
                obtain ⟨b5, b5o, b5c, b5r, b5k, b5f⟩ := RoSl.at hp0 slty25 ex3
                obtain rfl : b5c = Enc.enc x3 := b5k
                have b5f : AtP ρ b5 b5o [(.int .i64 x3)] := b5f
                refine s_val (wk1 hE rfl rfl rfl hc4) rfl rfl hE hp (v := (.pointer (some ⟨b5, b5o, none⟩))) (ex_index rfl hE rfl rfl b5r) ?_
                intro a hE
                refine s_val (wk1 hE rfl rfl rfl hc4) rfl rfl hE hp (v := (.int .i64 x3)) (ex_load rfl hE rfl (fun w hw => run_ld1 varty3 (b5f.c 0 rfl w hw))) ?_
                intro a hE
                refine s_val (wk1 hE rfl rfl rfl hc4) rfl rfl hE hp (v := (.bool (decide (1073741824 < x3)))) (ex_gtr rfl hE rfl rfl) ?_
                intro a hE
                refine s_val (wk0 rfl) rfl rfl hE hp (v := (.bool (decide (1073741824 < x3)))) (ex_pick0 rfl hE rfl hc4 rfl) ?_
                intro a hE
                obtain rfl := Option.some.inj hg2
                exact s_nil ⟨hE.cut ⟨rfl, rfl, rfl, rfl, trivial⟩, hp⟩
            · rintro a w ⟨hE, hp⟩
              refine s_nil ?_
              refine k_if hE rfl (fun hc5 => ?_) (fun hc5 => ?_)
              · replace hj1 := (it hc5).symm.trans hj1
                refine k_seq ?_
                refine k_region ?_
                refine s_val (wk0 rfl) rfl rfl hE hp (v := (.slice none 0 0)) (ex_asn rfl hE rfl) ?_
                intro a hE
                refine s_val (wk0 rfl) rfl rfl hE hp (v := (.bool false)) (ex_asn rfl hE rfl) ?_
                intro a hE
                refine s_nil ?_
                refine k_ret ?_
                obtain rfl := Option.some.inj hj1
                refine ⟨_, (Option.some.inj hl1).symm, fun hb => ?_⟩
                subst hb
                have hp := hp.emp (OwnSl.nil (α := Int) 3)
                have hp : Hp Z ρ (OwnSl 3 (.slice none 0 0) ([] : List Int) :: _ :: L) w := hp
                obtain rfl := Option.some.inj hm
                exact ret2 hE rfl rfl rfl ⟨_, rfl, _, rfl, ((hp.get 1 rfl).drop)⟩
              · replace hj1 := (ie hc5).symm.trans hj1
                refine k_skip ?_
                refine k_seq ?_
                refine k_region ?_
                refine s_val (wk0 rfl) rfl rfl hE hp (v := (.int .i64 0)) (ex_asn rfl hE rfl) ?_
                intro a hE
                refine s_nil ?_
                refine k_seq ?_
                obtain ⟨b6, hc6, hj1⟩ := bnd hj1
                refine k_block (fun a w => Env 102 [(0, vp0), (4, w2), (5, (.int .i64 lp1_0)), (6, (.int .i64 b6))] a ∧ Hp Z ρ (OwnSl 3 w2 lp1_1 :: L) w) ?_ ?_
                · refine k_loop hc6 (fun s a w => Env 102 [(0, vp0), (4, w2), (5, (.int .i64 lp1_0)), (6, (.int .i64 s))] a ∧ Hp Z ρ (OwnSl 3 w2 lp1_1 :: L) w) ?_ ?_
                  · exact ⟨hE.cut ⟨rfl, rfl, rfl, rfl, trivial⟩, hp⟩
                  · rintro lp2_0 st a w ⟨hE, hp⟩ hl2
                    have hE : Env 102 [(0, vp0), (4, w2), (5, (.int .i64 lp1_0)), (6, (.int .i64 lp2_0))] a := hE
                    have hp : Hp Z ρ (_ :: L) w := hp
                    replace hl2 : m_assessorref26_Normal_lp2 p0 lp1_0 lp1_1 lp2_0 = some st := hl2
                    unfold m_assessorref26_Normal_lp2 at hl2
                    refine k_seq ?_
                    refine k_seq ?_
                    refine k_quiet (by kernel_rfl) (by kernel_rfl) hp ?_
                    refine q_val (wk0 rfl) rfl rfl hE (v := (.int .i64 lp2_0)) (ex_move rfl hE rfl) ?_
                    intro a hE
                    refine q_val (wk0 rfl) rfl rfl hE (v := w2) (ex_move rfl hE rfl) ?_
                    intro a hE
                    refine q_val (wk0 rfl) rfl rfl hE (v := (.int .i64 (lp1_1.length : Int))) (ex_len rfl hE rfl (OwnSl.len hp 0 rfl slty25)) ?_
                    intro a hE
                    refine q_val (wk0 rfl) rfl rfl hE (v := (.bool (decide (lp2_0 < (lp1_1.length : Int))))) (ex_lss rfl hE rfl rfl) ?_
                    intro a hE
                    refine q_val (wk0 rfl) rfl rfl hE (v := (.bool (decide (lp2_0 < (lp1_1.length : Int))))) (ex_move rfl hE rfl) ?_
                    intro a hE
                    obtain ⟨m3, hg3, hl2⟩ := bnd hl2
                    refine q_cut [_, _, _, _, _, _, _, _, _, _, _, _] (fun a => Env 102 [(50, (.bool m3)), (0, vp0), (4, w2), (5, (.int .i64 lp1_0)), (6, (.int .i64 lp2_0))] a) ?_ ?_
                    · rcases Bool.eq_false_or_eq_true (decide (lp2_0 < (lp1_1.length : Int))) with hc7 | hc7
                      ·
                        replace hg3 := (it hc7).symm.trans hg3
                        refine q_val (wk1 hE rfl rfl rfl hc7) rfl rfl hE (v := w2) (ex_move rfl hE rfl) ?_
                        intro a hE
                        refine q_val (wk1 hE rfl rfl rfl hc7) rfl rfl hE (v := (.int .i64 lp2_0)) (ex_move rfl hE rfl) ?_
                        intro a hE
                        obtain ⟨x4, ex4, hg3⟩ := bnd hg3
                        obtain ⟨b7, b7o, b7r, b7v, b7f⟩ := OwnSl.at hp 0 rfl slty25 ex4
                        have b7f : ∀ (j : Nat) (u : Value), ([(.int .i64 x4)] : List Value)[j]? = some u → ∀ ρ' L' w, Hp Z ρ' (OwnSl 3 w2 lp1_1 :: L') w → w.cell? ⟨b7, b7o + j, none⟩ = some u := b7f
                        refine q_val (wk1 hE rfl rfl rfl hc7) rfl rfl hE (v := (.pointer (some ⟨b7, b7o, none⟩))) (ex_index rfl hE rfl rfl b7r) ?_
                        intro a hE
                        refine q_val (wk1 hE rfl rfl rfl hc7) rfl rfl hE (v := (.int .i64 x4)) (ex_load rfl hE rfl (fun w hw => run_ld1 varty3 (b7f 0 _ rfl _ _ w (hw.get 0 rfl)))) ?_
                        intro a hE
                        obtain ⟨x5, ex5, hg3⟩ := bnd hg3
                        refine q_call (wk1 hE rfl rfl rfl hc7) rfl rfl hE rfl [(.int .i64 x4)] ⟨rfl, trivial⟩ ent31 (v := (.int .i64 x5)) (fun w hw => Calls.mono (c_assessorref26_Variable hT x4 hw x5 ex5) fun e w' ⟨v, he, hv, hh⟩ => ⟨by rw [he, hv], hh⟩) ?_
                        intro a hE
                        refine q_val (wk1 hE rfl rfl rfl hc7) rfl rfl hE (v := vp0) (ex_move rfl hE rfl) ?_
                        intro a hE
                        refine q_val (wk1 hE rfl rfl rfl hc7) rfl rfl hE (v := (.int .i64 lp1_0)) (ex_move rfl hE rfl) ?_
                        intro a hE
                        obtain ⟨x6, ex6, hg3⟩ := bnd hg3
                        obtain ⟨b8, b8o, b8c, b8r, b8k, b8f⟩ := RoSl.at hp0 slty25 ex6
                        obtain rfl : b8c = Enc.enc x6 := b8k
                        have b8f : AtP ρ b8 b8o [(.int .i64 x6)] := b8f
                        refine q_val (wk1 hE rfl rfl rfl hc7) rfl rfl hE (v := (.pointer (some ⟨b8, b8o, none⟩))) (ex_index rfl hE rfl rfl b8r) ?_
                        intro a hE
                        refine q_val (wk1 hE rfl rfl rfl hc7) rfl rfl hE (v := (.int .i64 x6)) (ex_load rfl hE rfl (fun w hw => run_ld1 varty3 (b8f.c 0 rfl w hw))) ?_
                        intro a hE
                        obtain ⟨x7, ex7, hg3⟩ := bnd hg3
                        refine q_call (wk1 hE rfl rfl rfl hc7) rfl rfl hE rfl [(.int .i64 x6)] ⟨rfl, trivial⟩ ent31 (v := (.int .i64 x7)) (fun w hw => Calls.mono (c_assessorref26_Variable hT x6 hw x7 ex7) fun e w' ⟨v, he, hv, hh⟩ => ⟨by rw [he, hv], hh⟩) ?_
                        intro a hE
                        refine q_val (wk1 hE rfl rfl rfl hc7) rfl rfl hE (v := (.bool (decide (x5 < x7)))) (ex_lss rfl hE rfl rfl) ?_
                        intro a hE
                        refine q_val (wk0 rfl) rfl rfl hE (v := (.bool (decide (x5 < x7)))) (ex_pick1 rfl hE rfl hc7 rfl) ?_
                        intro a hE
                        obtain rfl := Option.some.inj hg3
                        exact q_nil (hE.cut ⟨rfl, rfl, rfl, rfl, rfl, trivial⟩)
                      ·
                        replace hg3 := (ie hc7).symm.trans hg3
                        refine q_skip (wk2 hE rfl rfl rfl hc7) rfl rfl hE ?_
                        intro a hE
                        refine q_skip (wk2 hE rfl rfl rfl hc7) rfl rfl hE ?_
                        intro a hE
                        refine q_skip (wk2 hE rfl rfl rfl hc7) rfl rfl hE ?_
                        intro a hE
                        refine q_skip (wk2 hE rfl rfl rfl hc7) rfl rfl hE ?_
                        intro a hE
                        refine q_skip (wk2 hE rfl rfl rfl hc7) rfl rfl hE ?_
                        intro a hE
                        refine q_skip (wk2 hE rfl rfl rfl hc7) rfl rfl hE ?_
                        intro a hE
                        refine q_skip (wk2 hE rfl rfl rfl hc7) rfl rfl hE ?_
                        intro a hE
                        refine q_skip (wk2 hE rfl rfl rfl hc7) rfl rfl hE ?_
                        intro a hE
                        refine q_skip (wk2 hE rfl rfl rfl hc7) rfl rfl hE ?_
                        intro a hE
                        refine q_skip (wk2 hE rfl rfl rfl hc7) rfl rfl hE ?_
                        intro a hE
                        refine q_skip (wk2 hE rfl rfl rfl hc7) rfl rfl hE ?_
                        intro a hE
                        refine q_val (wk0 rfl) rfl rfl hE (v := (.bool false)) (ex_pick0 rfl hE rfl hc7 rfl) ?_
                        intro a hE
                        obtain rfl := Option.some.inj hg3
                        exact q_nil (hE.cut ⟨rfl, rfl, rfl, rfl, rfl, trivial⟩)
                    · intro a hE
                      refine q_nil fun w hp => ?_
                      have hp : Hp Z ρ (_ :: L) w := hp
                      refine k_if hE rfl (fun hc8 => ?_) (fun hc8 => ?_)
                      · replace hl2 := (it hc8).symm.trans hl2
                        refine k_skip ?_
                        refine k_plain ?_
                        refine k_region ?_
                        refine s_val (wk0 rfl) rfl rfl hE hp (v := (.int .i64 lp2_0)) (ex_move rfl hE rfl) ?_
                        intro a hE
                        obtain ⟨x8, ex8, hl2⟩ := bnd hl2
                        refine s_val (wk0 rfl) rfl rfl hE hp (v := (.int .i64 x8)) (ex_add rfl hE rfl rfl (inK_some ex8)) ?_
                        intro a hE
                        refine s_val (wk0 rfl) rfl rfl hE hp (v := (.int .i64 x8)) (ex_asn rfl hE rfl) ?_
                        intro a hE
                        refine s_nil ?_
                        exact ⟨_, (Option.some.inj hl2).symm, hE.cut ⟨rfl, rfl, rfl, rfl, trivial⟩, hp⟩
                      · replace hl2 := (ie hc8).symm.trans hl2
                        refine k_exit ?_
                        refine ⟨_, (Option.some.inj hl2).symm, fun hbb => ?_⟩
                        subst hbb
                        exact ⟨hE.cut ⟨rfl, rfl, rfl, rfl, trivial⟩, hp⟩
                · rintro a w ⟨hE, hp⟩
                  refine k_seq ?_
                  refine k_seq ?_
                  refine k_quiet (by kernel_rfl) (by kernel_rfl) hp ?_
                  refine q_val (wk0 rfl) rfl rfl hE (v := (.int .i64 b6)) (ex_move rfl hE rfl) ?_
                  intro a hE
                  refine q_val (wk0 rfl) rfl rfl hE (v := w2) (ex_move rfl hE rfl) ?_
                  intro a hE
                  refine q_val (wk0 rfl) rfl rfl hE (v := (.int .i64 (lp1_1.length : Int))) (ex_len rfl hE rfl (OwnSl.len hp 0 rfl slty25)) ?_
                  intro a hE
                  refine q_val (wk0 rfl) rfl rfl hE (v := (.bool (decide (b6 < (lp1_1.length : Int))))) (ex_lss rfl hE rfl rfl) ?_
                  intro a hE
                  refine q_val (wk0 rfl) rfl rfl hE (v := (.bool (decide (b6 < (lp1_1.length : Int))))) (ex_move rfl hE rfl) ?_
                  intro a hE
                  obtain ⟨m4, hg4, hj1⟩ := bnd hj1
                  refine q_cut [_, _, _, _, _, _, _, _, _, _, _] (fun a => Env 102 [(68, (.bool m4)), (0, vp0), (4, w2), (5, (.int .i64 lp1_0)), (6, (.int .i64 b6))] a) ?_ ?_
                  · rcases Bool.eq_false_or_eq_true (decide (b6 < (lp1_1.length : Int))) with hc9 | hc9
                    ·
                      replace hg4 := (it hc9).symm.trans hg4
                      refine q_val (wk1 hE rfl rfl rfl hc9) rfl rfl hE (v := w2) (ex_move rfl hE rfl) ?_
                      intro a hE
                      refine q_val (wk1 hE rfl rfl rfl hc9) rfl rfl hE (v := (.int .i64 b6)) (ex_move rfl hE rfl) ?_
                      intro a hE
                      obtain ⟨x9, ex9, hg4⟩ := bnd hg4
                      obtain ⟨b9, b9o, b9r, b9v, b9f⟩ := OwnSl.at hp 0 rfl slty25 ex9
                      have b9f : ∀ (j : Nat) (u : Value), ([(.int .i64 x9)] : List Value)[j]? = some u → ∀ ρ' L' w, Hp Z ρ' (OwnSl 3 w2 lp1_1 :: L') w → w.cell? ⟨b9, b9o + j, none⟩ = some u := b9f
                      refine q_val (wk1 hE rfl rfl rfl hc9) rfl rfl hE (v := (.pointer (some ⟨b9, b9o, none⟩))) (ex_index rfl hE rfl rfl b9r) ?_
                      intro a hE
                      refine q_val (wk1 hE rfl rfl rfl hc9) rfl rfl hE (v := (.int .i64 x9)) (ex_load rfl hE rfl (fun w hw => run_ld1 varty3 (b9f 0 _ rfl _ _ w (hw.get 0 rfl)))) ?_
                      intro a hE
                      refine q_val (wk1 hE rfl rfl rfl hc9) rfl rfl hE (v := vp0) (ex_move rfl hE rfl) ?_
                      intro a hE
                      refine q_val (wk1 hE rfl rfl rfl hc9) rfl rfl hE (v := (.int .i64 lp1_0)) (ex_move rfl hE rfl) ?_
                      intro a hE
                      obtain ⟨x10, ex10, hg4⟩ := bnd hg4
                      obtain ⟨b10, b10o, b10c, b10r, b10k, b10f⟩ := RoSl.at hp0 slty25 ex10
                      obtain rfl : b10c = Enc.enc x10 := b10k
                      have b10f : AtP ρ b10 b10o [(.int .i64 x10)] := b10f
                      refine q_val (wk1 hE rfl rfl rfl hc9) rfl rfl hE (v := (.pointer (some ⟨b10, b10o, none⟩))) (ex_index rfl hE rfl rfl b10r) ?_
                      intro a hE
                      refine q_val (wk1 hE rfl rfl rfl hc9) rfl rfl hE (v := (.int .i64 x10)) (ex_load rfl hE rfl (fun w hw => run_ld1 varty3 (b10f.c 0 rfl w hw))) ?_
                      intro a hE
                      obtain ⟨x11, ex11, hg4⟩ := bnd hg4
                      refine q_val (wk1 hE rfl rfl rfl hc9) rfl rfl hE (v := (.int .i64 x11)) (ex_neg rfl hE rfl (inK_some ex11)) ?_
                      intro a hE
                      refine q_val (wk1 hE rfl rfl rfl hc9) rfl rfl hE (v := (.bool (decide (x9 = x11)))) (ex_eql rfl hE rfl rfl) ?_
                      intro a hE
                      refine q_val (wk0 rfl) rfl rfl hE (v := (.bool (decide (x9 = x11)))) (ex_pick1 rfl hE rfl hc9 rfl) ?_
                      intro a hE
                      obtain rfl := Option.some.inj hg4
                      exact q_nil (hE.cut ⟨rfl, rfl, rfl, rfl, rfl, trivial⟩)
                    ·
                      replace hg4 := (ie hc9).symm.trans hg4
                      refine q_skip (wk2 hE rfl rfl rfl hc9) rfl rfl hE ?_
                      intro a hE
                      refine q_skip (wk2 hE rfl rfl rfl hc9) rfl rfl hE ?_
                      intro a hE
                      refine q_skip (wk2 hE rfl rfl rfl hc9) rfl rfl hE ?_
                      intro a hE
                      refine q_skip (wk2 hE rfl rfl rfl hc9) rfl rfl hE ?_
                      intro a hE
                      refine q_skip (wk2 hE rfl rfl rfl hc9) rfl rfl hE ?_
                      intro a hE
                      refine q_skip (wk2 hE rfl rfl rfl hc9) rfl rfl hE ?_
                      intro a hE
                      refine q_skip (wk2 hE rfl rfl rfl hc9) rfl rfl hE ?_
                      intro a hE
                      refine q_skip (wk2 hE rfl rfl rfl hc9) rfl rfl hE ?_
                      intro a hE
                      refine q_skip (wk2 hE rfl rfl rfl hc9) rfl rfl hE ?_
                      intro a hE
                      refine q_skip (wk2 hE rfl rfl rfl hc9) rfl rfl hE ?_
                      intro a hE
                      refine q_val (wk0 rfl) rfl rfl hE (v := (.bool false)) (ex_pick0 rfl hE rfl hc9 rfl) ?_
                      intro a hE
                      obtain rfl := Option.some.inj hg4
                      exact q_nil (hE.cut ⟨rfl, rfl, rfl, rfl, rfl, trivial⟩)
                  · intro a hE
                    refine q_nil fun w hp => ?_
                    have hp : Hp Z ρ (_ :: L) w := hp
                    refine k_if hE rfl (fun hc10 => ?_) (fun hc10 => ?_)
                    · replace hj1 := (it hc10).symm.trans hj1
                      refine k_seq ?_
                      refine k_region ?_
                      refine s_val (wk0 rfl) rfl rfl hE hp (v := (.slice none 0 0)) (ex_asn rfl hE rfl) ?_
                      intro a hE
                      refine s_val (wk0 rfl) rfl rfl hE hp (v := (.bool false)) (ex_asn rfl hE rfl) ?_
                      intro a hE
                      refine s_nil ?_
                      refine k_ret ?_
                      obtain rfl := Option.some.inj hj1
                      refine ⟨_, (Option.some.inj hl1).symm, fun hb => ?_⟩
                      subst hb
                      have hp := hp.emp (OwnSl.nil (α := Int) 3)
                      have hp : Hp Z ρ (OwnSl 3 (.slice none 0 0) ([] : List Int) :: _ :: L) w := hp
                      obtain rfl := Option.some.inj hm
                      exact ret2 hE rfl rfl rfl ⟨_, rfl, _, rfl, ((hp.get 1 rfl).drop)⟩
                    · replace hj1 := (ie hc10).symm.trans hj1
                      refine k_skip ?_
                      refine k_seq ?_
                      refine k_seq ?_
                      refine k_quiet (by kernel_rfl) (by kernel_rfl) hp ?_
                      refine q_val (wk0 rfl) rfl rfl hE (v := (.int .i64 b6)) (ex_move rfl hE rfl) ?_
                      intro a hE
                      refine q_val (wk0 rfl) rfl rfl hE (v := w2) (ex_move rfl hE rfl) ?_
                      intro a hE
                      refine q_val (wk0 rfl) rfl rfl hE (v := (.int .i64 (lp1_1.length : Int))) (ex_len rfl hE rfl (OwnSl.len hp 0 rfl slty25)) ?_
                      intro a hE
                      refine q_val (wk0 rfl) rfl rfl hE (v := (.bool (decide (b6 < (lp1_1.length : Int))))) (ex_lss rfl hE rfl rfl) ?_
                      intro a hE
                      refine q_val (wk0 rfl) rfl rfl hE (v := (.bool (decide (b6 < (lp1_1.length : Int))))) (ex_move rfl hE rfl) ?_
                      intro a hE
                      obtain ⟨m5, hg5, hj1⟩ := bnd hj1
                      refine q_cut [_, _, _, _, _, _, _, _, _, _] (fun a => Env 102 [(83, (.bool m5)), (0, vp0), (4, w2), (5, (.int .i64 lp1_0)), (6, (.int .i64 b6))] a) ?_ ?_
                      · rcases Bool.eq_false_or_eq_true (decide (b6 < (lp1_1.length : Int))) with hc11 | hc11
                        ·
                          replace hg5 := (it hc11).symm.trans hg5
                          refine q_val (wk1 hE rfl rfl rfl hc11) rfl rfl hE (v := w2) (ex_move rfl hE rfl) ?_
                          intro a hE
                          refine q_val (wk1 hE rfl rfl rfl hc11) rfl rfl hE (v := (.int .i64 b6)) (ex_move rfl hE rfl) ?_
                          intro a hE
                          obtain ⟨x12, ex12, hg5⟩ := bnd hg5
                          obtain ⟨b11, b11o, b11r, b11v, b11f⟩ := OwnSl.at hp 0 rfl slty25 ex12
                          have b11f : ∀ (j : Nat) (u : Value), ([(.int .i64 x12)] : List Value)[j]? = some u → ∀ ρ' L' w, Hp Z ρ' (OwnSl 3 w2 lp1_1 :: L') w → w.cell? ⟨b11, b11o + j, none⟩ = some u := b11f
                          refine q_val (wk1 hE rfl rfl rfl hc11) rfl rfl hE (v := (.pointer (some ⟨b11, b11o, none⟩))) (ex_index rfl hE rfl rfl b11r) ?_
                          intro a hE
                          refine q_val (wk1 hE rfl rfl rfl hc11) rfl rfl hE (v := (.int .i64 x12)) (ex_load rfl hE rfl (fun w hw => run_ld1 varty3 (b11f 0 _ rfl _ _ w (hw.get 0 rfl)))) ?_
                          intro a hE
                          refine q_val (wk1 hE rfl rfl rfl hc11) rfl rfl hE (v := vp0) (ex_move rfl hE rfl) ?_
                          intro a hE
                          refine q_val (wk1 hE rfl rfl rfl hc11) rfl rfl hE (v := (.int .i64 lp1_0)) (ex_move rfl hE rfl) ?_
                          intro a hE
                          obtain ⟨x13, ex13, hg5⟩ := bnd hg5
                          obtain ⟨b12, b12o, b12c, b12r, b12k, b12f⟩ := RoSl.at hp0 slty25 ex13
                          obtain rfl : b12c = Enc.enc x13 := b12k
                          have b12f : AtP ρ b12 b12o [(.int .i64 x13)] := b12f
                          refine q_val (wk1 hE rfl rfl rfl hc11) rfl rfl hE (v := (.pointer (some ⟨b12, b12o, none⟩))) (ex_index rfl hE rfl rfl b12r) ?_
                          intro a hE
                          refine q_val (wk1 hE rfl rfl rfl hc11) rfl rfl hE (v := (.int .i64 x13)) (ex_load rfl hE rfl (fun w hw => run_ld1 varty3 (b12f.c 0 rfl w hw))) ?_
                          intro a hE
                          refine q_val (wk1 hE rfl rfl rfl hc11) rfl rfl hE (v := (.bool (decide (x12 = x13)))) (ex_eql rfl hE rfl rfl) ?_
                          intro a hE
                          refine q_val (wk0 rfl) rfl rfl hE (v := (.bool (decide (x12 = x13)))) (ex_pick1 rfl hE rfl hc11 rfl) ?_
                          intro a hE
                          obtain rfl := Option.some.inj hg5
                          exact q_nil (hE.cut ⟨rfl, rfl, rfl, rfl, rfl, trivial⟩)
                        ·
                          replace hg5 := (ie hc11).symm.trans hg5
                          refine q_skip (wk2 hE rfl rfl rfl hc11) rfl rfl hE ?_
                          intro a hE
                          refine q_skip (wk2 hE rfl rfl rfl hc11) rfl rfl hE ?_
                          intro a hE
                          refine q_skip (wk2 hE rfl rfl rfl hc11) rfl rfl hE ?_
                          intro a hE
                          refine q_skip (wk2 hE rfl rfl rfl hc11) rfl rfl hE ?_
                          intro a hE
                          refine q_skip (wk2 hE rfl rfl rfl hc11) rfl rfl hE ?_
                          intro a hE
                          refine q_skip (wk2 hE rfl rfl rfl hc11) rfl rfl hE ?_
                          intro a hE
                          refine q_skip (wk2 hE rfl rfl rfl hc11) rfl rfl hE ?_
                          intro a hE
                          refine q_skip (wk2 hE rfl rfl rfl hc11) rfl rfl hE ?_
                          intro a hE
                          refine q_skip (wk2 hE rfl rfl rfl hc11) rfl rfl hE ?_
                          intro a hE
                          refine q_val (wk0 rfl) rfl rfl hE (v := (.bool false)) (ex_pick0 rfl hE rfl hc11 rfl) ?_
                          intro a hE
                          obtain rfl := Option.some.inj hg5
                          exact q_nil (hE.cut ⟨rfl, rfl, rfl, rfl, rfl, trivial⟩)
                      · intro a hE
                        refine q_nil fun w hp => ?_
                        have hp : Hp Z ρ (_ :: L) w := hp
                        refine k_if hE rfl (fun hc12 => ?_) (fun hc12 => ?_)
                        · replace hj1 := (it hc12).symm.trans hj1
                          refine k_exit ?_
                          obtain rfl := Option.some.inj hj1
                          exact ⟨_, rfl, _, hE.cut ⟨rfl, rfl, rfl, trivial⟩, hp⟩
                        · replace hj1 := (ie hc12).symm.trans hj1
                          refine k_skip ?_
                          refine k_seq ?_
                          refine k_region ?_
                          refine s_lit (wk0 rfl) rfl rfl hE hp rfl [] trivial [] 3 (fun w => by simp [Instr.buildSlice, Instr.fill, Value.cells, go_sem]) ?_
                          intro a w b13 hE hp
                          have hp : Hp Z ρ (Pt b13 (.cells #[] 3 (0, 0)) :: _ :: L) w := hp
                          refine s_val (wk0 rfl) rfl rfl hE hp (v := w2) (ex_move rfl hE rfl) ?_
                          intro a hE
                          refine s_val (wk0 rfl) rfl rfl hE hp (v := (.int .i64 b6)) (ex_move rfl hE rfl) ?_
                          intro a hE
                          obtain ⟨x14, ex14, hj1⟩ := bnd hj1
                          obtain ⟨v1, v1r⟩ := OwnSl.view hp 1 rfl slty25 none (some (.i64, b6)) rfl rfl ex14
                          refine s_val (wk0 rfl) rfl rfl hE hp (v := v1) (ex_sl rfl hE rfl none (some (.i64, b6)) (by exact trivial) (by exact rfl) v1r) ?_
                          intro a hE
                          have hp := (hp.get 0 rfl).imp (own_of_pt (l := (([] : List Int) : List Int)) (n := 0) rfl (by decide) rfl)
                          have hp : Hp Z ρ (OwnSl 3 (.slice (some ⟨b13, 0, none⟩) 0 0) ([] : List Int) :: _ :: L) w := hp
                          obtain ⟨x15, ex15, hj1⟩ := bnd hj1
                          obtain ⟨k1, k1a, k1d, k1h⟩ := (hp.get 1 rfl).lend
                          obtain ⟨v3, v3r, f1⟩ := RoSl.part (OwnSl.ro k1d k1a) slty25 none (some (.i64, b6)) rfl rfl ex14
                          have f1 := sl_det w v3r v1r f1
                          refine s_apps (wk0 rfl) rfl rfl hE k1h rfl slty25 rfl rfl 0 rfl rfl f1 ex15 ?_
                          intro v2 a w hE hp
                          have hp := Hp.back k1a k1d hp
                          have hp : Hp Z ρ (_ :: OwnSl 3 v2 x15 :: L) w := hp
                          refine s_val (wk0 rfl) rfl rfl hE hp (v := v2) (ex_asn rfl hE rfl) ?_
                          intro a hE
                          refine s_nil ?_
                          refine k_seq ?_
                          refine k_region ?_
                          refine s_val (wk0 rfl) rfl rfl hE hp (v := v2) (ex_move rfl hE rfl) ?_
                          intro a hE
                          refine s_val (wk0 rfl) rfl rfl hE hp (v := vp0) (ex_move rfl hE rfl) ?_
                          intro a hE
                          refine s_val (wk0 rfl) rfl rfl hE hp (v := (.int .i64 lp1_0)) (ex_move rfl hE rfl) ?_
                          intro a hE
                          obtain ⟨x16, ex16, hj1⟩ := bnd hj1
                          obtain ⟨b14, b14o, b14c, b14r, b14k, b14f⟩ := RoSl.at hp0 slty25 ex16
                          obtain rfl : b14c = Enc.enc x16 := b14k
                          have b14f : AtP ρ b14 b14o [(.int .i64 x16)] := b14f
                          refine s_val (wk0 rfl) rfl rfl hE hp (v := (.pointer (some ⟨b14, b14o, none⟩))) (ex_index rfl hE rfl rfl b14r) ?_
                          intro a hE
                          refine s_val (wk0 rfl) rfl rfl hE hp (v := (.int .i64 x16)) (ex_load rfl hE rfl (fun w hw => run_ld1 varty3 (b14f.c 0 rfl w hw))) ?_
                          intro a hE
                          refine s_lit (wk0 rfl) rfl rfl hE hp rfl [(0, (.int .i64 x16))] ⟨⟨rfl, rfl⟩, trivial⟩ [(.int .i64 x16)] 3 (fun w => by simp [Instr.buildSlice, Instr.fill, Value.cells, go_sem]) ?_
                          intro a w b15 hE hp
                          have hp : Hp Z ρ (Pt b15 (.cells #[(.int .i64 x16)] 3 (0, 0)) :: _ :: _ :: L) w := hp
                          obtain ⟨x17, ex17, hj1⟩ := bnd hj1
                          refine s_app (wk0 rfl) rfl rfl hE hp rfl slty25 rfl rfl 2 rfl rfl (l2 := [x16]) rfl (fun j u hj => by have := Hp.cN 0 rfl 0 _ (sub_all rfl) w hp j u hj; simpa using this) ex17 ?_
                          intro v4 a w hE hp
                          have hp : Hp Z ρ (_ :: _ :: OwnSl 3 v4 x17 :: L) w := hp
                          refine s_val (wk0 rfl) rfl rfl hE hp (v := v4) (ex_asn rfl hE rfl) ?_
                          intro a hE
                          refine s_nil ?_
                          refine k_region ?_
                          refine s_val (wk0 rfl) rfl rfl hE hp (v := v4) (ex_move rfl hE rfl) ?_
                          intro a hE
                          refine s_val (wk0 rfl) rfl rfl hE hp (v := w2) (ex_move rfl hE rfl) ?_
                          intro a hE
                          refine s_val (wk0 rfl) rfl rfl hE hp (v := (.int .i64 b6)) (ex_move rfl hE rfl) ?_
                          intro a hE
                          obtain ⟨x18, ex18, hj1⟩ := bnd hj1
                          obtain ⟨v5, v5r⟩ := OwnSl.view hp 1 rfl slty25 (some (.i64, b6)) none rfl rfl ex18
                          refine s_val (wk0 rfl) rfl rfl hE hp (v := v5) (ex_sl rfl hE rfl (some (.i64, b6)) none (by exact rfl) (by exact trivial) v5r) ?_
                          intro a hE
                          obtain ⟨x19, ex19, hj1⟩ := bnd hj1
                          obtain ⟨k2, k2a, k2d, k2h⟩ := (hp.get 1 rfl).lend
                          obtain ⟨v7, v7r, f2⟩ := RoSl.part (OwnSl.ro k2d k2a) slty25 (some (.i64, b6)) none rfl rfl ex18
                          have f2 := sl_det w v7r v5r f2
                          refine s_apps (wk0 rfl) rfl rfl hE k2h rfl slty25 rfl rfl 1 rfl rfl f2 ex19 ?_
                          intro v6 a w hE hp
                          have hp := Hp.back k2a k2d hp
                          have hp : Hp Z ρ (_ :: _ :: OwnSl 3 v6 x19 :: L) w := hp
                          refine s_val (wk0 rfl) rfl rfl hE hp (v := v6) (ex_asn rfl hE rfl) ?_
                          intro a hE
                          refine s_nil ?_
                          have hE := hE.cut (E' := [(0, vp0), (4, v6), (5, (.int .i64 lp1_0))]) ⟨rfl, rfl, rfl, trivial⟩
                          have hp := (hp.get 0 rfl).drop
                          have hp : Hp Z ρ (_ :: OwnSl 3 v6 x19 :: L) w := hp
                          obtain rfl := Option.some.inj hj1
                          exact ⟨_, rfl, _, hE.cut ⟨rfl, rfl, rfl, trivial⟩, (hp.drop)⟩
        · rintro a w ⟨j1s, rfl, w2, hE, hp⟩
          dsimp only at hl1
          refine k_region ?_
          refine s_val (wk0 rfl) rfl rfl hE hp (v := (.int .i64 lp1_0)) (ex_move rfl hE rfl) ?_
          intro a hE
          obtain ⟨x20, ex20, hl1⟩ := bnd hl1
          refine s_val (wk0 rfl) rfl rfl hE hp (v := (.int .i64 x20)) (ex_add rfl hE rfl rfl (inK_some ex20)) ?_
          intro a hE
          refine s_val (wk0 rfl) rfl rfl hE hp (v := (.int .i64 x20)) (ex_asn rfl hE rfl) ?_
          intro a hE
          refine s_nil ?_
          exact ⟨_, (Option.some.inj hl1).symm, _, hE.cut ⟨rfl, rfl, rfl, trivial⟩, hp⟩
      · replace hl1 := (ie hc2).symm.trans hl1
        refine k_exit ?_
        refine ⟨_, (Option.some.inj hl1).symm, fun hbb => ?_⟩
        exact ⟨_, hbb.symm, _, hE.cut ⟨rfl, trivial⟩, hp⟩
  · rintro a w ⟨b2s, rfl, w2, hE, hp⟩
    dsimp only at hm
    refine k_seq ?_
    refine k_region ?_
    refine s_val (wk0 rfl) rfl rfl hE hp (v := w2) (ex_move rfl hE rfl) ?_
    intro a hE
    refine s_val (wk0 rfl) rfl rfl hE hp (v := w2) (ex_asn rfl hE rfl) ?_
    intro a hE
    refine s_val (wk0 rfl) rfl rfl hE hp (v := (.bool true)) (ex_asn rfl hE rfl) ?_
    intro a hE
    refine s_nil ?_
    refine k_ret ?_
    obtain rfl := Option.some.inj hm
    exact ret2 hE rfl rfl rfl ⟨_, rfl, _, rfl, hp⟩
set_option maxRecDepth 100000 in
set_option maxHeartbeats 4000000 in
theorem c_assessorref26_Literal {Z : World} {ρ : PH} {L : List Atom} {w : World} (hT : Tabs ρ) (p0 : Int) (hp : Hp Z ρ (L) w) (r : Int) (hm : m_assessorref26_Literal p0 = some r) :
    Calls Tryz.prog 20 #[(.int .i64 p0)] w (Ret fun v w' => v = (.int .i64 r) ∧ Hp Z ρ (L) w') := by
  refine enter (N := 15) Tryz.func20 rfl rfl [(0, (.int .i64 p0))] rfl (argsIn_mem ⟨rfl, trivial⟩) fun a hE => ?_
  unfold m_assessorref26_Literal at hm
  refine k_seq ?_
  refine k_region ?_
  refine s_val (wk0 rfl) rfl rfl hE hp (v := (.int .i64 0)) (ex_asn rfl hE rfl) ?_
  intro a hE
  refine s_nil ?_
  refine k_seq ?_
  refine k_seq ?_
  refine k_region ?_
  refine s_val (wk0 rfl) rfl rfl hE hp (v := (.int .i64 p0)) (ex_move rfl hE rfl) ?_
  intro a hE
  refine s_val (wk0 rfl) rfl rfl hE hp (v := (.bool (decide (p0 < 0)))) (ex_lss rfl hE rfl rfl) ?_
  intro a hE
  refine s_nil ?_
  refine k_if hE rfl (fun hc1 => ?_) (fun hc1 => ?_)
  · replace hm := (it hc1).symm.trans hm
    refine k_seq ?_
    refine k_region ?_
    refine s_val (wk0 rfl) rfl rfl hE hp (v := (.int .i64 0)) (ex_asn rfl hE rfl) ?_
    intro a hE
    refine s_nil ?_
    refine k_ret ?_
    obtain rfl := Option.some.inj hm
    exact ret1 hE rfl rfl ⟨_, rfl, rfl, hp⟩
  · replace hm := (ie hc1).symm.trans hm
    refine k_skip ?_
    refine k_seq ?_
    refine k_seq ?_
    refine k_region ?_
    refine s_val (wk0 rfl) rfl rfl hE hp (v := (.int .i64 p0)) (ex_move rfl hE rfl) ?_
    intro a hE
    obtain ⟨x1, ex1, hm⟩ := bnd hm
    refine s_val (wk0 rfl) rfl rfl hE hp (v := (.int .i64 x1)) (ex_rem rfl hE rfl rfl (remK_some ex1).1 (remK_some ex1).2) ?_
    intro a hE
    refine s_val (wk0 rfl) rfl rfl hE hp (v := (.bool (decide (x1 = 0)))) (ex_eql rfl hE rfl rfl) ?_
    intro a hE
    refine s_nil ?_
    refine k_if hE rfl (fun hc2 => ?_) (fun hc2 => ?_)
    · replace hm := (it hc2).symm.trans hm
      refine k_seq ?_
      refine k_region ?_
      refine s_val (wk0 rfl) rfl rfl hE hp (v := (.int .i64 p0)) (ex_move rfl hE rfl) ?_
      intro a hE
      obtain ⟨x2, ex2, hm⟩ := bnd hm
      refine s_val (wk0 rfl) rfl rfl hE hp (v := (.int .i64 x2)) (ex_quo rfl hE rfl rfl (quoK_some ex2).1 (quoK_some ex2).2) ?_
      intro a hE
      obtain ⟨x3, ex3, hm⟩ := bnd hm
      refine s_val (wk0 rfl) rfl rfl hE hp (v := (.int .i64 x3)) (ex_add rfl hE rfl rfl (inK_some ex3)) ?_
      intro a hE
      refine s_val (wk0 rfl) rfl rfl hE hp (v := (.int .i64 x3)) (ex_asn rfl hE rfl) ?_
      intro a hE
      refine s_nil ?_
      refine k_ret ?_
      obtain rfl := Option.some.inj hm
      exact ret1 hE rfl rfl ⟨_, rfl, rfl, hp⟩
    · replace hm := (ie hc2).symm.trans hm
      refine k_skip ?_
      refine k_seq ?_
      refine k_region ?_
      refine s_val (wk0 rfl) rfl rfl hE hp (v := (.int .i64 p0)) (ex_move rfl hE rfl) ?_
      intro a hE
      obtain ⟨x4, ex4, hm⟩ := bnd hm
      refine s_val (wk0 rfl) rfl rfl hE hp (v := (.int .i64 x4)) (ex_quo rfl hE rfl rfl (quoK_some ex4).1 (quoK_some ex4).2) ?_
      intro a hE
      obtain ⟨x5, ex5, hm⟩ := bnd hm
      refine s_val (wk0 rfl) rfl rfl hE hp (v := (.int .i64 x5)) (ex_add rfl hE rfl rfl (inK_some ex5)) ?_
      intro a hE
      obtain ⟨x6, ex6, hm⟩ := bnd hm
      refine s_val (wk0 rfl) rfl rfl hE hp (v := (.int .i64 x6)) (ex_neg rfl hE rfl (inK_some ex6)) ?_
      intro a hE
      refine s_val (wk0 rfl) rfl rfl hE hp (v := (.int .i64 x6)) (ex_asn rfl hE rfl) ?_
      intro a hE
      refine s_nil ?_
      refine k_ret ?_
      obtain rfl := Option.some.inj hm
      exact ret1 hE rfl rfl ⟨_, rfl, rfl, hp⟩
set_option maxRecDepth 100000 in
set_option maxHeartbeats 4000000 in
theorem c_assessorref26_Clauses {Z : World} {ρ : PH} {L : List Atom} {w : World} (hT : Tabs ρ) (p0 : (List (List Int))) (vp0 : Value) (hp0 : RoSl ρ vp0 p0) (p1 : (List (List Int))) (vp1 : Value) (hp1 : RoSl ρ vp1 p1) (hp : Hp Z ρ (L) w) (r : Bool) (hm : m_assessorref26_Clauses p0 p1 = some r) :
    Calls Tryz.prog 40 #[vp0, vp1] w (Ret fun v w' => v = (.bool r) ∧ Hp Z ρ (L) w') := by
  refine enter (N := 53) Tryz.func40 rfl rfl [(0, vp0), (1, vp1)] rfl (argsIn_mem ⟨rfl, rfl, trivial⟩) fun a hE => ?_
  unfold m_assessorref26_Clauses at hm
  refine k_seq ?_
  refine k_region ?_
  refine s_val (wk0 rfl) rfl rfl hE hp (v := (.bool false)) (ex_asn rfl hE rfl) ?_
  intro a hE
  refine s_nil ?_
  refine k_seq ?_
  refine k_seq ?_
  refine k_region ?_
  refine s_val (wk0 rfl) rfl rfl hE hp (v := vp0) (ex_move rfl hE rfl) ?_
  intro a hE
  refine s_val (wk0 rfl) rfl rfl hE hp (v := (.int .i64 (p0.length : Int))) (ex_len rfl hE rfl (RoSl.len hp0 slty22)) ?_
  intro a hE
  refine s_val (wk0 rfl) rfl rfl hE hp (v := vp1) (ex_move rfl hE rfl) ?_
  intro a hE
  refine s_val (wk0 rfl) rfl rfl hE hp (v := (.int .i64 (p1.length : Int))) (ex_len rfl hE rfl (RoSl.len hp1 slty22)) ?_
  intro a hE
  refine s_val (wk0 rfl) rfl rfl hE hp (v := (.bool (!decide ((p0.length : Int) = (p1.length : Int))))) (ex_neq rfl hE rfl rfl) ?_
  intro a hE
  refine s_nil ?_
  refine k_if hE rfl (fun hc1 => ?_) (fun hc1 => ?_)
  · replace hm := (it hc1).symm.trans hm
    refine k_seq ?_
    refine k_region ?_
    refine s_val (wk0 rfl) rfl rfl hE hp (v := (.bool false)) (ex_asn rfl hE rfl) ?_
    intro a hE
    refine s_nil ?_
    refine k_ret ?_
    obtain rfl := Option.some.inj hm
    exact ret1 hE rfl rfl ⟨_, rfl, rfl, hp⟩
  · replace hm := (ie hc1).symm.trans hm
    refine k_skip ?_
    refine k_seq ?_
    refine k_seq ?_
    refine k_region ?_
    refine s_val (wk0 rfl) rfl rfl hE hp (v := (.int .i64 0)) (ex_asn rfl hE rfl) ?_
    intro a hE
    refine s_nil ?_
    obtain ⟨b1, hc2, hm⟩ := bnd hm
    refine k_block (fun a w => ∃ s : Unit, b1 = .brk s ∧ (Env 53 [] a ∧ Hp Z ρ (L) w)) ?_ ?_
    · refine k_loop hc2 (fun s a w => Env 53 [(0, vp0), (1, vp1), (5, (.int .i64 s))] a ∧ Hp Z ρ (L) w) ?_ ?_
      · exact ⟨hE.cut ⟨rfl, rfl, rfl, trivial⟩, hp⟩
      · rintro lp1_0 st a w ⟨hE, hp⟩ hl1
        have hE : Env 53 [(0, vp0), (1, vp1), (5, (.int .i64 lp1_0))] a := hE
        have hp : Hp Z ρ (L) w := hp
        replace hl1 : m_assessorref26_Clauses_lp1 p0 p1 lp1_0 = some st := hl1
        unfold m_assessorref26_Clauses_lp1 at hl1
        refine k_seq ?_
        refine k_seq ?_
        refine k_region ?_
        refine s_val (wk0 rfl) rfl rfl hE hp (v := (.int .i64 lp1_0)) (ex_move rfl hE rfl) ?_
        intro a hE
        refine s_val (wk0 rfl) rfl rfl hE hp (v := vp0) (ex_move rfl hE rfl) ?_
        intro a hE
        refine s_val (wk0 rfl) rfl rfl hE hp (v := (.int .i64 (p0.length : Int))) (ex_len rfl hE rfl (RoSl.len hp0 slty22)) ?_
        intro a hE
        refine s_val (wk0 rfl) rfl rfl hE hp (v := (.bool (decide (lp1_0 < (p0.length : Int))))) (ex_lss rfl hE rfl rfl) ?_
        intro a hE
        refine s_nil ?_
        refine k_if hE rfl (fun hc3 => ?_) (fun hc3 => ?_)
        · replace hl1 := (it hc3).symm.trans hl1
          refine k_skip ?_
          refine k_seq ?_
          refine k_plain ?_
          refine k_seq ?_
          refine k_seq ?_
          refine k_quiet (by kernel_rfl) (by kernel_rfl) hp ?_
          refine q_val (wk0 rfl) rfl rfl hE (v := vp0) (ex_move rfl hE rfl) ?_
          intro a hE
          refine q_val (wk0 rfl) rfl rfl hE (v := (.int .i64 lp1_0)) (ex_move rfl hE rfl) ?_
          intro a hE
          obtain ⟨x1, ex1, hl1⟩ := bnd hl1
          obtain ⟨b2, b2o, b2c, b2r, b2k, b2f⟩ := RoSl.at hp0 slty22 ex1
          obtain ⟨vb2, rfl, hb2⟩ := b2k
          have b2f : AtP ρ b2 b2o [vb2] := b2f
          refine q_val (wk0 rfl) rfl rfl hE (v := (.pointer (some ⟨b2, b2o, none⟩))) (ex_index rfl hE rfl rfl b2r) ?_
          intro a hE
          refine q_val (wk0 rfl) rfl rfl hE (v := vb2) (ex_load rfl hE rfl (fun w hw => run_ld1 varty25 (b2f.c 0 rfl w hw))) ?_
          intro a hE
          refine q_val (wk0 rfl) rfl rfl hE (v := (.int .i64 (x1.length : Int))) (ex_len rfl hE rfl (RoSl.len hb2 slty25)) ?_
          intro a hE
          refine q_val (wk0 rfl) rfl rfl hE (v := vp1) (ex_move rfl hE rfl) ?_
          intro a hE
          refine q_val (wk0 rfl) rfl rfl hE (v := (.int .i64 lp1_0)) (ex_move rfl hE rfl) ?_
          intro a hE
          obtain ⟨x2, ex2, hl1⟩ := bnd hl1
          obtain ⟨b3, b3o, b3c, b3r, b3k, b3f⟩ := RoSl.at hp1 slty22 ex2
          obtain ⟨vb3, rfl, hb3⟩ := b3k
          have b3f : AtP ρ b3 b3o [vb3] := b3f
          refine q_val (wk0 rfl) rfl rfl hE (v := (.pointer (some ⟨b3, b3o, none⟩))) (ex_index rfl hE rfl rfl b3r) ?_
          intro a hE
          refine q_val (wk0 rfl) rfl rfl hE (v := vb3) (ex_load rfl hE rfl (fun w hw => run_ld1 varty25 (b3f.c 0 rfl w hw))) ?_
          intro a hE
          refine q_val (wk0 rfl) rfl rfl hE (v := (.int .i64 (x2.length : Int))) (ex_len rfl hE rfl (RoSl.len hb3 slty25)) ?_
          intro a hE
          refine q_val (wk0 rfl) rfl rfl hE (v := (.bool (!decide ((x1.length : Int) = (x2.length : Int))))) (ex_neq rfl hE rfl rfl) ?_
          intro a hE
          refine q_nil fun w hp => ?_
          have hp : Hp Z ρ (L) w := hp
          have hE := hE.cut (E' := [(0, vp0), (1, vp1), (5, (.int .i64 lp1_0)), (28, (.bool (!decide ((x1.length : Int) = (x2.length : Int)))))]) ⟨rfl, rfl, rfl, rfl, trivial⟩
          refine k_if hE rfl (fun hc4 => ?_) (fun hc4 => ?_)
          · replace hl1 := (it hc4).symm.trans hl1
            refine k_seq ?_
            refine k_region ?_
            refine s_val (wk0 rfl) rfl rfl hE hp (v := (.bool false)) (ex_asn rfl hE rfl) ?_
            intro a hE
            refine s_nil ?_
            refine k_ret ?_
            refine ⟨_, (Option.some.inj hl1).symm, fun hb => ?_⟩
            subst hb
            obtain rfl := Option.some.inj hm
            exact ret1 hE rfl rfl ⟨_, rfl, rfl, hp⟩
          · replace hl1 := (ie hc4).symm.trans hl1
            refine k_skip ?_
            refine k_seq ?_
            refine k_region ?_
            refine s_val (wk0 rfl) rfl rfl hE hp (v := (.int .i64 0)) (ex_asn rfl hE rfl) ?_
            intro a hE
            refine s_nil ?_
            obtain ⟨b4, hc5, hl1⟩ := bnd hl1
            refine k_block (fun a w => ∃ s : Unit, b4 = .brk s ∧ (Env 53 [(0, vp0), (1, vp1), (5, (.int .i64 lp1_0))] a ∧ Hp Z ρ (L) w)) ?_ ?_
            · refine k_loop hc5 (fun s a w => Env 53 [(0, vp0), (1, vp1), (5, (.int .i64 lp1_0)), (6, (.int .i64 s))] a ∧ Hp Z ρ (L) w) ?_ ?_
              · exact ⟨hE.cut ⟨rfl, rfl, rfl, rfl, trivial⟩, hp⟩
              · rintro lp2_0 st a w ⟨hE, hp⟩ hl2
                have hE : Env 53 [(0, vp0), (1, vp1), (5, (.int .i64 lp1_0)), (6, (.int .i64 lp2_0))] a := hE
                have hp : Hp Z ρ (L) w := hp
                replace hl2 : m_assessorref26_Clauses_lp2 p0 p1 lp1_0 lp2_0 = some st := hl2
                unfold m_assessorref26_Clauses_lp2 at hl2
                refine k_seq ?_
                refine k_seq ?_
                refine k_region ?_
                refine s_val (wk0 rfl) rfl rfl hE hp (v := (.int .i64 lp2_0)) (ex_move rfl hE rfl) ?_
                intro a hE
                refine s_val (wk0 rfl) rfl rfl hE hp (v := vp0) (ex_move rfl hE rfl) ?_
                intro a hE
                refine s_val (wk0 rfl) rfl rfl hE hp (v := (.int .i64 lp1_0)) (ex_move rfl hE rfl) ?_
                intro a hE
                obtain ⟨x3, ex3, hl2⟩ := bnd hl2
                obtain ⟨b5, b5o, b5c, b5r, b5k, b5f⟩ := RoSl.at hp0 slty22 ex3
                obtain ⟨vb5, rfl, hb5⟩ := b5k
                have b5f : AtP ρ b5 b5o [vb5] := b5f
                refine s_val (wk0 rfl) rfl rfl hE hp (v := (.pointer (some ⟨b5, b5o, none⟩))) (ex_index rfl hE rfl rfl b5r) ?_
                intro a hE
                refine s_val (wk0 rfl) rfl rfl hE hp (v := vb5) (ex_load rfl hE rfl (fun w hw => run_ld1 varty25 (b5f.c 0 rfl w hw))) ?_
                intro a hE
                refine s_val (wk0 rfl) rfl rfl hE hp (v := (.int .i64 (x3.length : Int))) (ex_len rfl hE rfl (RoSl.len hb5 slty25)) ?_
                intro a hE
                refine s_val (wk0 rfl) rfl rfl hE hp (v := (.bool (decide (lp2_0 < (x3.length : Int))))) (ex_lss rfl hE rfl rfl) ?_
                intro a hE
                refine s_nil ?_
                refine k_if hE rfl (fun hc6 => ?_) (fun hc6 => ?_)
                · replace hl2 := (it hc6).symm.trans hl2
                  refine k_skip ?_
                  refine k_seq ?_
                  refine k_plain ?_
                  refine k_seq ?_
                  refine k_quiet (by kernel_rfl) (by kernel_rfl) hp ?_
                  refine q_val (wk0 rfl) rfl rfl hE (v := vp0) (ex_move rfl hE rfl) ?_
                  intro a hE
                  refine q_val (wk0 rfl) rfl rfl hE (v := (.int .i64 lp1_0)) (ex_move rfl hE rfl) ?_
                  intro a hE
                  obtain ⟨x4, ex4, hl2⟩ := bnd hl2
                  obtain ⟨b6, b6o, b6c, b6r, b6k, b6f⟩ := RoSl.at hp0 slty22 ex4
                  obtain ⟨vb6, rfl, hb6⟩ := b6k
                  have b6f : AtP ρ b6 b6o [vb6] := b6f
                  refine q_val (wk0 rfl) rfl rfl hE (v := (.pointer (some ⟨b6, b6o, none⟩))) (ex_index rfl hE rfl rfl b6r) ?_
                  intro a hE
                  refine q_val (wk0 rfl) rfl rfl hE (v := vb6) (ex_load rfl hE rfl (fun w hw => run_ld1 varty25 (b6f.c 0 rfl w hw))) ?_
                  intro a hE
                  refine q_val (wk0 rfl) rfl rfl hE (v := (.int .i64 lp2_0)) (ex_move rfl hE rfl) ?_
                  intro a hE
                  obtain ⟨x5, ex5, hl2⟩ := bnd hl2
                  obtain ⟨b7, b7o, b7c, b7r, b7k, b7f⟩ := RoSl.at hb6 slty25 ex5
                  obtain rfl : b7c = Enc.enc x5 := b7k
                  have b7f : AtP ρ b7 b7o [(.int .i64 x5)] := b7f
                  refine q_val (wk0 rfl) rfl rfl hE (v := (.pointer (some ⟨b7, b7o, none⟩))) (ex_index rfl hE rfl rfl b7r) ?_
                  intro a hE
                  refine q_val (wk0 rfl) rfl rfl hE (v := (.int .i64 x5)) (ex_load rfl hE rfl (fun w hw => run_ld1 varty3 (b7f.c 0 rfl w hw))) ?_
                  intro a hE
                  refine q_val (wk0 rfl) rfl rfl hE (v := vp1) (ex_move rfl hE rfl) ?_
                  intro a hE
                  refine q_val (wk0 rfl) rfl rfl hE (v := (.int .i64 lp1_0)) (ex_move rfl hE rfl) ?_
                  intro a hE
                  obtain ⟨x6, ex6, hl2⟩ := bnd hl2
                  obtain ⟨b8, b8o, b8c, b8r, b8k, b8f⟩ := RoSl.at hp1 slty22 ex6
                  obtain ⟨vb8, rfl, hb8⟩ := b8k
                  have b8f : AtP ρ b8 b8o [vb8] := b8f
                  refine q_val (wk0 rfl) rfl rfl hE (v := (.pointer (some ⟨b8, b8o, none⟩))) (ex_index rfl hE rfl rfl b8r) ?_
                  intro a hE
                  refine q_val (wk0 rfl) rfl rfl hE (v := vb8) (ex_load rfl hE rfl (fun w hw => run_ld1 varty25 (b8f.c 0 rfl w hw))) ?_
                  intro a hE
                  refine q_val (wk0 rfl) rfl rfl hE (v := (.int .i64 lp2_0)) (ex_move rfl hE rfl) ?_
                  intro a hE
                  obtain ⟨x7, ex7, hl2⟩ := bnd hl2
                  obtain ⟨b9, b9o, b9c, b9r, b9k, b9f⟩ := RoSl.at hb8 slty25 ex7
                  obtain rfl : b9c = Enc.enc x7 := b9k
                  have b9f : AtP ρ b9 b9o [(.int .i64 x7)] := b9f
                  refine q_val (wk0 rfl) rfl rfl hE (v := (.pointer (some ⟨b9, b9o, none⟩))) (ex_index rfl hE rfl rfl b9r) ?_
                  intro a hE
                  refine q_val (wk0 rfl) rfl rfl hE (v := (.int .i64 x7)) (ex_load rfl hE rfl (fun w hw => run_ld1 varty3 (b9f.c 0 rfl w hw))) ?_
                  intro a hE
                  refine q_val (wk0 rfl) rfl rfl hE (v := (.bool (!decide (x5 = x7)))) (ex_neq rfl hE rfl rfl) ?_
                  intro a hE
                  refine q_nil fun w hp => ?_
                  have hp : Hp Z ρ (L) w := hp
                  have hE := hE.cut (E' := [(0, vp0), (1, vp1), (5, (.int .i64 lp1_0)), (6, (.int .i64 lp2_0)), (52, (.bool (!decide (x5 = x7))))]) ⟨rfl, rfl, rfl, rfl, rfl, trivial⟩
                  refine k_if hE rfl (fun hc7 => ?_) (fun hc7 => ?_)
                  · replace hl2 := (it hc7).symm.trans hl2
                    refine k_seq ?_
                    refine k_region ?_
                    refine s_val (wk0 rfl) rfl rfl hE hp (v := (.bool false)) (ex_asn rfl hE rfl) ?_
                    intro a hE
                    refine s_nil ?_
                    refine k_ret ?_
                    refine ⟨_, (Option.some.inj hl2).symm, fun hb => ?_⟩
                    subst hb
                    refine ⟨_, (Option.some.inj hl1).symm, fun hb => ?_⟩
                    subst hb
                    obtain rfl := Option.some.inj hm
                    exact ret1 hE rfl rfl ⟨_, rfl, rfl, hp⟩
                  · replace hl2 := (ie hc7).symm.trans hl2
                    refine k_skip ?_
                    refine k_region ?_
                    refine s_val (wk0 rfl) rfl rfl hE hp (v := (.int .i64 lp2_0)) (ex_move rfl hE rfl) ?_
                    intro a hE
                    obtain ⟨x8, ex8, hl2⟩ := bnd hl2
                    refine s_val (wk0 rfl) rfl rfl hE hp (v := (.int .i64 x8)) (ex_add rfl hE rfl rfl (inK_some ex8)) ?_
                    intro a hE
                    refine s_val (wk0 rfl) rfl rfl hE hp (v := (.int .i64 x8)) (ex_asn rfl hE rfl) ?_
                    intro a hE
                    refine s_nil ?_
                    exact ⟨_, (Option.some.inj hl2).symm, hE.cut ⟨rfl, rfl, rfl, rfl, trivial⟩, hp⟩
                · replace hl2 := (ie hc6).symm.trans hl2
                  refine k_exit ?_
                  refine ⟨_, (Option.some.inj hl2).symm, fun hbb => ?_⟩
                  exact ⟨_, hbb.symm, hE.cut ⟨rfl, rfl, rfl, trivial⟩, hp⟩
            · rintro a w ⟨b4s, rfl, hE, hp⟩
              dsimp only at hl1
              refine k_region ?_
              refine s_val (wk0 rfl) rfl rfl hE hp (v := (.int .i64 lp1_0)) (ex_move rfl hE rfl) ?_
              intro a hE
              obtain ⟨x9, ex9, hl1⟩ := bnd hl1
              refine s_val (wk0 rfl) rfl rfl hE hp (v := (.int .i64 x9)) (ex_add rfl hE rfl rfl (inK_some ex9)) ?_
              intro a hE
              refine s_val (wk0 rfl) rfl rfl hE hp (v := (.int .i64 x9)) (ex_asn rfl hE rfl) ?_
              intro a hE
              refine s_nil ?_
              exact ⟨_, (Option.some.inj hl1).symm, hE.cut ⟨rfl, rfl, rfl, trivial⟩, hp⟩
        · replace hl1 := (ie hc3).symm.trans hl1
          refine k_exit ?_
          refine ⟨_, (Option.some.inj hl1).symm, fun hbb => ?_⟩
          exact ⟨_, hbb.symm, hE.cut trivial, hp⟩
    · rintro a w ⟨b1s, rfl, hE, hp⟩
      dsimp only at hm
      refine k_seq ?_
      refine k_region ?_
      refine s_val (wk0 rfl) rfl rfl hE hp (v := (.bool true)) (ex_asn rfl hE rfl) ?_
      intro a hE
      refine s_nil ?_
      refine k_ret ?_
      obtain rfl := Option.some.inj hm
      exact ret1 hE rfl rfl ⟨_, rfl, rfl, hp⟩
set_option maxRecDepth 100000 in
set_option maxHeartbeats 4000000 in
theorem c_assessorref26_Same {Z : World} {ρ : PH} {L : List Atom} {w : World} (hT : Tabs ρ) (p0 : Formula) (vp0_clauses : Value) (hp0_clauses : RoSl ρ vp0_clauses p0.clauses) (p1 : Formula) (vp1_clauses : Value) (hp1_clauses : RoSl ρ vp1_clauses p1.clauses) (hp : Hp Z ρ (L) w) (r : Bool) (hm : m_assessorref26_Same p0 p1 = some r) :
    Calls Tryz.prog 23 #[(.agg #[(.int .i64 p0.vars), vp0_clauses]), (.agg #[(.int .i64 p1.vars), vp1_clauses])] w (Ret fun v w' => v = (.bool r) ∧ Hp Z ρ (L) w') := by
  refine enter (N := 17) Tryz.func23 rfl rfl [(0, (.agg #[(.int .i64 p0.vars), vp0_clauses])), (1, (.agg #[(.int .i64 p1.vars), vp1_clauses]))] rfl (argsIn_mem ⟨rfl, rfl, trivial⟩) fun a hE => ?_
  unfold m_assessorref26_Same at hm
  refine k_seq ?_
  refine k_region ?_
  refine s_box (wk0 rfl) rfl rfl hE hp rfl (v := (.agg #[(.int .i64 p0.vars), vp0_clauses])) rfl ?_
  intro a w b1 hE hp
  have hp : Hp Z ρ (Pt b1 (.cells #[(.int .i64 p0.vars), vp0_clauses] 24 (0, 0)) :: L) w := hp
  refine s_box (wk0 rfl) rfl rfl hE hp rfl (v := (.agg #[(.int .i64 p1.vars), vp1_clauses])) rfl ?_
  intro a w b2 hE hp
  have hp : Hp Z ρ (Pt b2 (.cells #[(.int .i64 p1.vars), vp1_clauses] 24 (0, 0)) :: _ :: L) w := hp
  refine s_val (wk0 rfl) rfl rfl hE hp (v := (.bool false)) (ex_asn rfl hE rfl) ?_
  intro a hE
  refine s_nil ?_
  refine k_seq ?_
  refine k_region ?_
  refine s_val (wk0 rfl) rfl rfl hE hp (v := (.pointer (some ⟨b1, 0, none⟩))) (ex_field rfl hE rfl (fldty24_0 _ _)) ?_
  intro a hE
  refine s_val (wk0 rfl) rfl rfl hE hp (v := (.int .i64 p0.vars)) (ex_load rfl hE rfl (fun w hw => run_ld1 varty3 (Hp.c 1 rfl 0 rfl w hw))) ?_
  intro a hE
  refine s_val (wk0 rfl) rfl rfl hE hp (v := (.pointer (some ⟨b2, 0, none⟩))) (ex_field rfl hE rfl (fldty24_0 _ _)) ?_
  intro a hE
  refine s_val (wk0 rfl) rfl rfl hE hp (v := (.int .i64 p1.vars)) (ex_load rfl hE rfl (fun w hw => run_ld1 varty3 (Hp.c 0 rfl 0 rfl w hw))) ?_
  intro a hE
  refine s_val (wk0 rfl) rfl rfl hE hp (v := (.bool (decide (p0.vars = p1.vars)))) (ex_eql rfl hE rfl rfl) ?_
  intro a hE
  refine s_val (wk0 rfl) rfl rfl hE hp (v := (.bool (decide (p0.vars = p1.vars)))) (ex_move rfl hE rfl) ?_
  intro a hE
  obtain ⟨m1, hg1, hm⟩ := bnd hm
  refine s_cut [_, _, _, _, _, _] (fun a w => Env 17 [(16, (.bool m1))] a ∧ Hp Z ρ (Pt b2 (.cells #[(.int .i64 p1.vars), vp1_clauses] 24 (0, 0)) :: Pt b1 (.cells #[(.int .i64 p0.vars), vp0_clauses] 24 (0, 0)) :: L) w) ?_ ?_
  · rcases Bool.eq_false_or_eq_true (decide (p0.vars = p1.vars)) with hc1 | hc1
    ·
      replace hg1 := (it hc1).symm.trans hg1
      refine s_val (wk1 hE rfl rfl rfl hc1) rfl rfl hE hp (v := (.pointer (some ⟨b1, 1, none⟩))) (ex_field rfl hE rfl (fldty24_1 _ _)) ?_
      intro a hE
      refine s_val (wk1 hE rfl rfl rfl hc1) rfl rfl hE hp (v := vp0_clauses) (ex_load rfl hE rfl (fun w hw => run_ld1 varty22 (Hp.c 1 rfl 1 rfl w hw))) ?_
      intro a hE
      refine s_val (wk1 hE rfl rfl rfl hc1) rfl rfl hE hp (v := (.pointer (some ⟨b2, 1, none⟩))) (ex_field rfl hE rfl (fldty24_1 _ _)) ?_
      intro a hE
      refine s_val (wk1 hE rfl rfl rfl hc1) rfl rfl hE hp (v := vp1_clauses) (ex_load rfl hE rfl (fun w hw => run_ld1 varty22 (Hp.c 0 rfl 1 rfl w hw))) ?_
      intro a hE
      obtain ⟨x1, ex1, hg1⟩ := bnd hg1
      refine s_call (wk1 hE rfl rfl rfl hc1) rfl rfl hE rfl [vp0_clauses, vp1_clauses] ⟨rfl, rfl, trivial⟩ ent40 (c_assessorref26_Clauses hT p0.clauses vp0_clauses hp0_clauses p1.clauses vp1_clauses hp1_clauses hp x1 ex1) Ret.ret ?_
      intro v a w hR hE
      obtain ⟨rfl, hp⟩ := Ret.of hR
      have hp : Hp Z ρ (_ :: _ :: L) w := hp
      refine s_val (wk0 rfl) rfl rfl hE hp (v := (.bool x1)) (ex_pick1 rfl hE rfl hc1 rfl) ?_
      intro a hE
      obtain rfl := Option.some.inj hg1
      exact s_nil ⟨hE.cut ⟨rfl, trivial⟩, hp⟩
    ·
      replace hg1 := (ie hc1).symm.trans hg1
      refine s_skip (wk2 hE rfl rfl rfl hc1) rfl rfl hE ?_
      intro a hE
      refine s_skip (wk2 hE rfl rfl rfl hc1) rfl rfl hE ?_
      intro a hE
      refine s_skip (wk2 hE rfl rfl rfl hc1) rfl rfl hE ?_
      intro a hE
      refine s_skip (wk2 hE rfl rfl rfl hc1) rfl rfl hE ?_
      intro a hE
      refine s_skip (wk2 hE rfl rfl rfl hc1) rfl rfl hE ?_
      intro a hE
      refine s_val (wk0 rfl) rfl rfl hE hp (v := (.bool false)) (ex_pick0 rfl hE rfl hc1 rfl) ?_
      intro a hE
      obtain rfl := Option.some.inj hg1
      exact s_nil ⟨hE.cut ⟨rfl, trivial⟩, hp⟩
  · rintro a w ⟨hE, hp⟩
    refine s_val (wk0 rfl) rfl rfl hE hp (v := (.bool m1)) (ex_asn rfl hE rfl) ?_
    intro a hE
    refine s_nil ?_
    refine k_ret ?_
    obtain rfl := Option.some.inj hm
    exact ret1 hE rfl rfl ⟨_, rfl, rfl, (((hp.get 1 rfl).drop).drop)⟩
end Go.Proofs.YtelioaepnpnojaaGreatDoor

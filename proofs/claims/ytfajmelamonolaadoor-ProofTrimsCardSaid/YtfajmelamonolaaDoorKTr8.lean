/- The code goes as its model: assessor/assessorref26.Variable, assessor/assessorref26.IsClause, assessor/assessorref26.Valid, assessor/assessorref26.Clauses, asse -/
import Derived.Test.YtfajmelamonolaaDoorKTr4
set_option linter.unusedVariables false
set_option linter.unusedSimpArgs false
namespace Go.Proofs.YtfajmelamonolaaDoor
open Go.RowKit
set_option maxRecDepth 100000 in
set_option maxHeartbeats 4000000 in
theorem c_assessorref26_Variable {Z : World} {ρ : PH} {L : List Atom} {w : World} (hT : Tabs ρ) (p0 : Int) (hp : Hp Z ρ (L) w) (r : Int) (hm : m_assessorref26_Variable p0 = some r) :
    Calls Tryd.prog 33 #[(.int .i64 p0)] w (Ret fun v w' => v = (.int .i64 r) ∧ Hp Z ρ (L) w') := by
  refine enter (N := 8) Tryd.func33 rfl rfl [(0, (.int .i64 p0))] rfl (argsIn_mem ⟨rfl, trivial⟩) fun a hE => ?_
  unfold m_assessorref26_Variable at hm
  refine k_seq ?_
  refine k_region ?_
  refine s_val (wk0 rfl) rfl rfl hE hp (v := (.int .i64 0)) (ex_asn rfl hE rfl) ?_
  intro a hE
  refine s_nil ?_
  refine k_seq ?_
  refine k_seq ?_
  refine k_region ?_
  refine s_val (wk0 rfl) rfl rfl hE hp (v := (.int .i64 p0)) (ex_move rfl hE rfl) ?_
  intro a hE
  refine s_val (wk0 rfl) rfl rfl hE hp (v := (.bool (decide (p0 < 0)))) (ex_lss rfl hE rfl rfl) ?_
  intro a hE
  refine s_nil ?_
  refine k_if hE rfl (fun hc1 => ?_) (fun hc1 => ?_)
  · replace hm := (it hc1).symm.trans hm
    refine k_seq ?_
    refine k_region ?_
    refine s_val (wk0 rfl) rfl rfl hE hp (v := (.int .i64 p0)) (ex_move rfl hE rfl) ?_
    intro a hE
    obtain ⟨x1, ex1, hm⟩ := bnd hm
    refine s_val (wk0 rfl) rfl rfl hE hp (v := (.int .i64 x1)) (ex_neg rfl hE rfl (inK_some ex1)) ?_
    intro a hE
    refine s_val (wk0 rfl) rfl rfl hE hp (v := (.int .i64 x1)) (ex_asn rfl hE rfl) ?_
    intro a hE
    refine s_nil ?_
    refine k_ret ?_
    obtain rfl := Option.some.inj hm
    exact ret1 hE rfl rfl ⟨_, rfl, rfl, hp⟩
  · replace hm := (ie hc1).symm.trans hm
    refine k_skip ?_
    refine k_seq ?_
    refine k_region ?_
    refine s_val (wk0 rfl) rfl rfl hE hp (v := (.int .i64 p0)) (ex_move rfl hE rfl) ?_
    intro a hE
    refine s_val (wk0 rfl) rfl rfl hE hp (v := (.int .i64 p0)) (ex_asn rfl hE rfl) ?_
    intro a hE
    refine s_nil ?_
    refine k_ret ?_
    obtain rfl := Option.some.inj hm
    exact ret1 hE rfl rfl ⟨_, rfl, rfl, hp⟩
set_option maxRecDepth 100000 in
set_option maxHeartbeats 4000000 in
theorem c_assessorref26_IsClause {Z : World} {ρ : PH} {L : List Atom} {w : World} (hT : Tabs ρ) (p0 : (List Int)) (vp0 : Value) (hp0 : RoSl ρ vp0 p0) (p1 : Int) (hp : Hp Z ρ (L) w) (r : Bool) (hm : m_assessorref26_IsClause p0 p1 = some r) :
    Calls Tryd.prog 12 #[vp0, (.int .i64 p1)] w (Ret fun v w' => v = (.bool r) ∧ Hp Z ρ (L) w') := by
  refine enter (N := 52) Tryd.func12 rfl rfl [(0, vp0), (1, (.int .i64 p1))] rfl (argsIn_mem ⟨rfl, rfl, trivial⟩) fun a hE => ?_
  unfold m_assessorref26_IsClause at hm
  refine k_seq ?_
  refine k_region ?_
  refine s_val (wk0 rfl) rfl rfl hE hp (v := (.bool false)) (ex_asn rfl hE rfl) ?_
  intro a hE
  refine s_nil ?_
  refine k_seq ?_
  refine k_seq ?_
  refine k_region ?_
  refine s_val (wk0 rfl) rfl rfl hE hp (v := (.int .i64 0)) (ex_asn rfl hE rfl) ?_
  intro a hE
  refine s_nil ?_
  obtain ⟨b1, hc1, hm⟩ := bnd hm
  refine k_block (fun a w => ∃ s : Unit, b1 = .brk s ∧ (Env 52 [] a ∧ Hp Z ρ (L) w)) ?_ ?_
  · refine k_loop hc1 (fun s a w => Env 52 [(0, vp0), (1, (.int .i64 p1)), (5, (.int .i64 s))] a ∧ Hp Z ρ (L) w) ?_ ?_
    · exact ⟨hE.cut ⟨rfl, rfl, rfl, trivial⟩, hp⟩
    · rintro lp1_0 st a w ⟨hE, hp⟩ hl1
      have hE : Env 52 [(0, vp0), (1, (.int .i64 p1)), (5, (.int .i64 lp1_0))] a := hE
      have hp : Hp Z ρ (L) w := hp
      replace hl1 : m_assessorref26_IsClause_lp1 p0 p1 lp1_0 = some st := hl1
      unfold m_assessorref26_IsClause_lp1 at hl1
      refine k_seq ?_
      refine k_seq ?_
      refine k_region ?_
      refine s_val (wk0 rfl) rfl rfl hE hp (v := (.int .i64 lp1_0)) (ex_move rfl hE rfl) ?_
      intro a hE
      refine s_val (wk0 rfl) rfl rfl hE hp (v := vp0) (ex_move rfl hE rfl) ?_
      intro a hE
      refine s_val (wk0 rfl) rfl rfl hE hp (v := (.int .i64 (p0.length : Int))) (ex_len rfl hE rfl (RoSl.len hp0 slty25)) ?_
      intro a hE
      refine s_val (wk0 rfl) rfl rfl hE hp (v := (.bool (decide (lp1_0 < (p0.length : Int))))) (ex_lss rfl hE rfl rfl) ?_
      intro a hE
      refine s_nil ?_
      refine k_if hE rfl (fun hc2 => ?_) (fun hc2 => ?_)
      · replace hl1 := (it hc2).symm.trans hl1
        refine k_skip ?_
        refine k_seq ?_
        refine k_plain ?_
        refine k_seq ?_
        refine k_quiet (by kernel_rfl) (by kernel_rfl) hp ?_
        refine q_val (wk0 rfl) rfl rfl hE (v := vp0) (ex_move rfl hE rfl) ?_
        intro a hE
        refine q_val (wk0 rfl) rfl rfl hE (v := (.int .i64 lp1_0)) (ex_move rfl hE rfl) ?_
        intro a hE
        obtain ⟨x1, ex1, hl1⟩ := bnd hl1
        obtain ⟨b2, b2o, b2c, b2r, b2k, b2f⟩ := RoSl.at hp0 slty25 ex1
        obtain rfl : b2c = Enc.enc x1 := b2k
        have b2f : AtP ρ b2 b2o [(.int .i64 x1)] := b2f
        refine q_val (wk0 rfl) rfl rfl hE (v := (.pointer (some ⟨b2, b2o, none⟩))) (ex_index rfl hE rfl rfl b2r) ?_
        intro a hE
        refine q_val (wk0 rfl) rfl rfl hE (v := (.int .i64 x1)) (ex_load rfl hE rfl (fun w hw => run_ld1 varty3 (b2f.c 0 rfl w hw))) ?_
        intro a hE
        refine q_val (wk0 rfl) rfl rfl hE (v := (.bool (decide (x1 = 0)))) (ex_eql rfl hE rfl rfl) ?_
        intro a hE
        refine q_val (wk0 rfl) rfl rfl hE (v := (.bool (decide (x1 = 0)))) (ex_move rfl hE rfl) ?_
        intro a hE
        obtain ⟨m1, hg1, hl1⟩ := bnd hl1
        refine q_cut [_, _, _, _, _, _, _, _] (fun a => Env 52 [(25, (.bool m1)), (0, vp0), (1, (.int .i64 p1)), (5, (.int .i64 lp1_0))] a) ?_ ?_
        · rcases Bool.eq_false_or_eq_true (decide (x1 = 0)) with hc3 | hc3
          ·
            replace hg1 := (it hc3).symm.trans hg1
            refine q_skip (wk2 hE rfl rfl rfl hc3) rfl rfl hE ?_
            intro a hE
            refine q_skip (wk2 hE rfl rfl rfl hc3) rfl rfl hE ?_
            intro a hE
            refine q_skip (wk2 hE rfl rfl rfl hc3) rfl rfl hE ?_
            intro a hE
            refine q_skip (wk2 hE rfl rfl rfl hc3) rfl rfl hE ?_
            intro a hE
            refine q_skip (wk2 hE rfl rfl rfl hc3) rfl rfl hE ?_
            intro a hE
            refine q_skip (wk2 hE rfl rfl rfl hc3) rfl rfl hE ?_
            intro a hE
            refine q_skip (wk2 hE rfl rfl rfl hc3) rfl rfl hE ?_
            intro a hE
            refine q_val (wk0 rfl) rfl rfl hE (v := (.bool true)) (ex_pick1 rfl hE rfl hc3 rfl) ?_
            intro a hE
            obtain rfl := Option.some.inj hg1
            exact q_nil (hE.cut ⟨rfl, rfl, rfl, rfl, trivial⟩)
          ·
            replace hg1 := (ie hc3).symm.trans hg1
            refine q_val (wk1 hE rfl rfl rfl hc3) rfl rfl hE (v := vp0) (ex_move rfl hE rfl) ?_
            intro a hE
            refine q_val (wk1 hE rfl rfl rfl hc3) rfl rfl hE (v := (.int .i64 lp1_0)) (ex_move rfl hE rfl) ?_
            intro a hE
            obtain ⟨x2, ex2, hg1⟩ := bnd hg1
            obtain ⟨b3, b3o, b3c, b3r, b3k, b3f⟩ := RoSl.at hp0 slty25 ex2
            obtain rfl : b3c = Enc.enc x2 := b3k
            have b3f : AtP ρ b3 b3o [(.int .i64 x2)] := b3f
            refine q_val (wk1 hE rfl rfl rfl hc3) rfl rfl hE (v := (.pointer (some ⟨b3, b3o, none⟩))) (ex_index rfl hE rfl rfl b3r) ?_
            intro a hE
            refine q_val (wk1 hE rfl rfl rfl hc3) rfl rfl hE (v := (.int .i64 x2)) (ex_load rfl hE rfl (fun w hw => run_ld1 varty3 (b3f.c 0 rfl w hw))) ?_
            intro a hE
            refine q_val (wk1 hE rfl rfl rfl hc3) rfl rfl hE (v := (.int .i64 p1)) (ex_move rfl hE rfl) ?_
            intro a hE
            obtain ⟨x3, ex3, hg1⟩ := bnd hg1
            refine q_val (wk1 hE rfl rfl rfl hc3) rfl rfl hE (v := (.int .i64 x3)) (ex_neg rfl hE rfl (inK_some ex3)) ?_
            intro a hE
            refine q_val (wk1 hE rfl rfl rfl hc3) rfl rfl hE (v := (.bool (decide (x2 < x3)))) (ex_lss rfl hE rfl rfl) ?_
            intro a hE
            refine q_val (wk0 rfl) rfl rfl hE (v := (.bool (decide (x2 < x3)))) (ex_pick0 rfl hE rfl hc3 rfl) ?_
            intro a hE
            obtain rfl := Option.some.inj hg1
            exact q_nil (hE.cut ⟨rfl, rfl, rfl, rfl, trivial⟩)
        · intro a hE
          refine q_val (wk0 rfl) rfl rfl hE (v := (.bool m1)) (ex_move rfl hE rfl) ?_
          intro a hE
          obtain ⟨m2, hg2, hl1⟩ := bnd hl1
          refine q_cut [_, _, _, _, _, _, _] (fun a => Env 52 [(33, (.bool m2)), (0, vp0), (1, (.int .i64 p1)), (5, (.int .i64 lp1_0))] a) ?_ ?_
          · rcases Bool.eq_false_or_eq_true m1 with hc4 | hc4
            ·
              replace hg2 := (it hc4).symm.trans hg2
              refine q_skip (wk2 hE rfl rfl rfl hc4) rfl rfl hE ?_
              intro a hE
              refine q_skip (wk2 hE rfl rfl rfl hc4) rfl rfl hE ?_
              intro a hE
              refine q_skip (wk2 hE rfl rfl rfl hc4) rfl rfl hE ?_
              intro a hE
              refine q_skip (wk2 hE rfl rfl rfl hc4) rfl rfl hE ?_
              intro a hE
              refine q_skip (wk2 hE rfl rfl rfl hc4) rfl rfl hE ?_
              intro a hE
              refine q_skip (wk2 hE rfl rfl rfl hc4) rfl rfl hE ?_
              intro a hE
              refine q_val (wk0 rfl) rfl rfl hE (v := (.bool true)) (ex_pick1 rfl hE rfl hc4 rfl) ?_
              intro a hE
              obtain rfl := Option.some.inj hg2
              exact q_nil (hE.cut ⟨rfl, rfl, rfl, rfl, trivial⟩)
            ·
              replace hg2 := (ie hc4).symm.trans hg2
              refine q_val (wk1 hE rfl rfl rfl hc4) rfl rfl hE (v := vp0) (ex_move rfl hE rfl) ?_
              intro a hE
              refine q_val (wk1 hE rfl rfl rfl hc4) rfl rfl hE (v := (.int .i64 lp1_0)) (ex_move rfl hE rfl) ?_
              intro a hE
              obtain ⟨x4, ex4, hg2⟩ := bnd hg2
              obtain ⟨b4, b4o, b4c, b4r, b4k, b4f⟩ := RoSl.at hp0 slty25 ex4
              obtain rfl : b4c = Enc.enc x4 := b4k
              have b4f : AtP ρ b4 b4o [(.int .i64 x4)] := b4f
              refine q_val (wk1 hE rfl rfl rfl hc4) rfl rfl hE (v := (.pointer (some ⟨b4, b4o, none⟩))) (ex_index rfl hE rfl rfl b4r) ?_
              intro a hE
              refine q_val (wk1 hE rfl rfl rfl hc4) rfl rfl hE (v := (.int .i64 x4)) (ex_load rfl hE rfl (fun w hw => run_ld1 varty3 (b4f.c 0 rfl w hw))) ?_
              intro a hE
              refine q_val (wk1 hE rfl rfl rfl hc4) rfl rfl hE (v := (.int .i64 p1)) (ex_move rfl hE rfl) ?_
              intro a hE
              refine q_val (wk1 hE rfl rfl rfl hc4) rfl rfl hE (v := (.bool (decide (p1 < x4)))) (ex_gtr rfl hE rfl rfl) ?_
              intro a hE
              refine q_val (wk0 rfl) rfl rfl hE (v := (.bool (decide (p1 < x4)))) (ex_pick0 rfl hE rfl hc4 rfl) ?_
              intro a hE
              obtain rfl := Option.some.inj hg2
              exact q_nil (hE.cut ⟨rfl, rfl, rfl, rfl, trivial⟩)
          · intro a hE
            refine q_val (wk0 rfl) rfl rfl hE (v := (.bool m2)) (ex_move rfl hE rfl) ?_
            intro a hE
            obtain ⟨m3, hg3, hl1⟩ := bnd hl1
            refine q_cut [_, _, _, _, _, _, _, _, _, _, _, _, _, _, _, _, _] (fun a => Env 52 [(51, (.bool m3)), (0, vp0), (1, (.int .i64 p1)), (5, (.int .i64 lp1_0))] a) ?_ ?_
            · rcases Bool.eq_false_or_eq_true m2 with hc5 | hc5
              ·
                replace hg3 := (it hc5).symm.trans hg3
                refine q_skip (wk2 hE rfl rfl rfl hc5) rfl rfl hE ?_
                intro a hE
                refine q_skip (wk2 hE rfl rfl rfl hc5) rfl rfl hE ?_
                intro a hE
                refine q_skip (wk2 hE rfl rfl rfl hc5) rfl rfl hE ?_
                intro a hE
                refine q_skip (wk3 hE rfl rfl rfl) rfl rfl hE ?_
                intro a hE
                refine q_skip (wk3 hE rfl rfl rfl) rfl rfl hE ?_
                intro a hE
                refine q_skip (wk3 hE rfl rfl rfl) rfl rfl hE ?_
                intro a hE
                refine q_skip (wk3 hE rfl rfl rfl) rfl rfl hE ?_
                intro a hE
                refine q_skip (wk3 hE rfl rfl rfl) rfl rfl hE ?_
                intro a hE
                refine q_skip (wk3 hE rfl rfl rfl) rfl rfl hE ?_
                intro a hE
                refine q_skip (wk3 hE rfl rfl rfl) rfl rfl hE ?_
                intro a hE
                refine q_skip (wk3 hE rfl rfl rfl) rfl rfl hE ?_
                intro a hE
                refine q_skip (wk3 hE rfl rfl rfl) rfl rfl hE ?_
                intro a hE
                refine q_skip (wk3 hE rfl rfl rfl) rfl rfl hE ?_
                intro a hE
                refine q_skip (wk3 hE rfl rfl rfl) rfl rfl hE ?_
                intro a hE
                refine q_skip (wk3 hE rfl rfl rfl) rfl rfl hE ?_
                intro a hE
                refine q_skip (wk2 hE rfl rfl rfl hc5) rfl rfl hE ?_
                intro a hE
                refine q_val (wk0 rfl) rfl rfl hE (v := (.bool true)) (ex_pick1 rfl hE rfl hc5 rfl) ?_
                intro a hE
                obtain rfl := Option.some.inj hg3
                exact q_nil (hE.cut ⟨rfl, rfl, rfl, rfl, trivial⟩)
              ·
                replace hg3 := (ie hc5).symm.trans hg3
                refine q_val (wk1 hE rfl rfl rfl hc5) rfl rfl hE (v := (.int .i64 lp1_0)) (ex_move rfl hE rfl) ?_
                intro a hE
                refine q_val (wk1 hE rfl rfl rfl hc5) rfl rfl hE (v := (.bool (decide (0 < lp1_0)))) (ex_gtr rfl hE rfl rfl) ?_
                intro a hE
                refine q_val (wk1 hE rfl rfl rfl hc5) rfl rfl hE (v := (.bool (decide (0 < lp1_0)))) (ex_move rfl hE rfl) ?_
                intro a hE
                obtain ⟨m4, hg4, hg3⟩ := bnd hg3
                refine q_cut [_, _, _, _, _, _, _, _, _, _, _, _, _] (fun a => Env 52 [(50, (.bool m4)), (0, vp0), (1, (.int .i64 p1)), (5, (.int .i64 lp1_0)), (34, (.bool m2)), (35, (.int .i64 lp1_0)), (36, (.bool (decide (0 < lp1_0)))), (37, (.bool (decide (0 < lp1_0))))] a) ?_ ?_
                · rcases Bool.eq_false_or_eq_true (decide (0 < lp1_0)) with hc6 | hc6
                  ·
                    replace hg4 := (it hc6).symm.trans hg4
                    refine q_val (wk1 hE rfl rfl rfl hc6) rfl rfl hE (v := vp0) (ex_move rfl hE rfl) ?_
                    intro a hE
                    refine q_val (wk1 hE rfl rfl rfl hc6) rfl rfl hE (v := (.int .i64 lp1_0)) (ex_move rfl hE rfl) ?_
                    intro a hE
                    obtain ⟨x5, ex5, hg4⟩ := bnd hg4
                    obtain ⟨b5, b5o, b5c, b5r, b5k, b5f⟩ := RoSl.at hp0 slty25 ex5
                    obtain rfl : b5c = Enc.enc x5 := b5k
                    have b5f : AtP ρ b5 b5o [(.int .i64 x5)] := b5f
                    refine q_val (wk1 hE rfl rfl rfl hc6) rfl rfl hE (v := (.pointer (some ⟨b5, b5o, none⟩))) (ex_index rfl hE rfl rfl b5r) ?_
                    intro a hE
                    refine q_val (wk1 hE rfl rfl rfl hc6) rfl rfl hE (v := (.int .i64 x5)) (ex_load rfl hE rfl (fun w hw => run_ld1 varty3 (b5f.c 0 rfl w hw))) ?_
                    intro a hE
                    obtain ⟨x6, ex6, hg4⟩ := bnd hg4
                    refine q_call (wk1 hE rfl rfl rfl hc6) rfl rfl hE rfl [(.int .i64 x5)] ⟨rfl, trivial⟩ ent33 (v := (.int .i64 x6)) (fun w hw => Calls.mono (c_assessorref26_Variable hT x5 hw x6 ex6) fun e w' ⟨v, he, hv, hh⟩ => ⟨by rw [he, hv], hh⟩) ?_
                    intro a hE
                    refine q_val (wk1 hE rfl rfl rfl hc6) rfl rfl hE (v := vp0) (ex_move rfl hE rfl) ?_
                    intro a hE
                    refine q_val (wk1 hE rfl rfl rfl hc6) rfl rfl hE (v := (.int .i64 lp1_0)) (ex_move rfl hE rfl) ?_
                    intro a hE
                    obtain ⟨x7, ex7, hg4⟩ := bnd hg4
                    refine q_val (wk1 hE rfl rfl rfl hc6) rfl rfl hE (v := (.int .i64 x7)) (ex_sub rfl hE rfl rfl (inK_some ex7)) ?_
                    intro a hE
                    obtain ⟨x8, ex8, hg4⟩ := bnd hg4
                    obtain ⟨b6, b6o, b6c, b6r, b6k, b6f⟩ := RoSl.at hp0 slty25 ex8
                    obtain rfl : b6c = Enc.enc x8 := b6k
                    have b6f : AtP ρ b6 b6o [(.int .i64 x8)] := b6f
                    refine q_val (wk1 hE rfl rfl rfl hc6) rfl rfl hE (v := (.pointer (some ⟨b6, b6o, none⟩))) (ex_index rfl hE rfl rfl b6r) ?_
                    intro a hE
                    refine q_val (wk1 hE rfl rfl rfl hc6) rfl rfl hE (v := (.int .i64 x8)) (ex_load rfl hE rfl (fun w hw => run_ld1 varty3 (b6f.c 0 rfl w hw))) ?_
                    intro a hE
                    obtain ⟨x9, ex9, hg4⟩ := bnd hg4
                    refine q_call (wk1 hE rfl rfl rfl hc6) rfl rfl hE rfl [(.int .i64 x8)] ⟨rfl, trivial⟩ ent33 (v := (.int .i64 x9)) (fun w hw => Calls.mono (c_assessorref26_Variable hT x8 hw x9 ex9) fun e w' ⟨v, he, hv, hh⟩ => ⟨by rw [he, hv], hh⟩) ?_
                    intro a hE
                    refine q_val (wk1 hE rfl rfl rfl hc6) rfl rfl hE (v := (.bool (decide (x6 ≤ x9)))) (ex_leq rfl hE rfl rfl) ?_
                    intro a hE
                    refine q_val (wk1 hE rfl rfl rfl hc5) rfl rfl hE (v := (.bool (decide (x6 ≤ x9)))) (ex_pick1 rfl hE rfl hc6 rfl) ?_
                    intro a hE
                    obtain rfl := Option.some.inj hg4
                    exact q_nil (hE.cut ⟨rfl, rfl, rfl, rfl, rfl, rfl, rfl, rfl, trivial⟩)
                  ·
                    replace hg4 := (ie hc6).symm.trans hg4
                    refine q_skip (wk2 hE rfl rfl rfl hc6) rfl rfl hE ?_
                    intro a hE
                    refine q_skip (wk2 hE rfl rfl rfl hc6) rfl rfl hE ?_
                    intro a hE
                    refine q_skip (wk2 hE rfl rfl rfl hc6) rfl rfl hE ?_
                    intro a hE
                    refine q_skip (wk2 hE rfl rfl rfl hc6) rfl rfl hE ?_
                    intro a hE
                    refine q_skip (wk2 hE rfl rfl rfl hc6) rfl rfl hE ?_
                    intro a hE
                    refine q_skip (wk2 hE rfl rfl rfl hc6) rfl rfl hE ?_
                    intro a hE
                    refine q_skip (wk2 hE rfl rfl rfl hc6) rfl rfl hE ?_
                    intro a hE
                    refine q_skip (wk2 hE rfl rfl rfl hc6) rfl rfl hE ?_
                    intro a hE
                    refine q_skip (wk2 hE rfl rfl rfl hc6) rfl rfl hE ?_
                    intro a hE
                    refine q_skip (wk2 hE rfl rfl rfl hc6) rfl rfl hE ?_
                    intro a hE
                    refine q_skip (wk2 hE rfl rfl rfl hc6) rfl rfl hE ?_
                    intro a hE
                    refine q_skip (wk2 hE rfl rfl rfl hc6) rfl rfl hE ?_
                    intro a hE
                    refine q_val (wk1 hE rfl rfl rfl hc5) rfl rfl hE (v := (.bool false)) (ex_pick0 rfl hE rfl hc6 rfl) ?_
                    intro a hE
                    obtain rfl := Option.some.inj hg4
                    exact q_nil (hE.cut ⟨rfl, rfl, rfl, rfl, rfl, rfl, rfl, rfl, trivial⟩)
                · intro a hE
                  refine q_val (wk0 rfl) rfl rfl hE (v := (.bool m4)) (ex_pick0 rfl hE rfl hc5 rfl) ?_
                  intro a hE
                  obtain rfl := Option.some.inj hg3
                  exact q_nil (hE.cut ⟨rfl, rfl, rfl, rfl, trivial⟩)
            · intro a hE
              refine q_nil fun w hp => ?_
              have hp : Hp Z ρ (L) w := hp
              refine k_if hE rfl (fun hc7 => ?_) (fun hc7 => ?_)
              · replace hl1 := (it hc7).symm.trans hl1
                refine k_seq ?_
                refine k_region ?_
                refine s_val (wk0 rfl) rfl rfl hE hp (v := (.bool false)) (ex_asn rfl hE rfl) ?_
                intro a hE
                refine s_nil ?_
                refine k_ret ?_
                refine ⟨_, (Option.some.inj hl1).symm, fun hb => ?_⟩
                subst hb
                obtain rfl := Option.some.inj hm
                exact ret1 hE rfl rfl ⟨_, rfl, rfl, hp⟩
              · replace hl1 := (ie hc7).symm.trans hl1
                refine k_skip ?_
                refine k_region ?_
                refine s_val (wk0 rfl) rfl rfl hE hp (v := (.int .i64 lp1_0)) (ex_move rfl hE rfl) ?_
                intro a hE
                obtain ⟨x10, ex10, hl1⟩ := bnd hl1
                refine s_val (wk0 rfl) rfl rfl hE hp (v := (.int .i64 x10)) (ex_add rfl hE rfl rfl (inK_some ex10)) ?_
                intro a hE
                refine s_val (wk0 rfl) rfl rfl hE hp (v := (.int .i64 x10)) (ex_asn rfl hE rfl) ?_
                intro a hE
                refine s_nil ?_
                exact ⟨_, (Option.some.inj hl1).symm, hE.cut ⟨rfl, rfl, rfl, trivial⟩, hp⟩
      · replace hl1 := (ie hc2).symm.trans hl1
        refine k_exit ?_
        refine ⟨_, (Option.some.inj hl1).symm, fun hbb => ?_⟩
        exact ⟨_, hbb.symm, hE.cut trivial, hp⟩
  · rintro a w ⟨b1s, rfl, hE, hp⟩
    dsimp only at hm
    refine k_seq ?_
    refine k_region ?_
    refine s_val (wk0 rfl) rfl rfl hE hp (v := (.bool true)) (ex_asn rfl hE rfl) ?_
    intro a hE
    refine s_nil ?_
    refine k_ret ?_
    obtain rfl := Option.some.inj hm
    exact ret1 hE rfl rfl ⟨_, rfl, rfl, hp⟩
set_option maxRecDepth 100000 in
set_option maxHeartbeats 4000000 in
theorem c_assessorref26_Valid {Z : World} {ρ : PH} {L : List Atom} {w : World} (hT : Tabs ρ) (p0 : Formula) (vp0_clauses : Value) (hp0_clauses : RoSl ρ vp0_clauses p0.clauses) (hp : Hp Z ρ (L) w) (r : Bool) (hm : m_assessorref26_Valid p0 = some r) :
    Calls Tryd.prog 11 #[(.agg #[(.int .i64 p0.vars), vp0_clauses])] w (Ret fun v w' => v = (.bool r) ∧ Hp Z ρ (L) w') := by
  refine enter (N := 34) Tryd.func11 rfl rfl [(0, (.agg #[(.int .i64 p0.vars), vp0_clauses]))] rfl (argsIn_mem ⟨rfl, trivial⟩) fun a hE => ?_
  unfold m_assessorref26_Valid at hm
  refine k_seq ?_
  refine k_region ?_
  refine s_box (wk0 rfl) rfl rfl hE hp rfl (v := (.agg #[(.int .i64 p0.vars), vp0_clauses])) rfl ?_
  intro a w b1 hE hp
  have hp : Hp Z ρ (Pt b1 (.cells #[(.int .i64 p0.vars), vp0_clauses] 24 (0, 0)) :: L) w := hp
  refine s_val (wk0 rfl) rfl rfl hE hp (v := (.bool false)) (ex_asn rfl hE rfl) ?_
  intro a hE
  refine s_nil ?_
  refine k_seq ?_
  refine k_seq ?_
  refine k_region ?_
  refine s_val (wk0 rfl) rfl rfl hE hp (v := (.pointer (some ⟨b1, 0, none⟩))) (ex_field rfl hE rfl (fldty24_0 _ _)) ?_
  intro a hE
  refine s_val (wk0 rfl) rfl rfl hE hp (v := (.int .i64 p0.vars)) (ex_load rfl hE rfl (fun w hw => run_ld1 varty3 (Hp.c 0 rfl 0 rfl w hw))) ?_
  intro a hE
  refine s_val (wk0 rfl) rfl rfl hE hp (v := (.bool (decide (p0.vars < 0)))) (ex_lss rfl hE rfl rfl) ?_
  intro a hE
  refine s_val (wk0 rfl) rfl rfl hE hp (v := (.bool (decide (p0.vars < 0)))) (ex_move rfl hE rfl) ?_
  intro a hE
  refine s_cut [_, _, _, _] (fun a w => Env 34 [(11, (.bool ((decide (p0.vars < 0)) || (decide (65536 < p0.vars))))), (1, (.pointer (some ⟨b1, 0, none⟩)))] a ∧ Hp Z ρ (Pt b1 (.cells #[(.int .i64 p0.vars), vp0_clauses] 24 (0, 0)) :: L) w) ?_ ?_
  · rcases Bool.eq_false_or_eq_true (decide (p0.vars < 0)) with hc1 | hc1
    ·
      refine s_skip (wk2 hE rfl rfl rfl hc1) rfl rfl hE ?_
      intro a hE
      refine s_skip (wk2 hE rfl rfl rfl hc1) rfl rfl hE ?_
      intro a hE
      refine s_skip (wk2 hE rfl rfl rfl hc1) rfl rfl hE ?_
      intro a hE
      refine s_val (wk0 rfl) rfl rfl hE hp (v := (.bool true)) (ex_pick1 rfl hE rfl hc1 rfl) ?_
      intro a hE
      have hE := hE.eqv (v' := (.bool ((decide (p0.vars < 0)) || (decide (65536 < p0.vars))))) (by rw [hc1]; rfl)
      exact s_nil ⟨hE.cut ⟨rfl, rfl, trivial⟩, hp⟩
    ·
      refine s_val (wk1 hE rfl rfl rfl hc1) rfl rfl hE hp (v := (.pointer (some ⟨b1, 0, none⟩))) (ex_field rfl hE rfl (fldty24_0 _ _)) ?_
      intro a hE
      refine s_val (wk1 hE rfl rfl rfl hc1) rfl rfl hE hp (v := (.int .i64 p0.vars)) (ex_load rfl hE rfl (fun w hw => run_ld1 varty3 (Hp.c 0 rfl 0 rfl w hw))) ?_
      intro a hE
      refine s_val (wk1 hE rfl rfl rfl hc1) rfl rfl hE hp (v := (.bool (decide (65536 < p0.vars)))) (ex_gtr rfl hE rfl rfl) ?_
      intro a hE
      refine s_val (wk0 rfl) rfl rfl hE hp (v := (.bool (decide (65536 < p0.vars)))) (ex_pick0 rfl hE rfl hc1 rfl) ?_
      intro a hE
      have hE := hE.eqv (v' := (.bool ((decide (p0.vars < 0)) || (decide (65536 < p0.vars))))) (by rw [hc1]; rfl)
      exact s_nil ⟨hE.cut ⟨rfl, rfl, trivial⟩, hp⟩
  · rintro a w ⟨hE, hp⟩
    refine s_val (wk0 rfl) rfl rfl hE hp (v := (.bool ((decide (p0.vars < 0)) || (decide (65536 < p0.vars))))) (ex_move rfl hE rfl) ?_
    intro a hE
    refine s_cut [_, _, _, _, _] (fun a w => Env 34 [(17, (.bool (((decide (p0.vars < 0)) || (decide (65536 < p0.vars))) || (decide (262144 < (p0.clauses.length : Int)))))), (1, (.pointer (some ⟨b1, 0, none⟩)))] a ∧ Hp Z ρ (Pt b1 (.cells #[(.int .i64 p0.vars), vp0_clauses] 24 (0, 0)) :: L) w) ?_ ?_
    · rcases Bool.eq_false_or_eq_true ((decide (p0.vars < 0)) || (decide (65536 < p0.vars))) with hc2 | hc2
      ·
        refine s_skip (wk2 hE rfl rfl rfl hc2) rfl rfl hE ?_
        intro a hE
        refine s_skip (wk2 hE rfl rfl rfl hc2) rfl rfl hE ?_
        intro a hE
        refine s_skip (wk2 hE rfl rfl rfl hc2) rfl rfl hE ?_
        intro a hE
        refine s_skip (wk2 hE rfl rfl rfl hc2) rfl rfl hE ?_
        intro a hE
        refine s_val (wk0 rfl) rfl rfl hE hp (v := (.bool true)) (ex_pick1 rfl hE rfl hc2 rfl) ?_
        intro a hE
        have hE := hE.eqv (v' := (.bool (((decide (p0.vars < 0)) || (decide (65536 < p0.vars))) || (decide (262144 < (p0.clauses.length : Int)))))) (by rw [hc2]; rfl)
        exact s_nil ⟨hE.cut ⟨rfl, rfl, trivial⟩, hp⟩
      ·
        refine s_val (wk1 hE rfl rfl rfl hc2) rfl rfl hE hp (v := (.pointer (some ⟨b1, 1, none⟩))) (ex_field rfl hE rfl (fldty24_1 _ _)) ?_
        intro a hE
        refine s_val (wk1 hE rfl rfl rfl hc2) rfl rfl hE hp (v := vp0_clauses) (ex_load rfl hE rfl (fun w hw => run_ld1 varty22 (Hp.c 0 rfl 1 rfl w hw))) ?_
        intro a hE
        refine s_val (wk1 hE rfl rfl rfl hc2) rfl rfl hE hp (v := (.int .i64 (p0.clauses.length : Int))) (ex_len rfl hE rfl (RoSl.len hp0_clauses slty22)) ?_
        intro a hE
        refine s_val (wk1 hE rfl rfl rfl hc2) rfl rfl hE hp (v := (.bool (decide (262144 < (p0.clauses.length : Int))))) (ex_gtr rfl hE rfl rfl) ?_
        intro a hE
        refine s_val (wk0 rfl) rfl rfl hE hp (v := (.bool (decide (262144 < (p0.clauses.length : Int))))) (ex_pick0 rfl hE rfl hc2 rfl) ?_
        intro a hE
        have hE := hE.eqv (v' := (.bool (((decide (p0.vars < 0)) || (decide (65536 < p0.vars))) || (decide (262144 < (p0.clauses.length : Int)))))) (by rw [hc2]; rfl)
        exact s_nil ⟨hE.cut ⟨rfl, rfl, trivial⟩, hp⟩
    · rintro a w ⟨hE, hp⟩
      refine s_nil ?_
      refine k_if hE rfl (fun hc3 => ?_) (fun hc3 => ?_)
      · replace hm := (it hc3).symm.trans hm
        refine k_seq ?_
        refine k_region ?_
        refine s_val (wk0 rfl) rfl rfl hE hp (v := (.bool false)) (ex_asn rfl hE rfl) ?_
        intro a hE
        refine s_nil ?_
        refine k_ret ?_
        obtain rfl := Option.some.inj hm
        exact ret1 hE rfl rfl ⟨_, rfl, rfl, (hp.drop)⟩
      · replace hm := (ie hc3).symm.trans hm
        refine k_skip ?_
        refine k_seq ?_
        refine k_seq ?_
        refine k_region ?_
        refine s_val (wk0 rfl) rfl rfl hE hp (v := (.int .i64 0)) (ex_asn rfl hE rfl) ?_
        intro a hE
        refine s_nil ?_
        obtain ⟨b2, hc4, hm⟩ := bnd hm
        refine k_block (fun a w => ∃ s : Unit, b2 = .brk s ∧ (Env 34 [] a ∧ Hp Z ρ (Pt b1 (.cells #[(.int .i64 p0.vars), vp0_clauses] 24 (0, 0)) :: L) w)) ?_ ?_
        · refine k_loop hc4 (fun s a w => Env 34 [(1, (.pointer (some ⟨b1, 0, none⟩))), (3, (.int .i64 s))] a ∧ Hp Z ρ (Pt b1 (.cells #[(.int .i64 p0.vars), vp0_clauses] 24 (0, 0)) :: L) w) ?_ ?_
          · exact ⟨hE.cut ⟨rfl, rfl, trivial⟩, hp⟩
          · rintro lp1_0 st a w ⟨hE, hp⟩ hl1
            have hE : Env 34 [(1, (.pointer (some ⟨b1, 0, none⟩))), (3, (.int .i64 lp1_0))] a := hE
            have hp : Hp Z ρ (_ :: L) w := hp
            replace hl1 : m_assessorref26_Valid_lp1 p0 lp1_0 = some st := hl1
            unfold m_assessorref26_Valid_lp1 at hl1
            refine k_seq ?_
            refine k_seq ?_
            refine k_region ?_
            refine s_val (wk0 rfl) rfl rfl hE hp (v := (.int .i64 lp1_0)) (ex_move rfl hE rfl) ?_
            intro a hE
            refine s_val (wk0 rfl) rfl rfl hE hp (v := (.pointer (some ⟨b1, 1, none⟩))) (ex_field rfl hE rfl (fldty24_1 _ _)) ?_
            intro a hE
            refine s_val (wk0 rfl) rfl rfl hE hp (v := vp0_clauses) (ex_load rfl hE rfl (fun w hw => run_ld1 varty22 (Hp.c 0 rfl 1 rfl w hw))) ?_
            intro a hE
            refine s_val (wk0 rfl) rfl rfl hE hp (v := (.int .i64 (p0.clauses.length : Int))) (ex_len rfl hE rfl (RoSl.len hp0_clauses slty22)) ?_
            intro a hE
            refine s_val (wk0 rfl) rfl rfl hE hp (v := (.bool (decide (lp1_0 < (p0.clauses.length : Int))))) (ex_lss rfl hE rfl rfl) ?_
            intro a hE
            refine s_nil ?_
            have hE := hE.cut (E' := [(1, (.pointer (some ⟨b1, 0, none⟩))), (3, (.int .i64 lp1_0)), (22, (.bool (decide (lp1_0 < (p0.clauses.length : Int)))))]) ⟨rfl, rfl, rfl, trivial⟩
            refine k_if hE rfl (fun hc5 => ?_) (fun hc5 => ?_)
            · replace hl1 := (it hc5).symm.trans hl1
              refine k_skip ?_
              refine k_seq ?_
              refine k_plain ?_
              refine k_seq ?_
              refine k_quiet (by kernel_rfl) (by kernel_rfl) hp ?_
              refine q_val (wk0 rfl) rfl rfl hE (v := (.pointer (some ⟨b1, 1, none⟩))) (ex_field rfl hE rfl (fldty24_1 _ _)) ?_
              intro a hE
              refine q_val (wk0 rfl) rfl rfl hE (v := vp0_clauses) (ex_load rfl hE rfl (fun w hw => run_ld1 varty22 (Hp.c 0 rfl 1 rfl w hw))) ?_
              intro a hE
              refine q_val (wk0 rfl) rfl rfl hE (v := (.int .i64 lp1_0)) (ex_move rfl hE rfl) ?_
              intro a hE
              obtain ⟨x1, ex1, hl1⟩ := bnd hl1
              obtain ⟨b3, b3o, b3c, b3r, b3k, b3f⟩ := RoSl.at hp0_clauses slty22 ex1
              obtain ⟨vb3, rfl, hb3⟩ := b3k
              have b3f : AtP ρ b3 b3o [vb3] := b3f
              refine q_val (wk0 rfl) rfl rfl hE (v := (.pointer (some ⟨b3, b3o, none⟩))) (ex_index rfl hE rfl rfl b3r) ?_
              intro a hE
              refine q_val (wk0 rfl) rfl rfl hE (v := vb3) (ex_load rfl hE rfl (fun w hw => run_ld1 varty25 (b3f.c 0 rfl w hw))) ?_
              intro a hE
              refine q_val (wk0 rfl) rfl rfl hE (v := (.pointer (some ⟨b1, 0, none⟩))) (ex_field rfl hE rfl (fldty24_0 _ _)) ?_
              intro a hE
              refine q_val (wk0 rfl) rfl rfl hE (v := (.int .i64 p0.vars)) (ex_load rfl hE rfl (fun w hw => run_ld1 varty3 (Hp.c 0 rfl 0 rfl w hw))) ?_
              intro a hE
              obtain ⟨x2, ex2, hl1⟩ := bnd hl1
              refine q_call (wk0 rfl) rfl rfl hE rfl [vb3, (.int .i64 p0.vars)] ⟨rfl, rfl, trivial⟩ ent12 (v := (.bool x2)) (fun w hw => Calls.mono (c_assessorref26_IsClause hT x1 vb3 hb3 p0.vars hw x2 ex2) fun e w' ⟨v, he, hv, hh⟩ => ⟨by rw [he, hv], hh⟩) ?_
              intro a hE
              refine q_val (wk0 rfl) rfl rfl hE (v := (.bool (!x2))) (ex_not rfl hE rfl) ?_
              intro a hE
              refine q_nil fun w hp => ?_
              have hp : Hp Z ρ (_ :: L) w := hp
              refine k_if hE rfl (fun hc6 => ?_) (fun hc6 => ?_)
              · replace hl1 := (it hc6).symm.trans hl1
                refine k_seq ?_
                refine k_region ?_
                refine s_val (wk0 rfl) rfl rfl hE hp (v := (.bool false)) (ex_asn rfl hE rfl) ?_
                intro a hE
                refine s_nil ?_
                refine k_ret ?_
                refine ⟨_, (Option.some.inj hl1).symm, fun hb => ?_⟩
                subst hb
                obtain rfl := Option.some.inj hm
                exact ret1 hE rfl rfl ⟨_, rfl, rfl, (hp.drop)⟩
              · replace hl1 := (ie hc6).symm.trans hl1
                refine k_skip ?_
                refine k_region ?_
                refine s_val (wk0 rfl) rfl rfl hE hp (v := (.int .i64 lp1_0)) (ex_move rfl hE rfl) ?_
                intro a hE
                obtain ⟨x3, ex3, hl1⟩ := bnd hl1
                refine s_val (wk0 rfl) rfl rfl hE hp (v := (.int .i64 x3)) (ex_add rfl hE rfl rfl (inK_some ex3)) ?_
                intro a hE
                refine s_val (wk0 rfl) rfl rfl hE hp (v := (.int .i64 x3)) (ex_asn rfl hE rfl) ?_
                intro a hE
                refine s_nil ?_
                exact ⟨_, (Option.some.inj hl1).symm, hE.cut ⟨rfl, rfl, trivial⟩, hp⟩
            · replace hl1 := (ie hc5).symm.trans hl1
              refine k_exit ?_
              refine ⟨_, (Option.some.inj hl1).symm, fun hbb => ?_⟩
              exact ⟨_, hbb.symm, hE.cut trivial, hp⟩
        · rintro a w ⟨b2s, rfl, hE, hp⟩
          dsimp only at hm
          refine k_seq ?_
          refine k_region ?_
          refine s_val (wk0 rfl) rfl rfl hE hp (v := (.bool true)) (ex_asn rfl hE rfl) ?_
          intro a hE
          refine s_nil ?_
          refine k_ret ?_
          obtain rfl := Option.some.inj hm
          exact ret1 hE rfl rfl ⟨_, rfl, rfl, (hp.drop)⟩
set_option maxRecDepth 100000 in
set_option maxHeartbeats 4000000 in
theorem c_assessorref26_Clauses {Z : World} {ρ : PH} {L : List Atom} {w : World} (hT : Tabs ρ) (p0 : (List (List Int))) (vp0 : Value) (hp0 : RoSl ρ vp0 p0) (p1 : (List (List Int))) (vp1 : Value) (hp1 : RoSl ρ vp1 p1) (hp : Hp Z ρ (L) w) (r : Bool) (hm : m_assessorref26_Clauses p0 p1 = some r) :
    Calls Tryd.prog 21 #[vp0, vp1] w (Ret fun v w' => v = (.bool r) ∧ Hp Z ρ (L) w') := by
  refine enter (N := 53) Tryd.func21 rfl rfl [(0, vp0), (1, vp1)] rfl (argsIn_mem ⟨rfl, rfl, trivial⟩) fun a hE => ?_
  unfold m_assessorref26_Clauses at hm
  refine k_seq ?_
  refine k_region ?_
  refine s_val (wk0 rfl) rfl rfl hE hp (v := (.bool false)) (ex_asn rfl hE rfl) ?_
  intro a hE
  refine s_nil ?_
  refine k_seq ?_
  refine k_seq ?_
  refine k_region ?_
  refine s_val (wk0 rfl) rfl rfl hE hp (v := vp0) (ex_move rfl hE rfl) ?_
  intro a hE
  refine s_val (wk0 rfl) rfl rfl hE hp (v := (.int .i64 (p0.length : Int))) (ex_len rfl hE rfl (RoSl.len hp0 slty22)) ?_
  intro a hE
  refine s_val (wk0 rfl) rfl rfl hE hp (v := vp1) (ex_move rfl hE rfl) ?_
  intro a hE
  refine s_val (wk0 rfl) rfl rfl hE hp (v := (.int .i64 (p1.length : Int))) (ex_len rfl hE rfl (RoSl.len hp1 slty22)) ?_
  intro a hE
  refine s_val (wk0 rfl) rfl rfl hE hp (v := (.bool (!decide ((p0.length : Int) = (p1.length : Int))))) (ex_neq rfl hE rfl rfl) ?_
  intro a hE
  refine s_nil ?_
  refine k_if hE rfl (fun hc1 => ?_) (fun hc1 => ?_)
  · replace hm := (it hc1).symm.trans hm
    refine k_seq ?_
    refine k_region ?_
    refine s_val (wk0 rfl) rfl rfl hE hp (v := (.bool false)) (ex_asn rfl hE rfl) ?_
    intro a hE
    refine s_nil ?_
    refine k_ret ?_
    obtain rfl := Option.some.inj hm
    exact ret1 hE rfl rfl ⟨_, rfl, rfl, hp⟩
  · replace hm := (ie hc1).symm.trans hm
    refine k_skip ?_
    refine k_seq ?_
    refine k_seq ?_
    refine k_region ?_
    refine s_val (wk0 rfl) rfl rfl hE hp (v := (.int .i64 0)) (ex_asn rfl hE rfl) ?_
    intro a hE
    refine s_nil ?_
    obtain ⟨b1, hc2, hm⟩ := bnd hm
    refine k_block (fun a w => ∃ s : Unit, b1 = .brk s ∧ (Env 53 [] a ∧ Hp Z ρ (L) w)) ?_ ?_
    · refine k_loop hc2 (fun s a w => Env 53 [(0, vp0), (1, vp1), (5, (.int .i64 s))] a ∧ Hp Z ρ (L) w) ?_ ?_
      · exact ⟨hE.cut ⟨rfl, rfl, rfl, trivial⟩, hp⟩
      · rintro lp1_0 st a w ⟨hE, hp⟩ hl1
        have hE : Env 53 [(0, vp0), (1, vp1), (5, (.int .i64 lp1_0))] a := hE
        have hp : Hp Z ρ (L) w := hp
        replace hl1 : m_assessorref26_Clauses_lp1 p0 p1 lp1_0 = some st := hl1
        unfold m_assessorref26_Clauses_lp1 at hl1
        refine k_seq ?_
        refine k_seq ?_
        refine k_region ?_
        refine s_val (wk0 rfl) rfl rfl hE hp (v := (.int .i64 lp1_0)) (ex_move rfl hE rfl) ?_
        intro a hE
        refine s_val (wk0 rfl) rfl rfl hE hp (v := vp0) (ex_move rfl hE rfl) ?_
        intro a hE
        refine s_val (wk0 rfl) rfl rfl hE hp (v := (.int .i64 (p0.length : Int))) (ex_len rfl hE rfl (RoSl.len hp0 slty22)) ?_
        intro a hE
        refine s_val (wk0 rfl) rfl rfl hE hp (v := (.bool (decide (lp1_0 < (p0.length : Int))))) (ex_lss rfl hE rfl rfl) ?_
        intro a hE
        refine s_nil ?_
        refine k_if hE rfl (fun hc3 => ?_) (fun hc3 => ?_)
        · replace hl1 := (it hc3).symm.trans hl1
          refine k_skip ?_
          refine k_seq ?_
          refine k_plain ?_
          refine k_seq ?_
          refine k_seq ?_
          refine k_quiet (by kernel_rfl) (by kernel_rfl) hp ?_
          refine q_val (wk0 rfl) rfl rfl hE (v := vp0) (ex_move rfl hE rfl) ?_
          intro a hE
          refine q_val (wk0 rfl) rfl rfl hE (v := (.int .i64 lp1_0)) (ex_move rfl hE rfl) ?_
          intro a hE
          obtain ⟨x1, ex1, hl1⟩ := bnd hl1
          obtain ⟨b2, b2o, b2c, b2r, b2k, b2f⟩ := RoSl.at hp0 slty22 ex1
          obtain ⟨vb2, rfl, hb2⟩ := b2k
          have b2f : AtP ρ b2 b2o [vb2] := b2f
          refine q_val (wk0 rfl) rfl rfl hE (v := (.pointer (some ⟨b2, b2o, none⟩))) (ex_index rfl hE rfl rfl b2r) ?_
          intro a hE
          refine q_val (wk0 rfl) rfl rfl hE (v := vb2) (ex_load rfl hE rfl (fun w hw => run_ld1 varty25 (b2f.c 0 rfl w hw))) ?_
          intro a hE
          refine q_val (wk0 rfl) rfl rfl hE (v := (.int .i64 (x1.length : Int))) (ex_len rfl hE rfl (RoSl.len hb2 slty25)) ?_
          intro a hE
          refine q_val (wk0 rfl) rfl rfl hE (v := vp1) (ex_move rfl hE rfl) ?_
          intro a hE
          refine q_val (wk0 rfl) rfl rfl hE (v := (.int .i64 lp1_0)) (ex_move rfl hE rfl) ?_
          intro a hE
          obtain ⟨x2, ex2, hl1⟩ := bnd hl1
          obtain ⟨b3, b3o, b3c, b3r, b3k, b3f⟩ := RoSl.at hp1 slty22 ex2
          obtain ⟨vb3, rfl, hb3⟩ := b3k
          have b3f : AtP ρ b3 b3o [vb3] := b3f
          refine q_val (wk0 rfl) rfl rfl hE (v := (.pointer (some ⟨b3, b3o, none⟩))) (ex_index rfl hE rfl rfl b3r) ?_
          intro a hE
          refine q_val (wk0 rfl) rfl rfl hE (v := vb3) (ex_load rfl hE rfl (fun w hw => run_ld1 varty25 (b3f.c 0 rfl w hw))) ?_
          intro a hE
          refine q_val (wk0 rfl) rfl rfl hE (v := (.int .i64 (x2.length : Int))) (ex_len rfl hE rfl (RoSl.len hb3 slty25)) ?_
          intro a hE
          refine q_val (wk0 rfl) rfl rfl hE (v := (.bool (!decide ((x1.length : Int) = (x2.length : Int))))) (ex_neq rfl hE rfl rfl) ?_
          intro a hE
          refine q_nil fun w hp => ?_
          have hp : Hp Z ρ (L) w := hp
          have hE := hE.cut (E' := [(0, vp0), (1, vp1), (5, (.int .i64 lp1_0)), (28, (.bool (!decide ((x1.length : Int) = (x2.length : Int)))))]) ⟨rfl, rfl, rfl, rfl, trivial⟩
          refine k_if hE rfl (fun hc4 => ?_) (fun hc4 => ?_)
          · replace hl1 := (it hc4).symm.trans hl1
            refine k_seq ?_
            refine k_region ?_
            refine s_val (wk0 rfl) rfl rfl hE hp (v := (.bool false)) (ex_asn rfl hE rfl) ?_
            intro a hE
            refine s_nil ?_
            refine k_ret ?_
            refine ⟨_, (Option.some.inj hl1).symm, fun hb => ?_⟩
            subst hb
            obtain rfl := Option.some.inj hm
            exact ret1 hE rfl rfl ⟨_, rfl, rfl, hp⟩
          · replace hl1 := (ie hc4).symm.trans hl1
            refine k_skip ?_
            refine k_seq ?_
            refine k_region ?_
            refine s_val (wk0 rfl) rfl rfl hE hp (v := (.int .i64 0)) (ex_asn rfl hE rfl) ?_
            intro a hE
            refine s_nil ?_
            obtain ⟨b4, hc5, hl1⟩ := bnd hl1
            refine k_block (fun a w => ∃ s : Unit, b4 = .brk s ∧ (Env 53 [(0, vp0), (1, vp1), (5, (.int .i64 lp1_0))] a ∧ Hp Z ρ (L) w)) ?_ ?_
            · refine k_loop hc5 (fun s a w => Env 53 [(0, vp0), (1, vp1), (5, (.int .i64 lp1_0)), (6, (.int .i64 s))] a ∧ Hp Z ρ (L) w) ?_ ?_
              · exact ⟨hE.cut ⟨rfl, rfl, rfl, rfl, trivial⟩, hp⟩
              · rintro lp2_0 st a w ⟨hE, hp⟩ hl2
                have hE : Env 53 [(0, vp0), (1, vp1), (5, (.int .i64 lp1_0)), (6, (.int .i64 lp2_0))] a := hE
                have hp : Hp Z ρ (L) w := hp
                replace hl2 : m_assessorref26_Clauses_lp2 p0 p1 lp1_0 lp2_0 = some st := hl2
                unfold m_assessorref26_Clauses_lp2 at hl2
                refine k_seq ?_
                refine k_seq ?_
                refine k_region ?_
                refine s_val (wk0 rfl) rfl rfl hE hp (v := (.int .i64 lp2_0)) (ex_move rfl hE rfl) ?_
                intro a hE
                refine s_val (wk0 rfl) rfl rfl hE hp (v := vp0) (ex_move rfl hE rfl) ?_
                intro a hE
                refine s_val (wk0 rfl) rfl rfl hE hp (v := (.int .i64 lp1_0)) (ex_move rfl hE rfl) ?_
                intro a hE
                obtain ⟨x3, ex3, hl2⟩ := bnd hl2
                obtain ⟨b5, b5o, b5c, b5r, b5k, b5f⟩ := RoSl.at hp0 slty22 ex3
                obtain ⟨vb5, rfl, hb5⟩ := b5k
                have b5f : AtP ρ b5 b5o [vb5] := b5f
                refine s_val (wk0 rfl) rfl rfl hE hp (v := (.pointer (some ⟨b5, b5o, none⟩))) (ex_index rfl hE rfl rfl b5r) ?_
                intro a hE
                refine s_val (wk0 rfl) rfl rfl hE hp (v := vb5) (ex_load rfl hE rfl (fun w hw => run_ld1 varty25 (b5f.c 0 rfl w hw))) ?_
                intro a hE
                refine s_val (wk0 rfl) rfl rfl hE hp (v := (.int .i64 (x3.length : Int))) (ex_len rfl hE rfl (RoSl.len hb5 slty25)) ?_
                intro a hE
                refine s_val (wk0 rfl) rfl rfl hE hp (v := (.bool (decide (lp2_0 < (x3.length : Int))))) (ex_lss rfl hE rfl rfl) ?_
                intro a hE
                refine s_nil ?_
                refine k_if hE rfl (fun hc6 => ?_) (fun hc6 => ?_)
                · replace hl2 := (it hc6).symm.trans hl2
                  refine k_skip ?_
                  refine k_seq ?_
                  refine k_plain ?_
                  refine k_seq ?_
                  refine k_quiet (by kernel_rfl) (by kernel_rfl) hp ?_
                  refine q_val (wk0 rfl) rfl rfl hE (v := vp0) (ex_move rfl hE rfl) ?_
                  intro a hE
                  refine q_val (wk0 rfl) rfl rfl hE (v := (.int .i64 lp1_0)) (ex_move rfl hE rfl) ?_
                  intro a hE
                  obtain ⟨x4, ex4, hl2⟩ := bnd hl2
                  obtain ⟨b6, b6o, b6c, b6r, b6k, b6f⟩ := RoSl.at hp0 slty22 ex4
                  obtain ⟨vb6, rfl, hb6⟩ := b6k
                  have b6f : AtP ρ b6 b6o [vb6] := b6f
                  refine q_val (wk0 rfl) rfl rfl hE (v := (.pointer (some ⟨b6, b6o, none⟩))) (ex_index rfl hE rfl rfl b6r) ?_
                  intro a hE
                  refine q_val (wk0 rfl) rfl rfl hE (v := vb6) (ex_load rfl hE rfl (fun w hw => run_ld1 varty25 (b6f.c 0 rfl w hw))) ?_
                  intro a hE
                  refine q_val (wk0 rfl) rfl rfl hE (v := (.int .i64 lp2_0)) (ex_move rfl hE rfl) ?_
                  intro a hE
                  obtain ⟨x5, ex5, hl2⟩ := bnd hl2
                  obtain ⟨b7, b7o, b7c, b7r, b7k, b7f⟩ := RoSl.at hb6 slty25 ex5
                  obtain rfl : b7c = Enc.enc x5 := b7k
                  have b7f : AtP ρ b7 b7o [(.int .i64 x5)] := b7f
                  refine q_val (wk0 rfl) rfl rfl hE (v := (.pointer (some ⟨b7, b7o, none⟩))) (ex_index rfl hE rfl rfl b7r) ?_
                  intro a hE
                  refine q_val (wk0 rfl) rfl rfl hE (v := (.int .i64 x5)) (ex_load rfl hE rfl (fun w hw => run_ld1 varty3 (b7f.c 0 rfl w hw))) ?_
                  intro a hE
                  refine q_val (wk0 rfl) rfl rfl hE (v := vp1) (ex_move rfl hE rfl) ?_
                  intro a hE
                  refine q_val (wk0 rfl) rfl rfl hE (v := (.int .i64 lp1_0)) (ex_move rfl hE rfl) ?_
                  intro a hE
                  obtain ⟨x6, ex6, hl2⟩ := bnd hl2
                  obtain ⟨b8, b8o, b8c, b8r, b8k, b8f⟩ := RoSl.at hp1 slty22 ex6
                  obtain ⟨vb8, rfl, hb8⟩ := b8k
                  have b8f : AtP ρ b8 b8o [vb8] := b8f
                  refine q_val (wk0 rfl) rfl rfl hE (v := (.pointer (some ⟨b8, b8o, none⟩))) (ex_index rfl hE rfl rfl b8r) ?_
                  intro a hE
                  refine q_val (wk0 rfl) rfl rfl hE (v := vb8) (ex_load rfl hE rfl (fun w hw => run_ld1 varty25 (b8f.c 0 rfl w hw))) ?_
                  intro a hE
                  refine q_val (wk0 rfl) rfl rfl hE (v := (.int .i64 lp2_0)) (ex_move rfl hE rfl) ?_
                  intro a hE
                  obtain ⟨x7, ex7, hl2⟩ := bnd hl2
                  obtain ⟨b9, b9o, b9c, b9r, b9k, b9f⟩ := RoSl.at hb8 slty25 ex7
                  obtain rfl : b9c = Enc.enc x7 := b9k
                  have b9f : AtP ρ b9 b9o [(.int .i64 x7)] := b9f
                  refine q_val (wk0 rfl) rfl rfl hE (v := (.pointer (some ⟨b9, b9o, none⟩))) (ex_index rfl hE rfl rfl b9r) ?_
                  intro a hE
                  refine q_val (wk0 rfl) rfl rfl hE (v := (.int .i64 x7)) (ex_load rfl hE rfl (fun w hw => run_ld1 varty3 (b9f.c 0 rfl w hw))) ?_
                  intro a hE
                  refine q_val (wk0 rfl) rfl rfl hE (v := (.bool (!decide (x5 = x7)))) (ex_neq rfl hE rfl rfl) ?_
                  intro a hE
                  refine q_nil fun w hp => ?_
                  have hp : Hp Z ρ (L) w := hp
                  have hE := hE.cut (E' := [(0, vp0), (1, vp1), (5, (.int .i64 lp1_0)), (6, (.int .i64 lp2_0)), (52, (.bool (!decide (x5 = x7))))]) ⟨rfl, rfl, rfl, rfl, rfl, trivial⟩
                  refine k_if hE rfl (fun hc7 => ?_) (fun hc7 => ?_)
                  · replace hl2 := (it hc7).symm.trans hl2
                    refine k_seq ?_
                    refine k_region ?_
                    refine s_val (wk0 rfl) rfl rfl hE hp (v := (.bool false)) (ex_asn rfl hE rfl) ?_
                    intro a hE
                    refine s_nil ?_
                    refine k_ret ?_
                    refine ⟨_, (Option.some.inj hl2).symm, fun hb => ?_⟩
                    subst hb
                    refine ⟨_, (Option.some.inj hl1).symm, fun hb => ?_⟩
                    subst hb
                    obtain rfl := Option.some.inj hm
                    exact ret1 hE rfl rfl ⟨_, rfl, rfl, hp⟩
                  · replace hl2 := (ie hc7).symm.trans hl2
                    refine k_skip ?_
                    refine k_region ?_
                    refine s_val (wk0 rfl) rfl rfl hE hp (v := (.int .i64 lp2_0)) (ex_move rfl hE rfl) ?_
                    intro a hE
                    obtain ⟨x8, ex8, hl2⟩ := bnd hl2
                    refine s_val (wk0 rfl) rfl rfl hE hp (v := (.int .i64 x8)) (ex_add rfl hE rfl rfl (inK_some ex8)) ?_
                    intro a hE
                    refine s_val (wk0 rfl) rfl rfl hE hp (v := (.int .i64 x8)) (ex_asn rfl hE rfl) ?_
                    intro a hE
                    refine s_nil ?_
                    exact ⟨_, (Option.some.inj hl2).symm, hE.cut ⟨rfl, rfl, rfl, rfl, trivial⟩, hp⟩
                · replace hl2 := (ie hc6).symm.trans hl2
                  refine k_exit ?_
                  refine ⟨_, (Option.some.inj hl2).symm, fun hbb => ?_⟩
                  exact ⟨_, hbb.symm, hE.cut ⟨rfl, rfl, rfl, trivial⟩, hp⟩
            · rintro a w ⟨b4s, rfl, hE, hp⟩
              dsimp only at hl1
              refine k_region ?_
              refine s_val (wk0 rfl) rfl rfl hE hp (v := (.int .i64 lp1_0)) (ex_move rfl hE rfl) ?_
              intro a hE
              obtain ⟨x9, ex9, hl1⟩ := bnd hl1
              refine s_val (wk0 rfl) rfl rfl hE hp (v := (.int .i64 x9)) (ex_add rfl hE rfl rfl (inK_some ex9)) ?_
              intro a hE
              refine s_val (wk0 rfl) rfl rfl hE hp (v := (.int .i64 x9)) (ex_asn rfl hE rfl) ?_
              intro a hE
              refine s_nil ?_
              exact ⟨_, (Option.some.inj hl1).symm, hE.cut ⟨rfl, rfl, rfl, trivial⟩, hp⟩
        · replace hl1 := (ie hc3).symm.trans hl1
          refine k_exit ?_
          refine ⟨_, (Option.some.inj hl1).symm, fun hbb => ?_⟩
          exact ⟨_, hbb.symm, hE.cut trivial, hp⟩
    · rintro a w ⟨b1s, rfl, hE, hp⟩
      dsimp only at hm
      refine k_seq ?_
      refine k_region ?_
      refine s_val (wk0 rfl) rfl rfl hE hp (v := (.bool true)) (ex_asn rfl hE rfl) ?_
      intro a hE
      refine s_nil ?_
      refine k_ret ?_
      obtain rfl := Option.some.inj hm
      exact ret1 hE rfl rfl ⟨_, rfl, rfl, hp⟩
set_option maxRecDepth 100000 in
set_option maxHeartbeats 4000000 in
theorem c_assessorref26_Small {Z : World} {ρ : PH} {L : List Atom} {w : World} (hT : Tabs ρ) (p0 : Formula) (vp0_clauses : Value) (hp0_clauses : RoSl ρ vp0_clauses p0.clauses) (p1 : Int) (p2 : Int) (hp : Hp Z ρ (L) w) (r : Bool) (hm : m_assessorref26_Small p0 p1 p2 = some r) :
    Calls Tryd.prog 9 #[(.agg #[(.int .i64 p0.vars), vp0_clauses]), (.int .i64 p1), (.int .i64 p2)] w (Ret fun v w' => v = (.bool r) ∧ Hp Z ρ (L) w') := by
  refine enter (N := 33) Tryd.func9 rfl rfl [(0, (.agg #[(.int .i64 p0.vars), vp0_clauses])), (1, (.int .i64 p1)), (2, (.int .i64 p2))] rfl (argsIn_mem ⟨rfl, rfl, rfl, trivial⟩) fun a hE => ?_
  unfold m_assessorref26_Small at hm
  refine k_seq ?_
  refine k_region ?_
  refine s_box (wk0 rfl) rfl rfl hE hp rfl (v := (.agg #[(.int .i64 p0.vars), vp0_clauses])) rfl ?_
  intro a w b1 hE hp
  have hp : Hp Z ρ (Pt b1 (.cells #[(.int .i64 p0.vars), vp0_clauses] 24 (0, 0)) :: L) w := hp
  refine s_val (wk0 rfl) rfl rfl hE hp (v := (.bool false)) (ex_asn rfl hE rfl) ?_
  intro a hE
  refine s_nil ?_
  refine k_seq ?_
  refine k_seq ?_
  refine k_region ?_
  refine s_val (wk0 rfl) rfl rfl hE hp (v := (.int .i64 0)) (ex_asn rfl hE rfl) ?_
  intro a hE
  refine s_nil ?_
  obtain ⟨b2, hc1, hm⟩ := bnd hm
  refine k_block (fun a w => ∃ s : Unit, b2 = .brk s ∧ (Env 33 [(1, (.int .i64 p1)), (2, (.int .i64 p2)), (3, (.pointer (some ⟨b1, 0, none⟩)))] a ∧ Hp Z ρ (Pt b1 (.cells #[(.int .i64 p0.vars), vp0_clauses] 24 (0, 0)) :: L) w)) ?_ ?_
  · refine k_loop hc1 (fun s a w => Env 33 [(1, (.int .i64 p1)), (2, (.int .i64 p2)), (3, (.pointer (some ⟨b1, 0, none⟩))), (7, (.int .i64 s))] a ∧ Hp Z ρ (Pt b1 (.cells #[(.int .i64 p0.vars), vp0_clauses] 24 (0, 0)) :: L) w) ?_ ?_
    · exact ⟨hE.cut ⟨rfl, rfl, rfl, rfl, trivial⟩, hp⟩
    · rintro lp1_0 st a w ⟨hE, hp⟩ hl1
      have hE : Env 33 [(1, (.int .i64 p1)), (2, (.int .i64 p2)), (3, (.pointer (some ⟨b1, 0, none⟩))), (7, (.int .i64 lp1_0))] a := hE
      have hp : Hp Z ρ (_ :: L) w := hp
      replace hl1 : m_assessorref26_Small_lp1 p0 lp1_0 = some st := hl1
      unfold m_assessorref26_Small_lp1 at hl1
      refine k_seq ?_
      refine k_seq ?_
      refine k_region ?_
      refine s_val (wk0 rfl) rfl rfl hE hp (v := (.int .i64 lp1_0)) (ex_move rfl hE rfl) ?_
      intro a hE
      refine s_val (wk0 rfl) rfl rfl hE hp (v := (.pointer (some ⟨b1, 1, none⟩))) (ex_field rfl hE rfl (fldty24_1 _ _)) ?_
      intro a hE
      refine s_val (wk0 rfl) rfl rfl hE hp (v := vp0_clauses) (ex_load rfl hE rfl (fun w hw => run_ld1 varty22 (Hp.c 0 rfl 1 rfl w hw))) ?_
      intro a hE
      refine s_val (wk0 rfl) rfl rfl hE hp (v := (.int .i64 (p0.clauses.length : Int))) (ex_len rfl hE rfl (RoSl.len hp0_clauses slty22)) ?_
      intro a hE
      refine s_val (wk0 rfl) rfl rfl hE hp (v := (.bool (decide (lp1_0 < (p0.clauses.length : Int))))) (ex_lss rfl hE rfl rfl) ?_
      intro a hE
      refine s_nil ?_
      refine k_if hE rfl (fun hc2 => ?_) (fun hc2 => ?_)
      · replace hl1 := (it hc2).symm.trans hl1
        refine k_skip ?_
        refine k_seq ?_
        refine k_plain ?_
        refine k_seq ?_
        refine k_region ?_
        refine s_val (wk0 rfl) rfl rfl hE hp (v := (.pointer (some ⟨b1, 1, none⟩))) (ex_field rfl hE rfl (fldty24_1 _ _)) ?_
        intro a hE
        refine s_val (wk0 rfl) rfl rfl hE hp (v := vp0_clauses) (ex_load rfl hE rfl (fun w hw => run_ld1 varty22 (Hp.c 0 rfl 1 rfl w hw))) ?_
        intro a hE
        refine s_val (wk0 rfl) rfl rfl hE hp (v := (.int .i64 lp1_0)) (ex_move rfl hE rfl) ?_
        intro a hE
        obtain ⟨x1, ex1, hl1⟩ := bnd hl1
        obtain ⟨b3, b3o, b3c, b3r, b3k, b3f⟩ := RoSl.at hp0_clauses slty22 ex1
        obtain ⟨vb3, rfl, hb3⟩ := b3k
        have b3f : AtP ρ b3 b3o [vb3] := b3f
        refine s_val (wk0 rfl) rfl rfl hE hp (v := (.pointer (some ⟨b3, b3o, none⟩))) (ex_index rfl hE rfl rfl b3r) ?_
        intro a hE
        refine s_val (wk0 rfl) rfl rfl hE hp (v := vb3) (ex_load rfl hE rfl (fun w hw => run_ld1 varty25 (b3f.c 0 rfl w hw))) ?_
        intro a hE
        refine s_val (wk0 rfl) rfl rfl hE hp (v := (.int .i64 (x1.length : Int))) (ex_len rfl hE rfl (RoSl.len hb3 slty25)) ?_
        intro a hE
        refine s_val (wk0 rfl) rfl rfl hE hp (v := (.bool (decide (30 < (x1.length : Int))))) (ex_gtr rfl hE rfl rfl) ?_
        intro a hE
        refine s_nil ?_
        have hE := hE.cut (E' := [(1, (.int .i64 p1)), (2, (.int .i64 p2)), (3, (.pointer (some ⟨b1, 0, none⟩))), (7, (.int .i64 lp1_0)), (21, (.bool (decide (30 < (x1.length : Int)))))]) ⟨rfl, rfl, rfl, rfl, rfl, trivial⟩
        refine k_if hE rfl (fun hc3 => ?_) (fun hc3 => ?_)
        · replace hl1 := (it hc3).symm.trans hl1
          refine k_seq ?_
          refine k_region ?_
          refine s_val (wk0 rfl) rfl rfl hE hp (v := (.bool false)) (ex_asn rfl hE rfl) ?_
          intro a hE
          refine s_nil ?_
          refine k_ret ?_
          refine ⟨_, (Option.some.inj hl1).symm, fun hb => ?_⟩
          subst hb
          obtain rfl := Option.some.inj hm
          exact ret1 hE rfl rfl ⟨_, rfl, rfl, (hp.drop)⟩
        · replace hl1 := (ie hc3).symm.trans hl1
          refine k_skip ?_
          refine k_region ?_
          refine s_val (wk0 rfl) rfl rfl hE hp (v := (.int .i64 lp1_0)) (ex_move rfl hE rfl) ?_
          intro a hE
          obtain ⟨x2, ex2, hl1⟩ := bnd hl1
          refine s_val (wk0 rfl) rfl rfl hE hp (v := (.int .i64 x2)) (ex_add rfl hE rfl rfl (inK_some ex2)) ?_
          intro a hE
          refine s_val (wk0 rfl) rfl rfl hE hp (v := (.int .i64 x2)) (ex_asn rfl hE rfl) ?_
          intro a hE
          refine s_nil ?_
          exact ⟨_, (Option.some.inj hl1).symm, hE.cut ⟨rfl, rfl, rfl, rfl, trivial⟩, hp⟩
      · replace hl1 := (ie hc2).symm.trans hl1
        refine k_exit ?_
        refine ⟨_, (Option.some.inj hl1).symm, fun hbb => ?_⟩
        exact ⟨_, hbb.symm, hE.cut ⟨rfl, rfl, rfl, trivial⟩, hp⟩
  · rintro a w ⟨b2s, rfl, hE, hp⟩
    dsimp only at hm
    refine k_seq ?_
    refine k_region ?_
    refine s_val (wk0 rfl) rfl rfl hE hp (v := (.pointer (some ⟨b1, 0, none⟩))) (ex_field rfl hE rfl (fldty24_0 _ _)) ?_
    intro a hE
    refine s_val (wk0 rfl) rfl rfl hE hp (v := (.int .i64 p0.vars)) (ex_load rfl hE rfl (fun w hw => run_ld1 varty3 (Hp.c 0 rfl 0 rfl w hw))) ?_
    intro a hE
    refine s_val (wk0 rfl) rfl rfl hE hp (v := (.int .i64 p1)) (ex_move rfl hE rfl) ?_
    intro a hE
    refine s_val (wk0 rfl) rfl rfl hE hp (v := (.bool (decide (p0.vars ≤ p1)))) (ex_leq rfl hE rfl rfl) ?_
    intro a hE
    refine s_val (wk0 rfl) rfl rfl hE hp (v := (.bool (decide (p0.vars ≤ p1)))) (ex_move rfl hE rfl) ?_
    intro a hE
    refine s_cut [_, _, _, _, _, _] (fun a w => Env 33 [(32, (.bool ((decide (p0.vars ≤ p1)) && (decide ((p0.clauses.length : Int) ≤ p2)))))] a ∧ Hp Z ρ (Pt b1 (.cells #[(.int .i64 p0.vars), vp0_clauses] 24 (0, 0)) :: L) w) ?_ ?_
    · rcases Bool.eq_false_or_eq_true (decide (p0.vars ≤ p1)) with hc4 | hc4
      ·
        refine s_val (wk1 hE rfl rfl rfl hc4) rfl rfl hE hp (v := (.pointer (some ⟨b1, 1, none⟩))) (ex_field rfl hE rfl (fldty24_1 _ _)) ?_
        intro a hE
        refine s_val (wk1 hE rfl rfl rfl hc4) rfl rfl hE hp (v := vp0_clauses) (ex_load rfl hE rfl (fun w hw => run_ld1 varty22 (Hp.c 0 rfl 1 rfl w hw))) ?_
        intro a hE
        refine s_val (wk1 hE rfl rfl rfl hc4) rfl rfl hE hp (v := (.int .i64 (p0.clauses.length : Int))) (ex_len rfl hE rfl (RoSl.len hp0_clauses slty22)) ?_
        intro a hE
        refine s_val (wk1 hE rfl rfl rfl hc4) rfl rfl hE hp (v := (.int .i64 p2)) (ex_move rfl hE rfl) ?_
        intro a hE
        refine s_val (wk1 hE rfl rfl rfl hc4) rfl rfl hE hp (v := (.bool (decide ((p0.clauses.length : Int) ≤ p2)))) (ex_leq rfl hE rfl rfl) ?_
        intro a hE
        refine s_val (wk0 rfl) rfl rfl hE hp (v := (.bool (decide ((p0.clauses.length : Int) ≤ p2)))) (ex_pick1 rfl hE rfl hc4 rfl) ?_
        intro a hE
        have hE := hE.eqv (v' := (.bool ((decide (p0.vars ≤ p1)) && (decide ((p0.clauses.length : Int) ≤ p2))))) (by rw [hc4]; rfl)
        exact s_nil ⟨hE.cut ⟨rfl, trivial⟩, hp⟩
      ·
        refine s_skip (wk2 hE rfl rfl rfl hc4) rfl rfl hE ?_
        intro a hE
        refine s_skip (wk2 hE rfl rfl rfl hc4) rfl rfl hE ?_
        intro a hE
        refine s_skip (wk2 hE rfl rfl rfl hc4) rfl rfl hE ?_
        intro a hE
        refine s_skip (wk2 hE rfl rfl rfl hc4) rfl rfl hE ?_
        intro a hE
        refine s_skip (wk2 hE rfl rfl rfl hc4) rfl rfl hE ?_
        intro a hE
        refine s_val (wk0 rfl) rfl rfl hE hp (v := (.bool false)) (ex_pick0 rfl hE rfl hc4 rfl) ?_
        intro a hE
        have hE := hE.eqv (v' := (.bool ((decide (p0.vars ≤ p1)) && (decide ((p0.clauses.length : Int) ≤ p2))))) (by rw [hc4]; rfl)
        exact s_nil ⟨hE.cut ⟨rfl, trivial⟩, hp⟩
    · rintro a w ⟨hE, hp⟩
      refine s_val (wk0 rfl) rfl rfl hE hp (v := (.bool ((decide (p0.vars ≤ p1)) && (decide ((p0.clauses.length : Int) ≤ p2))))) (ex_asn rfl hE rfl) ?_
      intro a hE
      refine s_nil ?_
      refine k_ret ?_
      obtain rfl := Option.some.inj hm
      exact ret1 hE rfl rfl ⟨_, rfl, rfl, (hp.drop)⟩
set_option maxRecDepth 100000 in
set_option maxHeartbeats 4000000 in
theorem c_assessorref26_Closure {Z : World} {ρ : PH} {L : List Atom} {w : World} (hT : Tabs ρ) (p0 : Formula) (vp0_clauses : Value) (hp0_clauses : RoSl ρ vp0_clauses p0.clauses) (p1 : (List Int)) (vp1 : Value) (hp1 : RoSl ρ vp1 p1) (hp : Hp Z ρ (L) w) (r : ((List Int) × Bool)) (hm : m_assessorref26_Closure p0 p1 = some r) :
    Calls Tryd.prog 34 #[(.agg #[(.int .i64 p0.vars), vp0_clauses]), vp1] w (Ret fun v w' => ∃ (vr1 : Value), v = .tuple #[vr1, (.bool r.2)] ∧ Hp Z ρ (OwnSl 3 vr1 r.1 :: L) w') := by
  refine enter (N := 106) Tryd.func34 rfl rfl [(0, (.agg #[(.int .i64 p0.vars), vp0_clauses])), (1, vp1)] rfl (argsIn_mem ⟨rfl, rfl, trivial⟩) fun a hE => ?_
  unfold m_assessorref26_Closure at hm
  refine k_seq ?_
  refine k_region ?_
  refine s_box (wk0 rfl) rfl rfl hE hp rfl (v := (.agg #[(.int .i64 p0.vars), vp0_clauses])) rfl ?_
  intro a w b1 hE hp
  have hp : Hp Z ρ (Pt b1 (.cells #[(.int .i64 p0.vars), vp0_clauses] 24 (0, 0)) :: L) w := hp
  refine s_val (wk0 rfl) rfl rfl hE hp (v := (.slice none 0 0)) (ex_asn rfl hE rfl) ?_
  intro a hE
  refine s_val (wk0 rfl) rfl rfl hE hp (v := (.bool false)) (ex_asn rfl hE rfl) ?_
  intro a hE
  refine s_nil ?_
  refine k_seq ?_
  refine k_region ?_
  refine s_val (wk0 rfl) rfl rfl hE hp (v := (.pointer (some ⟨b1, 0, none⟩))) (ex_field rfl hE rfl (fldty24_0 _ _)) ?_
  intro a hE
  refine s_val (wk0 rfl) rfl rfl hE hp (v := (.int .i64 p0.vars)) (ex_load rfl hE rfl (fun w hw => run_ld1 varty3 (Hp.c 0 rfl 0 rfl w hw))) ?_
  intro a hE
  obtain ⟨x1, ex1, hm⟩ := bnd hm
  refine s_val (wk0 rfl) rfl rfl hE hp (v := (.int .i64 x1)) (ex_add rfl hE rfl rfl (inK_some ex1)) ?_
  intro a hE
  obtain ⟨x2, ex2, hm⟩ := bnd hm
  refine s_make (wk0 rfl) rfl rfl hE hp rfl (El := 3) (bytes := 8) (by kernel_rfl) (0 : Int) (by kernel_rfl) (by kernel_rfl) rfl rfl ex2 ?_
  intro v1 a w hE hp
  have hp : Hp Z ρ (OwnSl 3 v1 x2 :: _ :: L) w := hp
  refine s_val (wk0 rfl) rfl rfl hE hp (v := v1) (ex_asn rfl hE rfl) ?_
  intro a hE
  refine s_nil ?_
  refine k_seq ?_
  refine k_seq ?_
  refine k_region ?_
  refine s_val (wk0 rfl) rfl rfl hE hp (v := (.int .i64 0)) (ex_asn rfl hE rfl) ?_
  intro a hE
  refine s_nil ?_
  obtain ⟨b2, hc1, hm⟩ := bnd hm
  refine k_block (fun a w => ∃ s : (List Int), b2 = .brk s ∧ (∃ (w3 : Value), Env 106 [(2, (.pointer (some ⟨b1, 0, none⟩))), (6, w3)] a ∧ Hp Z ρ (OwnSl 3 w3 s :: Pt b1 (.cells #[(.int .i64 p0.vars), vp0_clauses] 24 (0, 0)) :: L) w)) ?_ ?_
  · refine k_loop hc1 (fun s a w => ∃ (w3 : Value), Env 106 [(1, vp1), (2, (.pointer (some ⟨b1, 0, none⟩))), (6, w3), (7, (.int .i64 s.1))] a ∧ Hp Z ρ (OwnSl 3 w3 s.2 :: Pt b1 (.cells #[(.int .i64 p0.vars), vp0_clauses] 24 (0, 0)) :: L) w) ?_ ?_
    · exact ⟨_, hE.cut ⟨rfl, rfl, rfl, rfl, trivial⟩, hp⟩
    · rintro ⟨lp1_0, lp1_1⟩ st a w ⟨w3, hE, hp⟩ hl1
      have hE : Env 106 [(1, vp1), (2, (.pointer (some ⟨b1, 0, none⟩))), (6, w3), (7, (.int .i64 lp1_0))] a := hE
      have hp : Hp Z ρ (OwnSl 3 w3 lp1_1 :: _ :: L) w := hp
      replace hl1 : m_assessorref26_Closure_lp1 p1 lp1_0 lp1_1 = some st := hl1
      unfold m_assessorref26_Closure_lp1 at hl1
      refine k_seq ?_
      refine k_seq ?_
      refine k_region ?_
      refine s_val (wk0 rfl) rfl rfl hE hp (v := (.int .i64 lp1_0)) (ex_move rfl hE rfl) ?_
      intro a hE
      refine s_val (wk0 rfl) rfl rfl hE hp (v := vp1) (ex_move rfl hE rfl) ?_
      intro a hE
      refine s_val (wk0 rfl) rfl rfl hE hp (v := (.int .i64 (p1.length : Int))) (ex_len rfl hE rfl (RoSl.len hp1 slty25)) ?_
      intro a hE
      refine s_val (wk0 rfl) rfl rfl hE hp (v := (.bool (decide (lp1_0 < (p1.length : Int))))) (ex_lss rfl hE rfl rfl) ?_
      intro a hE
      refine s_nil ?_
      refine k_if hE rfl (fun hc2 => ?_) (fun hc2 => ?_)
      · replace hl1 := (it hc2).symm.trans hl1
        refine k_skip ?_
        refine k_seq ?_
        refine k_plain ?_
        refine k_seq ?_
        refine k_seq ?_
        refine k_quiet (by kernel_rfl) (by kernel_rfl) hp ?_
        refine q_val (wk0 rfl) rfl rfl hE (v := w3) (ex_move rfl hE rfl) ?_
        intro a hE
        refine q_val (wk0 rfl) rfl rfl hE (v := vp1) (ex_move rfl hE rfl) ?_
        intro a hE
        refine q_val (wk0 rfl) rfl rfl hE (v := (.int .i64 lp1_0)) (ex_move rfl hE rfl) ?_
        intro a hE
        obtain ⟨x3, ex3, hl1⟩ := bnd hl1
        obtain ⟨b3, b3o, b3c, b3r, b3k, b3f⟩ := RoSl.at hp1 slty25 ex3
        obtain rfl : b3c = Enc.enc x3 := b3k
        have b3f : AtP ρ b3 b3o [(.int .i64 x3)] := b3f
        refine q_val (wk0 rfl) rfl rfl hE (v := (.pointer (some ⟨b3, b3o, none⟩))) (ex_index rfl hE rfl rfl b3r) ?_
        intro a hE
        refine q_val (wk0 rfl) rfl rfl hE (v := (.int .i64 x3)) (ex_load rfl hE rfl (fun w hw => run_ld1 varty3 (b3f.c 0 rfl w hw))) ?_
        intro a hE
        obtain ⟨x4, ex4, hl1⟩ := bnd hl1
        refine q_call (wk0 rfl) rfl rfl hE rfl [(.int .i64 x3)] ⟨rfl, trivial⟩ ent33 (v := (.int .i64 x4)) (fun w hw => Calls.mono (c_assessorref26_Variable hT x3 hw x4 ex4) fun e w' ⟨v, he, hv, hh⟩ => ⟨by rw [he, hv], hh⟩) ?_
        intro a hE
        obtain ⟨x5, ex5, hl1⟩ := bnd hl1
        obtain ⟨b4, b4o, b4r, b4v, b4f⟩ := OwnSl.at hp 0 rfl slty25 ex5
        have b4f : ∀ (j : Nat) (u : Value), ([(.int .i64 x5)] : List Value)[j]? = some u → ∀ ρ' L' w, Hp Z ρ' (OwnSl 3 w3 lp1_1 :: L') w → w.cell? ⟨b4, b4o + j, none⟩ = some u := b4f
        refine q_val (wk0 rfl) rfl rfl hE (v := (.pointer (some ⟨b4, b4o, none⟩))) (ex_index rfl hE rfl rfl b4r) ?_
        intro a hE
        refine q_val (wk0 rfl) rfl rfl hE (v := (.int .i64 x5)) (ex_load rfl hE rfl (fun w hw => run_ld1 varty3 (b4f 0 _ rfl _ _ w (hw.get 0 rfl)))) ?_
        intro a hE
        refine q_val (wk0 rfl) rfl rfl hE (v := vp1) (ex_move rfl hE rfl) ?_
        intro a hE
        refine q_val (wk0 rfl) rfl rfl hE (v := (.int .i64 lp1_0)) (ex_move rfl hE rfl) ?_
        intro a hE
        obtain ⟨x6, ex6, hl1⟩ := bnd hl1
        obtain ⟨b5, b5o, b5c, b5r, b5k, b5f⟩ := RoSl.at hp1 slty25 ex6
        obtain rfl : b5c = Enc.enc x6 := b5k
        have b5f : AtP ρ b5 b5o [(.int .i64 x6)] := b5f
        refine q_val (wk0 rfl) rfl rfl hE (v := (.pointer (some ⟨b5, b5o, none⟩))) (ex_index rfl hE rfl rfl b5r) ?_
        intro a hE
        refine q_val (wk0 rfl) rfl rfl hE (v := (.int .i64 x6)) (ex_load rfl hE rfl (fun w hw => run_ld1 varty3 (b5f.c 0 rfl w hw))) ?_
        intro a hE
        obtain ⟨x7, ex7, hl1⟩ := bnd hl1
        refine q_val (wk0 rfl) rfl rfl hE (v := (.int .i64 x7)) (ex_neg rfl hE rfl (inK_some ex7)) ?_
        intro a hE
        refine q_val (wk0 rfl) rfl rfl hE (v := (.bool (decide (x5 = x7)))) (ex_eql rfl hE rfl rfl) ?_
        intro a hE
        refine q_nil fun w hp => ?_
        have hp : Hp Z ρ (_ :: _ :: L) w := hp
        have hE := hE.cut (E' := [(1, vp1), (2, (.pointer (some ⟨b1, 0, none⟩))), (6, w3), (7, (.int .i64 lp1_0)), (38, (.bool (decide (x5 = x7))))]) ⟨rfl, rfl, rfl, rfl, rfl, trivial⟩
        refine k_if hE rfl (fun hc3 => ?_) (fun hc3 => ?_)
        · replace hl1 := (it hc3).symm.trans hl1
          refine k_seq ?_
          refine k_region ?_
          refine s_val (wk0 rfl) rfl rfl hE hp (v := w3) (ex_move rfl hE rfl) ?_
          intro a hE
          refine s_val (wk0 rfl) rfl rfl hE hp (v := w3) (ex_asn rfl hE rfl) ?_
          intro a hE
          refine s_val (wk0 rfl) rfl rfl hE hp (v := (.bool false)) (ex_asn rfl hE rfl) ?_
          intro a hE
          refine s_nil ?_
          refine k_ret ?_
          refine ⟨_, (Option.some.inj hl1).symm, fun hb => ?_⟩
          subst hb
          obtain rfl := Option.some.inj hm
          exact ret2 hE rfl rfl rfl ⟨_, rfl, _, rfl, ((hp.get 1 rfl).drop)⟩
        · replace hl1 := (ie hc3).symm.trans hl1
          refine k_skip ?_
          obtain ⟨x8, ex8, hl1⟩ := bnd hl1
          obtain ⟨x9, ex9, hl1⟩ := bnd hl1
          obtain ⟨x10, ex10, hl1⟩ := bnd hl1
          obtain ⟨x11, ex11, hl1⟩ := bnd hl1
          have hp := hp.drew
          refine k_heldV ([([], At0 Z ρ)] : Facts) (fun a w => Env 106 [(1, vp1), (2, (.pointer (some ⟨b1, 0, none⟩))), (6, w3), (7, (.int .i64 lp1_0))] a ∧ Hp Z ρ (OwnSl 3 w3 (lp1_1.set x9.toNat x10) :: Pt b1 (.cells #[(.int .i64 p0.vars), vp0_clauses] 24 (0, 0)) :: L) w) (by kernel_rfl) ⟨fun _ => ⟨_, hp⟩, trivial⟩ (fun hS => ?_) ?_
          ·
            generalize w.drew = w at hS hp ⊢
            refine v_take0 0 (wk0 rfl) rfl rfl rfl hE (by kernel_rfl) (by kernel_rfl) (by kernel_rfl) rfl (by kernel_rfl) hS (v := w3) (fun _ => ex_move rfl hE rfl) ?_
            intro a hE hS
            refine v_take0 1 (wk0 rfl) rfl rfl rfl hE (by kernel_rfl) (by kernel_rfl) (by kernel_rfl) rfl (by kernel_rfl) hS (v := vp1) (fun _ => ex_move rfl hE rfl) ?_
            intro a hE hS
            refine v_take0 2 (wk0 rfl) rfl rfl rfl hE (by kernel_rfl) (by kernel_rfl) (by kernel_rfl) rfl (by kernel_rfl) hS (v := (.int .i64 lp1_0)) (fun _ => ex_move rfl hE rfl) ?_
            intro a hE hS
            obtain ⟨b9, b9o, b9c, b9r, b9k, b9f⟩ := RoSl.at hp1 slty25 ex8
            obtain rfl : b9c = Enc.enc x8 := b9k
            have b9f : AtP ρ b9 b9o [(.int .i64 x8)] := b9f
            refine v_take0 3 (wk0 rfl) rfl rfl rfl hE (by kernel_rfl) (by kernel_rfl) (by kernel_rfl) rfl (by kernel_rfl) hS (v := (.pointer (some ⟨b9, b9o, none⟩))) (fun _ => ex_index rfl hE rfl rfl b9r) ?_
            intro a hE hS
            refine v_take0 4 (wk0 rfl) rfl rfl rfl hE (by kernel_rfl) (by kernel_rfl) (by kernel_rfl) rfl (by kernel_rfl) hS (v := (.int .i64 x8)) (fun _ => ex_load rfl hE rfl (fun w hw => run_ld1 varty3 (b9f.c 0 rfl w hw))) ?_
            intro a hE hS
            refine v_take0 6 (wk0 rfl) rfl rfl rfl hE (by kernel_rfl) (by kernel_rfl) (by kernel_rfl) rfl (by kernel_rfl) hS (v := vp1) (fun _ => ex_move rfl hE rfl) ?_
            intro a hE hS
            refine v_take0 7 (wk0 rfl) rfl rfl rfl hE (by kernel_rfl) (by kernel_rfl) (by kernel_rfl) rfl (by kernel_rfl) hS (v := (.int .i64 lp1_0)) (fun _ => ex_move rfl hE rfl) ?_
            intro a hE hS
            obtain ⟨b10, b10o, b10c, b10r, b10k, b10f⟩ := RoSl.at hp1 slty25 ex10
            obtain rfl : b10c = Enc.enc x10 := b10k
            have b10f : AtP ρ b10 b10o [(.int .i64 x10)] := b10f
            refine v_take0 8 (wk0 rfl) rfl rfl rfl hE (by kernel_rfl) (by kernel_rfl) (by kernel_rfl) rfl (by kernel_rfl) hS (v := (.pointer (some ⟨b10, b10o, none⟩))) (fun _ => ex_index rfl hE rfl rfl b10r) ?_
            intro a hE hS
            refine v_take0 9 (wk0 rfl) rfl rfl rfl hE (by kernel_rfl) (by kernel_rfl) (by kernel_rfl) rfl (by kernel_rfl) hS (v := (.int .i64 x10)) (fun _ => ex_load rfl hE rfl (fun w hw => run_ld1 varty3 (b10f.c 0 rfl w hw))) ?_
            intro a hE hS
            refine v_all [5] (by kernel_rfl) rfl ?_
            refine List.forall_mem_cons.2 ⟨?_, fun _ h => absurd h (by simp)⟩
            ·
              refine h_op rfl ?_
              refine s_call (wk0 rfl) rfl rfl hE rfl [(.int .i64 x8)] ⟨rfl, trivial⟩ ent33 (c_assessorref26_Variable hT x8 hp x9 ex9) Ret.ret ?_
              intro v a w hR hE
              obtain ⟨rfl, hp⟩ := Ret.of hR
              have hp : Hp Z ρ (_ :: _ :: L) w := hp
              refine s_nil (and_with ⟨fun _ => ⟨_, hp⟩, trivial⟩ fun hS => ?_)
              obtain ⟨b11, b11o, b11r, b11v, b11f⟩ := OwnSl.at hp 0 rfl slty25 ex11
              have b11f : ∀ (j : Nat) (u : Value), ([(.int .i64 x11)] : List Value)[j]? = some u → ∀ ρ' L' w, Hp Z ρ' (OwnSl 3 w3 lp1_1 :: L') w → w.cell? ⟨b11, b11o + j, none⟩ = some u := b11f
              refine v_take0 10 (wk0 rfl) rfl rfl rfl hE (by kernel_rfl) (by kernel_rfl) (by kernel_rfl) rfl (by kernel_rfl) hS (v := (.pointer (some ⟨b11, b11o, none⟩))) (fun _ => ex_index rfl hE rfl rfl b11r) ?_
              intro a hE hS
              refine v_all [11] (by kernel_rfl) rfl ?_
              refine List.forall_mem_cons.2 ⟨?_, fun _ h => absurd h (by simp)⟩
              ·
                refine h_op rfl ?_
                refine s_stel (wk0 rfl) rfl hE hp rfl rfl rfl 0 rfl ex11 b11v 0 (e' := x10) varty3.size_ rfl rfl rfl ⟨rfl, rfl⟩ ?_
                intro w hp
                have hp : Hp Z ρ (OwnSl 3 w3 (lp1_1.set x9.toNat x10) :: _ :: L) w := hp
                refine s_nil (and_with ⟨fun _ => ⟨_, hp⟩, trivial⟩ fun hS => ?_)
                exact v_done (by kernel_rfl) ⟨hE.cut ⟨rfl, rfl, rfl, rfl, trivial⟩, hp⟩
          · rintro a w ⟨hE, hp⟩
            refine k_region ?_
            refine s_val (wk0 rfl) rfl rfl hE hp (v := (.int .i64 lp1_0)) (ex_move rfl hE rfl) ?_
            intro a hE
            obtain ⟨x12, ex12, hl1⟩ := bnd hl1
            refine s_val (wk0 rfl) rfl rfl hE hp (v := (.int .i64 x12)) (ex_add rfl hE rfl rfl (inK_some ex12)) ?_
            intro a hE
            refine s_val (wk0 rfl) rfl rfl hE hp (v := (.int .i64 x12)) (ex_asn rfl hE rfl) ?_
            intro a hE
            refine s_nil ?_
            exact ⟨_, (Option.some.inj hl1).symm, _, hE.cut ⟨rfl, rfl, rfl, rfl, trivial⟩, hp⟩
      · replace hl1 := (ie hc2).symm.trans hl1
        refine k_exit ?_
        refine ⟨_, (Option.some.inj hl1).symm, fun hbb => ?_⟩
        exact ⟨_, hbb.symm, _, hE.cut ⟨rfl, rfl, trivial⟩, hp⟩
  · rintro a w ⟨b2s, rfl, w3, hE, hp⟩
    dsimp only at hm
    refine k_seq ?_
    refine k_seq ?_
    refine k_region ?_
    refine s_val (wk0 rfl) rfl rfl hE hp (v := (.bool true)) (ex_asn rfl hE rfl) ?_
    intro a hE
    refine s_nil ?_
    obtain ⟨b12, hc4, hm⟩ := bnd hm
    refine k_block (fun a w => ∃ s : (List Int), b12 = .brk s ∧ (∃ (w3 : Value), Env 106 [(6, w3)] a ∧ Hp Z ρ (OwnSl 3 w3 s :: Pt b1 (.cells #[(.int .i64 p0.vars), vp0_clauses] 24 (0, 0)) :: L) w)) ?_ ?_
    · refine k_loop hc4 (fun s a w => ∃ (w3 : Value), Env 106 [(2, (.pointer (some ⟨b1, 0, none⟩))), (6, w3), (8, (.bool s.1))] a ∧ Hp Z ρ (OwnSl 3 w3 s.2 :: Pt b1 (.cells #[(.int .i64 p0.vars), vp0_clauses] 24 (0, 0)) :: L) w) ?_ ?_
      · exact ⟨_, hE.cut ⟨rfl, rfl, rfl, trivial⟩, hp⟩
      · rintro ⟨lp2_0, lp2_1⟩ st a w ⟨w3, hE, hp⟩ hl2
        have hE : Env 106 [(2, (.pointer (some ⟨b1, 0, none⟩))), (6, w3), (8, (.bool lp2_0))] a := hE
        have hp : Hp Z ρ (OwnSl 3 w3 lp2_1 :: _ :: L) w := hp
        replace hl2 : m_assessorref26_Closure_lp2 p0 lp2_0 lp2_1 = some st := hl2
        unfold m_assessorref26_Closure_lp2 at hl2
        refine k_seq ?_
        refine k_seq ?_
        refine k_region ?_
        refine s_val (wk0 rfl) rfl rfl hE hp (v := (.bool lp2_0)) (ex_move rfl hE rfl) ?_
        intro a hE
        refine s_nil ?_
        refine k_if hE rfl (fun hc5 => ?_) (fun hc5 => ?_)
        · replace hl2 := (it hc5).symm.trans hl2
          refine k_skip ?_
          refine k_plain ?_
          refine k_seq ?_
          refine k_region ?_
          refine s_val (wk0 rfl) rfl rfl hE hp (v := (.bool false)) (ex_asn rfl hE rfl) ?_
          intro a hE
          refine s_nil ?_
          refine k_seq ?_
          refine k_region ?_
          refine s_val (wk0 rfl) rfl rfl hE hp (v := (.int .i64 0)) (ex_asn rfl hE rfl) ?_
          intro a hE
          refine s_nil ?_
          obtain ⟨b13, hc6, hl2⟩ := bnd hl2
          refine k_block (fun a w => ∃ s : (Bool × (List Int)), b13 = .brk s ∧ (∃ (w3 : Value), Env 106 [(2, (.pointer (some ⟨b1, 0, none⟩))), (6, w3), (8, (.bool s.1))] a ∧ Hp Z ρ (OwnSl 3 w3 s.2 :: Pt b1 (.cells #[(.int .i64 p0.vars), vp0_clauses] 24 (0, 0)) :: L) w)) ?_ ?_
          · refine k_loop hc6 (fun s a w => ∃ (w3 : Value), Env 106 [(2, (.pointer (some ⟨b1, 0, none⟩))), (6, w3), (8, (.bool s.1)), (9, (.int .i64 s.2.1))] a ∧ Hp Z ρ (OwnSl 3 w3 s.2.2 :: Pt b1 (.cells #[(.int .i64 p0.vars), vp0_clauses] 24 (0, 0)) :: L) w) ?_ ?_
            · exact ⟨_, hE.cut ⟨rfl, rfl, rfl, rfl, trivial⟩, hp⟩
            · rintro ⟨lp3_0, lp3_1, lp3_2⟩ st a w ⟨w3, hE, hp⟩ hl3
              have hE : Env 106 [(2, (.pointer (some ⟨b1, 0, none⟩))), (6, w3), (8, (.bool lp3_0)), (9, (.int .i64 lp3_1))] a := hE
              have hp : Hp Z ρ (OwnSl 3 w3 lp3_2 :: _ :: L) w := hp
              replace hl3 : m_assessorref26_Closure_lp3 p0 lp3_0 lp3_1 lp3_2 = some st := hl3
              unfold m_assessorref26_Closure_lp3 at hl3
              refine k_seq ?_
              refine k_seq ?_
              refine k_region ?_
              refine s_val (wk0 rfl) rfl rfl hE hp (v := (.int .i64 lp3_1)) (ex_move rfl hE rfl) ?_
              intro a hE
              refine s_val (wk0 rfl) rfl rfl hE hp (v := (.pointer (some ⟨b1, 1, none⟩))) (ex_field rfl hE rfl (fldty24_1 _ _)) ?_
              intro a hE
              refine s_val (wk0 rfl) rfl rfl hE hp (v := vp0_clauses) (ex_load rfl hE rfl (fun w hw => run_ld1 varty22 (Hp.c 1 rfl 1 rfl w hw))) ?_
              intro a hE
              refine s_val (wk0 rfl) rfl rfl hE hp (v := (.int .i64 (p0.clauses.length : Int))) (ex_len rfl hE rfl (RoSl.len hp0_clauses slty22)) ?_
              intro a hE
              refine s_val (wk0 rfl) rfl rfl hE hp (v := (.bool (decide (lp3_1 < (p0.clauses.length : Int))))) (ex_lss rfl hE rfl rfl) ?_
              intro a hE
              refine s_nil ?_
              have hE := hE.cut (E' := [(2, (.pointer (some ⟨b1, 0, none⟩))), (6, w3), (8, (.bool lp3_0)), (9, (.int .i64 lp3_1)), (56, (.bool (decide (lp3_1 < (p0.clauses.length : Int)))))]) ⟨rfl, rfl, rfl, rfl, rfl, trivial⟩
              refine k_if hE rfl (fun hc7 => ?_) (fun hc7 => ?_)
              · replace hl3 := (it hc7).symm.trans hl3
                refine k_skip ?_
                refine k_seq ?_
                obtain ⟨j1, hj1, hl3⟩ := bnd hl3
                refine k_block (fun a w => ∃ s : (Bool × (List Int)), j1 = .brk s ∧ (∃ (w3 : Value), Env 106 [(2, (.pointer (some ⟨b1, 0, none⟩))), (6, w3), (8, (.bool s.1)), (9, (.int .i64 lp3_1))] a ∧ Hp Z ρ (OwnSl 3 w3 s.2 :: Pt b1 (.cells #[(.int .i64 p0.vars), vp0_clauses] 24 (0, 0)) :: L) w)) ?_ ?_
                ·
                  refine k_seq ?_
                  refine k_region ?_
                  refine s_val (wk0 rfl) rfl rfl hE hp (v := (.pointer (some ⟨b1, 1, none⟩))) (ex_field rfl hE rfl (fldty24_1 _ _)) ?_
                  intro a hE
                  refine s_val (wk0 rfl) rfl rfl hE hp (v := vp0_clauses) (ex_load rfl hE rfl (fun w hw => run_ld1 varty22 (Hp.c 1 rfl 1 rfl w hw))) ?_
                  intro a hE
                  refine s_val (wk0 rfl) rfl rfl hE hp (v := (.int .i64 lp3_1)) (ex_move rfl hE rfl) ?_
                  intro a hE
                  obtain ⟨x13, ex13, hj1⟩ := bnd hj1
                  obtain ⟨b14, b14o, b14c, b14r, b14k, b14f⟩ := RoSl.at hp0_clauses slty22 ex13
                  obtain ⟨vb14, rfl, hb14⟩ := b14k
                  have b14f : AtP ρ b14 b14o [vb14] := b14f
                  refine s_val (wk0 rfl) rfl rfl hE hp (v := (.pointer (some ⟨b14, b14o, none⟩))) (ex_index rfl hE rfl rfl b14r) ?_
                  intro a hE
                  refine s_val (wk0 rfl) rfl rfl hE hp (v := vb14) (ex_load rfl hE rfl (fun w hw => run_ld1 varty25 (b14f.c 0 rfl w hw))) ?_
                  intro a hE
                  refine s_val (wk0 rfl) rfl rfl hE hp (v := vb14) (ex_asn rfl hE rfl) ?_
                  intro a hE
                  refine s_nil ?_
                  refine k_seq ?_
                  refine k_region ?_
                  refine s_val (wk0 rfl) rfl rfl hE hp (v := (.int .i64 0)) (ex_asn rfl hE rfl) ?_
                  intro a hE
                  refine s_val (wk0 rfl) rfl rfl hE hp (v := (.int .i64 0)) (ex_asn rfl hE rfl) ?_
                  intro a hE
                  refine s_val (wk0 rfl) rfl rfl hE hp (v := (.bool false)) (ex_asn rfl hE rfl) ?_
                  intro a hE
                  refine s_nil ?_
                  have hE := hE.cut (E' := [(2, (.pointer (some ⟨b1, 0, none⟩))), (6, w3), (8, (.bool lp3_0)), (9, (.int .i64 lp3_1)), (10, vb14), (11, (.int .i64 0)), (12, (.int .i64 0)), (13, (.bool false))]) ⟨rfl, rfl, rfl, rfl, rfl, rfl, rfl, rfl, trivial⟩
                  refine k_seq ?_
                  refine k_seq ?_
                  refine k_region ?_
                  refine s_val (wk0 rfl) rfl rfl hE hp (v := (.int .i64 0)) (ex_asn rfl hE rfl) ?_
                  intro a hE
                  refine s_nil ?_
                  obtain ⟨b15, hc8, hj1⟩ := bnd hj1
                  refine k_block (fun a w => Env 106 [(2, (.pointer (some ⟨b1, 0, none⟩))), (6, w3), (8, (.bool lp3_0)), (9, (.int .i64 lp3_1)), (11, (.int .i64 b15.1)), (12, (.int .i64 b15.2.1)), (13, (.bool b15.2.2))] a ∧ Hp Z ρ (OwnSl 3 w3 lp3_2 :: Pt b1 (.cells #[(.int .i64 p0.vars), vp0_clauses] 24 (0, 0)) :: L) w) ?_ ?_
                  · refine k_loop hc8 (fun s a w => Env 106 [(2, (.pointer (some ⟨b1, 0, none⟩))), (6, w3), (8, (.bool lp3_0)), (9, (.int .i64 lp3_1)), (10, vb14), (11, (.int .i64 s.1)), (12, (.int .i64 s.2.1)), (13, (.bool s.2.2.1)), (14, (.int .i64 s.2.2.2))] a ∧ Hp Z ρ (OwnSl 3 w3 lp3_2 :: Pt b1 (.cells #[(.int .i64 p0.vars), vp0_clauses] 24 (0, 0)) :: L) w) ?_ ?_
                    · exact ⟨hE.cut ⟨rfl, rfl, rfl, rfl, rfl, rfl, rfl, rfl, rfl, trivial⟩, hp⟩
                    · rintro ⟨lp4_0, lp4_1, lp4_2, lp4_3⟩ st a w ⟨hE, hp⟩ hl4
                      have hE : Env 106 [(2, (.pointer (some ⟨b1, 0, none⟩))), (6, w3), (8, (.bool lp3_0)), (9, (.int .i64 lp3_1)), (10, vb14), (11, (.int .i64 lp4_0)), (12, (.int .i64 lp4_1)), (13, (.bool lp4_2)), (14, (.int .i64 lp4_3))] a := hE
                      have hp : Hp Z ρ (_ :: _ :: L) w := hp
                      replace hl4 : m_assessorref26_Closure_lp4 lp3_2 x13 lp4_0 lp4_1 lp4_2 lp4_3 = some st := hl4
                      unfold m_assessorref26_Closure_lp4 at hl4
                      refine k_seq ?_
                      refine k_seq ?_
                      refine k_region ?_
                      refine s_val (wk0 rfl) rfl rfl hE hp (v := (.int .i64 lp4_3)) (ex_move rfl hE rfl) ?_
                      intro a hE
                      refine s_val (wk0 rfl) rfl rfl hE hp (v := vb14) (ex_move rfl hE rfl) ?_
                      intro a hE
                      refine s_val (wk0 rfl) rfl rfl hE hp (v := (.int .i64 (x13.length : Int))) (ex_len rfl hE rfl (RoSl.len hb14 slty25)) ?_
                      intro a hE
                      refine s_val (wk0 rfl) rfl rfl hE hp (v := (.bool (decide (lp4_3 < (x13.length : Int))))) (ex_lss rfl hE rfl rfl) ?_
                      intro a hE
                      refine s_nil ?_
                      refine k_if hE rfl (fun hc9 => ?_) (fun hc9 => ?_)
                      · replace hl4 := (it hc9).symm.trans hl4
                        refine k_skip ?_
                        refine k_seq ?_
                        refine k_plain ?_
                        refine k_seq ?_
                        refine k_region ?_
                        refine s_val (wk0 rfl) rfl rfl hE hp (v := w3) (ex_move rfl hE rfl) ?_
                        intro a hE
                        refine s_val (wk0 rfl) rfl rfl hE hp (v := vb14) (ex_move rfl hE rfl) ?_
                        intro a hE
                        refine s_val (wk0 rfl) rfl rfl hE hp (v := (.int .i64 lp4_3)) (ex_move rfl hE rfl) ?_
                        intro a hE
                        obtain ⟨x14, ex14, hl4⟩ := bnd hl4
                        obtain ⟨b16, b16o, b16c, b16r, b16k, b16f⟩ := RoSl.at hb14 slty25 ex14
                        obtain rfl : b16c = Enc.enc x14 := b16k
                        have b16f : AtP ρ b16 b16o [(.int .i64 x14)] := b16f
                        refine s_val (wk0 rfl) rfl rfl hE hp (v := (.pointer (some ⟨b16, b16o, none⟩))) (ex_index rfl hE rfl rfl b16r) ?_
                        intro a hE
                        refine s_val (wk0 rfl) rfl rfl hE hp (v := (.int .i64 x14)) (ex_load rfl hE rfl (fun w hw => run_ld1 varty3 (b16f.c 0 rfl w hw))) ?_
                        intro a hE
                        obtain ⟨x15, ex15, hl4⟩ := bnd hl4
                        refine s_call (wk0 rfl) rfl rfl hE rfl [(.int .i64 x14)] ⟨rfl, trivial⟩ ent33 (c_assessorref26_Variable hT x14 hp x15 ex15) Ret.ret ?_
                        intro v a w hR hE
                        obtain ⟨rfl, hp⟩ := Ret.of hR
                        have hp : Hp Z ρ (_ :: _ :: L) w := hp
                        obtain ⟨x16, ex16, hl4⟩ := bnd hl4
                        obtain ⟨b17, b17o, b17r, b17v, b17f⟩ := OwnSl.at hp 0 rfl slty25 ex16
                        have b17f : ∀ (j : Nat) (u : Value), ([(.int .i64 x16)] : List Value)[j]? = some u → ∀ ρ' L' w, Hp Z ρ' (OwnSl 3 w3 lp3_2 :: L') w → w.cell? ⟨b17, b17o + j, none⟩ = some u := b17f
                        refine s_val (wk0 rfl) rfl rfl hE hp (v := (.pointer (some ⟨b17, b17o, none⟩))) (ex_index rfl hE rfl rfl b17r) ?_
                        intro a hE
                        refine s_val (wk0 rfl) rfl rfl hE hp (v := (.int .i64 x16)) (ex_load rfl hE rfl (fun w hw => run_ld1 varty3 (b17f 0 _ rfl _ _ w (hw.get 0 rfl)))) ?_
                        intro a hE
                        refine s_nil ?_
                        refine k_plain ?_
                        refine k_seq ?_
                        refine k_region ?_
                        refine s_val (wk0 rfl) rfl rfl hE hp (v := (.bool (decide (x16 = 0)))) (ex_eql rfl hE rfl rfl) ?_
                        intro a hE
                        refine s_val (wk0 rfl) rfl rfl hE hp (v := (.bool (decide (x16 = 0)))) (ex_asn rfl hE rfl) ?_
                        intro a hE
                        refine s_nil ?_
                        refine k_if hE rfl (fun hc10 => ?_) (fun hc10 => ?_)
                        · replace hl4 := (it hc10).symm.trans hl4
                          refine k_quiet (by kernel_rfl) (by kernel_rfl) hp ?_
                          refine q_val (wk0 rfl) rfl rfl hE (v := (.int .i64 lp4_0)) (ex_move rfl hE rfl) ?_
                          intro a hE
                          obtain ⟨x17, ex17, hl4⟩ := bnd hl4
                          refine q_val (wk0 rfl) rfl rfl hE (v := (.int .i64 x17)) (ex_add rfl hE rfl rfl (inK_some ex17)) ?_
                          intro a hE
                          refine q_val (wk0 rfl) rfl rfl hE (v := vb14) (ex_move rfl hE rfl) ?_
                          intro a hE
                          refine q_val (wk0 rfl) rfl rfl hE (v := (.int .i64 lp4_3)) (ex_move rfl hE rfl) ?_
                          intro a hE
                          obtain ⟨x18, ex18, hl4⟩ := bnd hl4
                          obtain ⟨b18, b18o, b18c, b18r, b18k, b18f⟩ := RoSl.at hb14 slty25 ex18
                          obtain rfl : b18c = Enc.enc x18 := b18k
                          have b18f : AtP ρ b18 b18o [(.int .i64 x18)] := b18f
                          refine q_val (wk0 rfl) rfl rfl hE (v := (.pointer (some ⟨b18, b18o, none⟩))) (ex_index rfl hE rfl rfl b18r) ?_
                          intro a hE
                          refine q_val (wk0 rfl) rfl rfl hE (v := (.int .i64 x18)) (ex_load rfl hE rfl (fun w hw => run_ld1 varty3 (b18f.c 0 rfl w hw))) ?_
                          intro a hE
                          refine q_val (wk0 rfl) rfl rfl hE (v := (.int .i64 x17)) (ex_asn rfl hE rfl) ?_
                          intro a hE
                          refine q_val (wk0 rfl) rfl rfl hE (v := (.int .i64 x18)) (ex_asn rfl hE rfl) ?_
                          intro a hE
                          refine q_nil fun w hp => ?_
                          have hp : Hp Z ρ (_ :: _ :: L) w := hp
                          have hE := hE.cut (E' := [(2, (.pointer (some ⟨b1, 0, none⟩))), (6, w3), (8, (.bool lp3_0)), (9, (.int .i64 lp3_1)), (10, vb14), (11, (.int .i64 x17)), (12, (.int .i64 x18)), (13, (.bool lp4_2)), (14, (.int .i64 lp4_3))]) ⟨rfl, rfl, rfl, rfl, rfl, rfl, rfl, rfl, rfl, trivial⟩
                          refine k_region ?_
                          refine s_val (wk0 rfl) rfl rfl hE hp (v := (.int .i64 lp4_3)) (ex_move rfl hE rfl) ?_
                          intro a hE
                          obtain ⟨x19, ex19, hl4⟩ := bnd hl4
                          refine s_val (wk0 rfl) rfl rfl hE hp (v := (.int .i64 x19)) (ex_add rfl hE rfl rfl (inK_some ex19)) ?_
                          intro a hE
                          refine s_val (wk0 rfl) rfl rfl hE hp (v := (.int .i64 x19)) (ex_asn rfl hE rfl) ?_
                          intro a hE
                          refine s_nil ?_
                          exact ⟨_, (Option.some.inj hl4).symm, hE.cut ⟨rfl, rfl, rfl, rfl, rfl, rfl, rfl, rfl, rfl, trivial⟩, hp⟩
                        · replace hl4 := (ie hc10).symm.trans hl4
                          refine k_seq ?_
                          refine k_region ?_
                          refine s_val (wk0 rfl) rfl rfl hE hp (v := vb14) (ex_move rfl hE rfl) ?_
                          intro a hE
                          refine s_val (wk0 rfl) rfl rfl hE hp (v := (.int .i64 lp4_3)) (ex_move rfl hE rfl) ?_
                          intro a hE
                          obtain ⟨x20, ex20, hl4⟩ := bnd hl4
                          obtain ⟨b19, b19o, b19c, b19r, b19k, b19f⟩ := RoSl.at hb14 slty25 ex20
                          obtain rfl : b19c = Enc.enc x20 := b19k
                          have b19f : AtP ρ b19 b19o [(.int .i64 x20)] := b19f
                          refine s_val (wk0 rfl) rfl rfl hE hp (v := (.pointer (some ⟨b19, b19o, none⟩))) (ex_index rfl hE rfl rfl b19r) ?_
                          intro a hE
                          refine s_val (wk0 rfl) rfl rfl hE hp (v := (.int .i64 x20)) (ex_load rfl hE rfl (fun w hw => run_ld1 varty3 (b19f.c 0 rfl w hw))) ?_
                          intro a hE
                          refine s_val (wk0 rfl) rfl rfl hE hp (v := (.bool (decide (x16 = x20)))) (ex_eql rfl hE rfl rfl) ?_
                          intro a hE
                          refine s_val (wk0 rfl) rfl rfl hE hp (v := (.bool (decide (x16 = x20)))) (ex_asn rfl hE rfl) ?_
                          intro a hE
                          refine s_nil ?_
                          refine k_if hE rfl (fun hc11 => ?_) (fun hc11 => ?_)
                          · replace hl4 := (it hc11).symm.trans hl4
                            refine k_region ?_
                            refine s_val (wk0 rfl) rfl rfl hE hp (v := (.bool true)) (ex_asn rfl hE rfl) ?_
                            intro a hE
                            refine s_nil ?_
                            refine k_region ?_
                            refine s_val (wk0 rfl) rfl rfl hE hp (v := (.int .i64 lp4_3)) (ex_move rfl hE rfl) ?_
                            intro a hE
                            obtain ⟨x21, ex21, hl4⟩ := bnd hl4
                            refine s_val (wk0 rfl) rfl rfl hE hp (v := (.int .i64 x21)) (ex_add rfl hE rfl rfl (inK_some ex21)) ?_
                            intro a hE
                            refine s_val (wk0 rfl) rfl rfl hE hp (v := (.int .i64 x21)) (ex_asn rfl hE rfl) ?_
                            intro a hE
                            refine s_nil ?_
                            exact ⟨_, (Option.some.inj hl4).symm, hE.cut ⟨rfl, rfl, rfl, rfl, rfl, rfl, rfl, rfl, rfl, trivial⟩, hp⟩
                          · replace hl4 := (ie hc11).symm.trans hl4
                            refine k_skip ?_
                            refine k_region ?_
                            refine s_val (wk0 rfl) rfl rfl hE hp (v := (.int .i64 lp4_3)) (ex_move rfl hE rfl) ?_
                            intro a hE
                            obtain ⟨x22, ex22, hl4⟩ := bnd hl4
                            refine s_val (wk0 rfl) rfl rfl hE hp (v := (.int .i64 x22)) (ex_add rfl hE rfl rfl (inK_some ex22)) ?_
                            intro a hE
                            refine s_val (wk0 rfl) rfl rfl hE hp (v := (.int .i64 x22)) (ex_asn rfl hE rfl) ?_
                            intro a hE
                            refine s_nil ?_
                            have hE := hE.cut (E' := [(2, (.pointer (some ⟨b1, 0, none⟩))), (6, w3), (8, (.bool lp3_0)), (9, (.int .i64 lp3_1)), (10, vb14), (11, (.int .i64 lp4_0)), (12, (.int .i64 lp4_1)), (13, (.bool lp4_2)), (14, (.int .i64 x22))]) ⟨rfl, rfl, rfl, rfl, rfl, rfl, rfl, rfl, rfl, trivial⟩
                            exact ⟨_, (Option.some.inj hl4).symm, hE.cut ⟨rfl, rfl, rfl, rfl, rfl, rfl, rfl, rfl, rfl, trivial⟩, hp⟩
                      · replace hl4 := (ie hc9).symm.trans hl4
                        refine k_exit ?_
                        refine ⟨_, (Option.some.inj hl4).symm, fun hbb => ?_⟩
                        subst hbb
                        exact ⟨hE.cut ⟨rfl, rfl, rfl, rfl, rfl, rfl, rfl, trivial⟩, hp⟩
                  · rintro a w ⟨hE, hp⟩
                    refine k_seq ?_
                    refine k_seq ?_
                    refine k_region ?_
                    refine s_val (wk0 rfl) rfl rfl hE hp (v := (.bool b15.2.2)) (ex_move rfl hE rfl) ?_
                    intro a hE
                    refine s_val (wk0 rfl) rfl rfl hE hp (v := (.bool b15.2.2)) (ex_move rfl hE rfl) ?_
                    intro a hE
                    refine s_cut [_, _, _] (fun a w => Env 106 [(96, (.bool (b15.2.2 || (decide (1 < b15.1))))), (2, (.pointer (some ⟨b1, 0, none⟩))), (6, w3), (8, (.bool lp3_0)), (9, (.int .i64 lp3_1)), (11, (.int .i64 b15.1)), (12, (.int .i64 b15.2.1))] a ∧ Hp Z ρ (OwnSl 3 w3 lp3_2 :: Pt b1 (.cells #[(.int .i64 p0.vars), vp0_clauses] 24 (0, 0)) :: L) w) ?_ ?_
                    · rcases Bool.eq_false_or_eq_true b15.2.2 with hc12 | hc12
                      ·
                        refine s_skip (wk2 hE rfl rfl rfl hc12) rfl rfl hE ?_
                        intro a hE
                        refine s_skip (wk2 hE rfl rfl rfl hc12) rfl rfl hE ?_
                        intro a hE
                        refine s_val (wk0 rfl) rfl rfl hE hp (v := (.bool true)) (ex_pick1 rfl hE rfl hc12 rfl) ?_
                        intro a hE
                        have hE := hE.eqv (v' := (.bool (b15.2.2 || (decide (1 < b15.1))))) (by rw [hc12]; rfl)
                        exact s_nil ⟨hE.cut ⟨rfl, rfl, rfl, rfl, rfl, rfl, rfl, trivial⟩, hp⟩
                      ·
                        refine s_val (wk1 hE rfl rfl rfl hc12) rfl rfl hE hp (v := (.int .i64 b15.1)) (ex_move rfl hE rfl) ?_
                        intro a hE
                        refine s_val (wk1 hE rfl rfl rfl hc12) rfl rfl hE hp (v := (.bool (decide (1 < b15.1)))) (ex_gtr rfl hE rfl rfl) ?_
                        intro a hE
                        refine s_val (wk0 rfl) rfl rfl hE hp (v := (.bool (decide (1 < b15.1)))) (ex_pick0 rfl hE rfl hc12 rfl) ?_
                        intro a hE
                        have hE := hE.eqv (v' := (.bool (b15.2.2 || (decide (1 < b15.1))))) (by rw [hc12]; rfl)
                        exact s_nil ⟨hE.cut ⟨rfl, rfl, rfl, rfl, rfl, rfl, rfl, trivial⟩, hp⟩
                    · rintro a w ⟨hE, hp⟩
                      refine s_nil ?_
                      refine k_if hE rfl (fun hc13 => ?_) (fun hc13 => ?_)
                      · replace hj1 := (it hc13).symm.trans hj1
                        refine k_exit ?_
                        obtain rfl := Option.some.inj hj1
                        exact ⟨_, rfl, _, hE.cut ⟨rfl, rfl, rfl, rfl, trivial⟩, hp⟩
                      · replace hj1 := (ie hc13).symm.trans hj1
                        refine k_skip ?_
                        refine k_seq ?_
                        refine k_seq ?_
                        refine k_region ?_
                        refine s_val (wk0 rfl) rfl rfl hE hp (v := (.int .i64 b15.1)) (ex_move rfl hE rfl) ?_
                        intro a hE
                        refine s_val (wk0 rfl) rfl rfl hE hp (v := (.bool (decide (b15.1 = 0)))) (ex_eql rfl hE rfl rfl) ?_
                        intro a hE
                        refine s_nil ?_
                        refine k_if hE rfl (fun hc14 => ?_) (fun hc14 => ?_)
                        · replace hj1 := (it hc14).symm.trans hj1
                          refine k_seq ?_
                          refine k_region ?_
                          refine s_val (wk0 rfl) rfl rfl hE hp (v := w3) (ex_move rfl hE rfl) ?_
                          intro a hE
                          refine s_val (wk0 rfl) rfl rfl hE hp (v := w3) (ex_asn rfl hE rfl) ?_
                          intro a hE
                          refine s_val (wk0 rfl) rfl rfl hE hp (v := (.bool false)) (ex_asn rfl hE rfl) ?_
                          intro a hE
                          refine s_nil ?_
                          refine k_ret ?_
                          obtain rfl := Option.some.inj hj1
                          refine ⟨_, (Option.some.inj hl3).symm, fun hb => ?_⟩
                          subst hb
                          refine ⟨_, (Option.some.inj hl2).symm, fun hb => ?_⟩
                          subst hb
                          obtain rfl := Option.some.inj hm
                          exact ret2 hE rfl rfl rfl ⟨_, rfl, _, rfl, ((hp.get 1 rfl).drop)⟩
                        · replace hj1 := (ie hc14).symm.trans hj1
                          refine k_skip ?_
                          refine k_seq ?_
                          refine k_region ?_
                          refine s_val (wk0 rfl) rfl rfl hE hp (v := w3) (ex_move rfl hE rfl) ?_
                          intro a hE
                          refine s_val (wk0 rfl) rfl rfl hE hp (v := (.int .i64 b15.2.1)) (ex_move rfl hE rfl) ?_
                          intro a hE
                          obtain ⟨x23, ex23, hj1⟩ := bnd hj1
                          refine s_call (wk0 rfl) rfl rfl hE rfl [(.int .i64 b15.2.1)] ⟨rfl, trivial⟩ ent33 (c_assessorref26_Variable hT b15.2.1 hp x23 ex23) Ret.ret ?_
                          intro v a w hR hE
                          obtain ⟨rfl, hp⟩ := Ret.of hR
                          have hp : Hp Z ρ (_ :: _ :: L) w := hp
                          refine s_val (wk0 rfl) rfl rfl hE hp (v := (.int .i64 b15.2.1)) (ex_move rfl hE rfl) ?_
                          intro a hE
                          obtain ⟨x24, ex24, hj1⟩ := bnd hj1
                          obtain ⟨b20, b20o, b20r, b20v, b20f⟩ := OwnSl.at hp 0 rfl slty25 ex24
                          have b20f : ∀ (j : Nat) (u : Value), ([(.int .i64 x24)] : List Value)[j]? = some u → ∀ ρ' L' w, Hp Z ρ' (OwnSl 3 w3 lp3_2 :: L') w → w.cell? ⟨b20, b20o + j, none⟩ = some u := b20f
                          refine s_val (wk0 rfl) rfl rfl hE hp (v := (.pointer (some ⟨b20, b20o, none⟩))) (ex_index rfl hE rfl rfl b20r) ?_
                          intro a hE
                          refine s_stel (wk0 rfl) rfl hE hp rfl rfl rfl 0 rfl ex24 b20v 0 (e' := b15.2.1) varty3.size_ rfl rfl rfl ⟨rfl, rfl⟩ ?_
                          intro w hp
                          have hp : Hp Z ρ (OwnSl 3 w3 (lp3_2.set x23.toNat b15.2.1) :: _ :: L) w := hp
                          refine s_nil ?_
                          refine k_region ?_
                          refine s_val (wk0 rfl) rfl rfl hE hp (v := (.bool true)) (ex_asn rfl hE rfl) ?_
                          intro a hE
                          refine s_nil ?_
                          obtain rfl := Option.some.inj hj1
                          exact ⟨_, rfl, _, hE.cut ⟨rfl, rfl, rfl, rfl, trivial⟩, hp⟩
                · rintro a w ⟨j1s, rfl, w3, hE, hp⟩
                  dsimp only at hl3
                  refine k_region ?_
                  refine s_val (wk0 rfl) rfl rfl hE hp (v := (.int .i64 lp3_1)) (ex_move rfl hE rfl) ?_
                  intro a hE
                  obtain ⟨x25, ex25, hl3⟩ := bnd hl3
                  refine s_val (wk0 rfl) rfl rfl hE hp (v := (.int .i64 x25)) (ex_add rfl hE rfl rfl (inK_some ex25)) ?_
                  intro a hE
                  refine s_val (wk0 rfl) rfl rfl hE hp (v := (.int .i64 x25)) (ex_asn rfl hE rfl) ?_
                  intro a hE
                  refine s_nil ?_
                  exact ⟨_, (Option.some.inj hl3).symm, _, hE.cut ⟨rfl, rfl, rfl, rfl, trivial⟩, hp⟩
              · replace hl3 := (ie hc7).symm.trans hl3
                refine k_exit ?_
                refine ⟨_, (Option.some.inj hl3).symm, fun hbb => ?_⟩
                exact ⟨_, hbb.symm, _, hE.cut ⟨rfl, rfl, rfl, trivial⟩, hp⟩
          · rintro a w ⟨b13s, rfl, w3, hE, hp⟩
            dsimp only at hl2
            exact ⟨_, (Option.some.inj hl2).symm, _, hE.cut ⟨rfl, rfl, rfl, trivial⟩, hp⟩
        · replace hl2 := (ie hc5).symm.trans hl2
          refine k_exit ?_
          refine ⟨_, (Option.some.inj hl2).symm, fun hbb => ?_⟩
          exact ⟨_, hbb.symm, _, hE.cut ⟨rfl, trivial⟩, hp⟩
    · rintro a w ⟨b12s, rfl, w3, hE, hp⟩
      dsimp only at hm
      refine k_seq ?_
      refine k_region ?_
      refine s_val (wk0 rfl) rfl rfl hE hp (v := w3) (ex_move rfl hE rfl) ?_
      intro a hE
      refine s_val (wk0 rfl) rfl rfl hE hp (v := w3) (ex_asn rfl hE rfl) ?_
      intro a hE
      refine s_val (wk0 rfl) rfl rfl hE hp (v := (.bool true)) (ex_asn rfl hE rfl) ?_
      intro a hE
      refine s_nil ?_
      refine k_ret ?_
      obtain rfl := Option.some.inj hm
      exact ret2 hE rfl rfl rfl ⟨_, rfl, _, rfl, ((hp.get 1 rfl).drop)⟩
end Go.Proofs.YtfajmelamonolaaDoor

/-
  The code goes as its model: assessor/assessorref52.time, assessor/assessorref52.Valid, assessor/assessorref52.better, assessor/assessorref52.Counting, assessor/assessorref52.Allowed, assessor/assessorref52.Earliest, assessor/assessorref52.Final, assessor/assessorref49.Ints. (Printed by wip/sp/gen.py.)
-/
import Derived.Test.YtmjmoogldbejoaaRM
import Derived.Test.YtmjmoogldbejoaaFct
import Derived.Test.YtmjmoogldbejoaaAS
set_option linter.unusedVariables false
set_option linter.unusedSimpArgs false
namespace Go.Proofs.Ytmjmoogldbejoaa
open Go.RowKit

/- assessor/assessorref52.time -/
set_option maxRecDepth 100000 in
set_option maxHeartbeats 4000000 in
theorem c_assessorref52_time {Z : World} {ρ : PH} {L : List Atom} {w : World} (p0 : Int) (hp : Hp Z ρ (L) w) (r : Bool) (hm : m_assessorref52_time p0 = some r) :
    Calls Try.prog 39 #[(.int .i64 p0)] w (Ret fun v w' => v = (.bool r) ∧ Hp Z ρ (L) w') := by
  refine enter (N := 9) Try.func39 rfl rfl [(0, (.int .i64 p0))] rfl (argsIn_mem ⟨rfl, trivial⟩) fun a hE => ?_
  unfold m_assessorref52_time at hm
  refine k_seq ?_
  refine k_region ?_
  refine s_val (wk0 rfl) rfl rfl hE hp (v := (.bool false)) (ex_asn rfl hE rfl) ?_
  intro a hE
  refine s_nil ?_
  refine k_seq ?_
  refine k_region ?_
  refine s_val (wk0 rfl) rfl rfl hE hp (v := (.int .i64 p0)) (ex_move rfl hE rfl) ?_
  intro a hE
  refine s_val (wk0 rfl) rfl rfl hE hp (v := (.bool (decide (0 ≤ p0)))) (ex_geq rfl hE rfl rfl) ?_
  intro a hE
  refine s_val (wk0 rfl) rfl rfl hE hp (v := (.bool (decide (0 ≤ p0)))) (ex_move rfl hE rfl) ?_
  intro a hE
  refine s_cut [_, _, _] (fun a w => Env 9 [(8, (.bool ((decide (0 ≤ p0)) && (decide (p0 ≤ 1099511627776)))))] a ∧ Hp Z ρ (L) w) ?_ ?_
  · rcases Bool.eq_false_or_eq_true (decide (0 ≤ p0)) with hb1 | hb1
    ·
      refine s_val (wk1 hE rfl rfl rfl hb1) rfl rfl hE hp (v := (.int .i64 p0)) (ex_move rfl hE rfl) ?_
      intro a hE
      refine s_val (wk1 hE rfl rfl rfl hb1) rfl rfl hE hp (v := (.bool (decide (p0 ≤ 1099511627776)))) (ex_leq rfl hE rfl rfl) ?_
      intro a hE
      refine s_val (wk0 rfl) rfl rfl hE hp (v := (.bool (decide (p0 ≤ 1099511627776)))) (ex_pick1 rfl hE rfl hb1 rfl) ?_
      intro a hE
      have hE := hE.eqv (v' := (.bool ((decide (0 ≤ p0)) && (decide (p0 ≤ 1099511627776))))) (by rw [hb1]; rfl)
      exact s_nil ⟨hE.cut ⟨rfl, trivial⟩, hp⟩
    ·
      refine s_skip (wk2 hE rfl rfl rfl hb1) rfl rfl hE ?_
      intro a hE
      refine s_skip (wk2 hE rfl rfl rfl hb1) rfl rfl hE ?_
      intro a hE
      refine s_val (wk0 rfl) rfl rfl hE hp (v := (.bool false)) (ex_pick0 rfl hE rfl hb1 rfl) ?_
      intro a hE
      have hE := hE.eqv (v' := (.bool ((decide (0 ≤ p0)) && (decide (p0 ≤ 1099511627776))))) (by rw [hb1]; rfl)
      exact s_nil ⟨hE.cut ⟨rfl, trivial⟩, hp⟩
  · rintro a w ⟨hE, hp⟩
    refine s_val (wk0 rfl) rfl rfl hE hp (v := (.bool ((decide (0 ≤ p0)) && (decide (p0 ≤ 1099511627776))))) (ex_asn rfl hE rfl) ?_
    intro a hE
    refine s_nil ?_
    refine k_ret ?_
    obtain rfl := Option.some.inj hm
    exact ret1 hE rfl rfl ⟨_, rfl, rfl, hp⟩
/- assessor/assessorref52.Valid -/
set_option maxRecDepth 100000 in
set_option maxHeartbeats 4000000 in
theorem c_assessorref52_Valid {Z : World} {ρ : PH} {L : List Atom} {w : World} (p0 : Rule) (p1 : (List Att)) (vp1 : Value) (hp1 : RoSl ρ vp1 p1) (hp : Hp Z ρ (L) w) (r : Bool) (hm : m_assessorref52_Valid p0 p1 = some r) :
    Calls Try.prog 24 #[(.agg #[(.int .i64 p0.kind), (.int .i64 p0.most), (.int .i64 p0.pause), (.int .i64 p0.keep)]), vp1] w (Ret fun v w' => v = (.bool r) ∧ Hp Z ρ (L) w') := by
  refine enter (N := 109) Try.func24 rfl rfl [(0, (.agg #[(.int .i64 p0.kind), (.int .i64 p0.most), (.int .i64 p0.pause), (.int .i64 p0.keep)])), (1, vp1)] rfl (argsIn_mem ⟨rfl, rfl, trivial⟩) fun a hE => ?_
  unfold m_assessorref52_Valid at hm
  refine k_seq ?_
  refine k_region ?_
  refine s_box (wk0 rfl) rfl rfl hE hp rfl (v := (.agg #[(.int .i64 p0.kind), (.int .i64 p0.most), (.int .i64 p0.pause), (.int .i64 p0.keep)])) rfl ?_
  intro a w b1 hE hp
  have hp : Hp Z ρ (Pt b1 (.cells #[(.int .i64 p0.kind), (.int .i64 p0.most), (.int .i64 p0.pause), (.int .i64 p0.keep)] 23 (0, 0)) :: L) w := hp
  refine s_val (wk0 rfl) rfl rfl hE hp (v := (.bool false)) (ex_asn rfl hE rfl) ?_
  intro a hE
  refine s_nil ?_
  refine k_seq ?_
  refine k_seq ?_
  refine k_region ?_
  refine s_val (wk0 rfl) rfl rfl hE hp (v := (.pointer (some ⟨b1, 0, none⟩))) (ex_field rfl hE rfl (fldty23_0 _ _)) ?_
  intro a hE
  refine s_val (wk0 rfl) rfl rfl hE hp (v := (.int .i64 p0.kind)) (ex_load rfl hE rfl (fun w hw => run_ld1 varty3 (Hp.c 0 rfl 0 rfl w hw))) ?_
  intro a hE
  refine s_val (wk0 rfl) rfl rfl hE hp (v := (.bool (decide (p0.kind < 0)))) (ex_lss rfl hE rfl rfl) ?_
  intro a hE
  refine s_val (wk0 rfl) rfl rfl hE hp (v := (.bool (decide (p0.kind < 0)))) (ex_move rfl hE rfl) ?_
  intro a hE
  refine s_cut [_, _, _, _] (fun a w => Env 109 [(14, (.bool ((decide (p0.kind < 0)) || (decide (2 < p0.kind))))), (1, vp1), (2, (.pointer (some ⟨b1, 0, none⟩)))] a ∧ Hp Z ρ (Pt b1 (.cells #[(.int .i64 p0.kind), (.int .i64 p0.most), (.int .i64 p0.pause), (.int .i64 p0.keep)] 23 (0, 0)) :: L) w) ?_ ?_
  · rcases Bool.eq_false_or_eq_true (decide (p0.kind < 0)) with hb1 | hb1
    ·
      refine s_skip (wk2 hE rfl rfl rfl hb1) rfl rfl hE ?_
      intro a hE
      refine s_skip (wk2 hE rfl rfl rfl hb1) rfl rfl hE ?_
      intro a hE
      refine s_skip (wk2 hE rfl rfl rfl hb1) rfl rfl hE ?_
      intro a hE
      refine s_val (wk0 rfl) rfl rfl hE hp (v := (.bool true)) (ex_pick1 rfl hE rfl hb1 rfl) ?_
      intro a hE
      have hE := hE.eqv (v' := (.bool ((decide (p0.kind < 0)) || (decide (2 < p0.kind))))) (by rw [hb1]; rfl)
      exact s_nil ⟨hE.cut ⟨rfl, rfl, rfl, trivial⟩, hp⟩
    ·
      refine s_val (wk1 hE rfl rfl rfl hb1) rfl rfl hE hp (v := (.pointer (some ⟨b1, 0, none⟩))) (ex_field rfl hE rfl (fldty23_0 _ _)) ?_
      intro a hE
      refine s_val (wk1 hE rfl rfl rfl hb1) rfl rfl hE hp (v := (.int .i64 p0.kind)) (ex_load rfl hE rfl (fun w hw => run_ld1 varty3 (Hp.c 0 rfl 0 rfl w hw))) ?_
      intro a hE
      refine s_val (wk1 hE rfl rfl rfl hb1) rfl rfl hE hp (v := (.bool (decide (2 < p0.kind)))) (ex_gtr rfl hE rfl rfl) ?_
      intro a hE
      refine s_val (wk0 rfl) rfl rfl hE hp (v := (.bool (decide (2 < p0.kind)))) (ex_pick0 rfl hE rfl hb1 rfl) ?_
      intro a hE
      have hE := hE.eqv (v' := (.bool ((decide (p0.kind < 0)) || (decide (2 < p0.kind))))) (by rw [hb1]; rfl)
      exact s_nil ⟨hE.cut ⟨rfl, rfl, rfl, trivial⟩, hp⟩
  · rintro a w ⟨hE, hp⟩
    refine s_val (wk0 rfl) rfl rfl hE hp (v := (.bool ((decide (p0.kind < 0)) || (decide (2 < p0.kind))))) (ex_move rfl hE rfl) ?_
    intro a hE
    refine s_cut [_, _, _, _] (fun a w => Env 109 [(19, (.bool (((decide (p0.kind < 0)) || (decide (2 < p0.kind))) || (decide (p0.most < 1))))), (1, vp1), (2, (.pointer (some ⟨b1, 0, none⟩)))] a ∧ Hp Z ρ (Pt b1 (.cells #[(.int .i64 p0.kind), (.int .i64 p0.most), (.int .i64 p0.pause), (.int .i64 p0.keep)] 23 (0, 0)) :: L) w) ?_ ?_
    · rcases Bool.eq_false_or_eq_true ((decide (p0.kind < 0)) || (decide (2 < p0.kind))) with hb2 | hb2
      ·
        refine s_skip (wk2 hE rfl rfl rfl hb2) rfl rfl hE ?_
        intro a hE
        refine s_skip (wk2 hE rfl rfl rfl hb2) rfl rfl hE ?_
        intro a hE
        refine s_skip (wk2 hE rfl rfl rfl hb2) rfl rfl hE ?_
        intro a hE
        refine s_val (wk0 rfl) rfl rfl hE hp (v := (.bool true)) (ex_pick1 rfl hE rfl hb2 rfl) ?_
        intro a hE
        have hE := hE.eqv (v' := (.bool (((decide (p0.kind < 0)) || (decide (2 < p0.kind))) || (decide (p0.most < 1))))) (by rw [hb2]; rfl)
        exact s_nil ⟨hE.cut ⟨rfl, rfl, rfl, trivial⟩, hp⟩
      ·
        refine s_val (wk1 hE rfl rfl rfl hb2) rfl rfl hE hp (v := (.pointer (some ⟨b1, 1, none⟩))) (ex_field rfl hE rfl (fldty23_1 _ _)) ?_
        intro a hE
        refine s_val (wk1 hE rfl rfl rfl hb2) rfl rfl hE hp (v := (.int .i64 p0.most)) (ex_load rfl hE rfl (fun w hw => run_ld1 varty3 (Hp.c 0 rfl 1 rfl w hw))) ?_
        intro a hE
        refine s_val (wk1 hE rfl rfl rfl hb2) rfl rfl hE hp (v := (.bool (decide (p0.most < 1)))) (ex_lss rfl hE rfl rfl) ?_
        intro a hE
        refine s_val (wk0 rfl) rfl rfl hE hp (v := (.bool (decide (p0.most < 1)))) (ex_pick0 rfl hE rfl hb2 rfl) ?_
        intro a hE
        have hE := hE.eqv (v' := (.bool (((decide (p0.kind < 0)) || (decide (2 < p0.kind))) || (decide (p0.most < 1))))) (by rw [hb2]; rfl)
        exact s_nil ⟨hE.cut ⟨rfl, rfl, rfl, trivial⟩, hp⟩
    · rintro a w ⟨hE, hp⟩
      refine s_val (wk0 rfl) rfl rfl hE hp (v := (.bool (((decide (p0.kind < 0)) || (decide (2 < p0.kind))) || (decide (p0.most < 1))))) (ex_move rfl hE rfl) ?_
      intro a hE
      refine s_cut [_, _, _, _] (fun a w => Env 109 [(24, (.bool ((((decide (p0.kind < 0)) || (decide (2 < p0.kind))) || (decide (p0.most < 1))) || (decide (16 < p0.most))))), (1, vp1), (2, (.pointer (some ⟨b1, 0, none⟩)))] a ∧ Hp Z ρ (Pt b1 (.cells #[(.int .i64 p0.kind), (.int .i64 p0.most), (.int .i64 p0.pause), (.int .i64 p0.keep)] 23 (0, 0)) :: L) w) ?_ ?_
      · rcases Bool.eq_false_or_eq_true (((decide (p0.kind < 0)) || (decide (2 < p0.kind))) || (decide (p0.most < 1))) with hb3 | hb3
        ·
          refine s_skip (wk2 hE rfl rfl rfl hb3) rfl rfl hE ?_
          intro a hE
          refine s_skip (wk2 hE rfl rfl rfl hb3) rfl rfl hE ?_
          intro a hE
          refine s_skip (wk2 hE rfl rfl rfl hb3) rfl rfl hE ?_
          intro a hE
          refine s_val (wk0 rfl) rfl rfl hE hp (v := (.bool true)) (ex_pick1 rfl hE rfl hb3 rfl) ?_
          intro a hE
          have hE := hE.eqv (v' := (.bool ((((decide (p0.kind < 0)) || (decide (2 < p0.kind))) || (decide (p0.most < 1))) || (decide (16 < p0.most))))) (by rw [hb3]; rfl)
          exact s_nil ⟨hE.cut ⟨rfl, rfl, rfl, trivial⟩, hp⟩
        ·
          refine s_val (wk1 hE rfl rfl rfl hb3) rfl rfl hE hp (v := (.pointer (some ⟨b1, 1, none⟩))) (ex_field rfl hE rfl (fldty23_1 _ _)) ?_
          intro a hE
          refine s_val (wk1 hE rfl rfl rfl hb3) rfl rfl hE hp (v := (.int .i64 p0.most)) (ex_load rfl hE rfl (fun w hw => run_ld1 varty3 (Hp.c 0 rfl 1 rfl w hw))) ?_
          intro a hE
          refine s_val (wk1 hE rfl rfl rfl hb3) rfl rfl hE hp (v := (.bool (decide (16 < p0.most)))) (ex_gtr rfl hE rfl rfl) ?_
          intro a hE
          refine s_val (wk0 rfl) rfl rfl hE hp (v := (.bool (decide (16 < p0.most)))) (ex_pick0 rfl hE rfl hb3 rfl) ?_
          intro a hE
          have hE := hE.eqv (v' := (.bool ((((decide (p0.kind < 0)) || (decide (2 < p0.kind))) || (decide (p0.most < 1))) || (decide (16 < p0.most))))) (by rw [hb3]; rfl)
          exact s_nil ⟨hE.cut ⟨rfl, rfl, rfl, trivial⟩, hp⟩
      · rintro a w ⟨hE, hp⟩
        refine s_val (wk0 rfl) rfl rfl hE hp (v := (.bool ((((decide (p0.kind < 0)) || (decide (2 < p0.kind))) || (decide (p0.most < 1))) || (decide (16 < p0.most))))) (ex_move rfl hE rfl) ?_
        intro a hE
        obtain ⟨m1, hg1, hm⟩ := bnd hm
        refine s_cut [_, _, _, _, _] (fun a w => Env 109 [(30, (.bool m1)), (1, vp1), (2, (.pointer (some ⟨b1, 0, none⟩)))] a ∧ Hp Z ρ (Pt b1 (.cells #[(.int .i64 p0.kind), (.int .i64 p0.most), (.int .i64 p0.pause), (.int .i64 p0.keep)] 23 (0, 0)) :: L) w) ?_ ?_
        · rcases Bool.eq_false_or_eq_true ((((decide (p0.kind < 0)) || (decide (2 < p0.kind))) || (decide (p0.most < 1))) || (decide (16 < p0.most))) with hb4 | hb4
          ·
            replace hg1 := (it hb4).symm.trans hg1
            refine s_skip (wk2 hE rfl rfl rfl hb4) rfl rfl hE ?_
            intro a hE
            refine s_skip (wk2 hE rfl rfl rfl hb4) rfl rfl hE ?_
            intro a hE
            refine s_skip (wk2 hE rfl rfl rfl hb4) rfl rfl hE ?_
            intro a hE
            refine s_skip (wk2 hE rfl rfl rfl hb4) rfl rfl hE ?_
            intro a hE
            refine s_val (wk0 rfl) rfl rfl hE hp (v := (.bool true)) (ex_pick1 rfl hE rfl hb4 rfl) ?_
            intro a hE
            obtain rfl := Option.some.inj hg1
            exact s_nil ⟨hE.cut ⟨rfl, rfl, rfl, trivial⟩, hp⟩
          ·
            replace hg1 := (ie hb4).symm.trans hg1
            refine s_val (wk1 hE rfl rfl rfl hb4) rfl rfl hE hp (v := (.pointer (some ⟨b1, 2, none⟩))) (ex_field rfl hE rfl (fldty23_2 _ _)) ?_
            intro a hE
            refine s_val (wk1 hE rfl rfl rfl hb4) rfl rfl hE hp (v := (.int .i64 p0.pause)) (ex_load rfl hE rfl (fun w hw => run_ld1 varty3 (Hp.c 0 rfl 2 rfl w hw))) ?_
            intro a hE
            obtain ⟨x1, ex1, hg1⟩ := bnd hg1
            refine s_call (wk1 hE rfl rfl rfl hb4) rfl rfl hE rfl [(.int .i64 p0.pause)] ⟨rfl, trivial⟩ ent39 (c_assessorref52_time p0.pause hp x1 ex1) Ret.ret ?_
            intro v a w hR hE
            obtain ⟨rfl, hp⟩ := Ret.of hR
            have hp : Hp Z ρ (Pt b1 (.cells #[(.int .i64 p0.kind), (.int .i64 p0.most), (.int .i64 p0.pause), (.int .i64 p0.keep)] 23 (0, 0)) :: L) w := hp
            refine s_val (wk1 hE rfl rfl rfl hb4) rfl rfl hE hp (v := (.bool (!x1))) (ex_not rfl hE rfl) ?_
            intro a hE
            refine s_val (wk0 rfl) rfl rfl hE hp (v := (.bool (!x1))) (ex_pick0 rfl hE rfl hb4 rfl) ?_
            intro a hE
            obtain rfl := Option.some.inj hg1
            exact s_nil ⟨hE.cut ⟨rfl, rfl, rfl, trivial⟩, hp⟩
        · rintro a w ⟨hE, hp⟩
          refine s_val (wk0 rfl) rfl rfl hE hp (v := (.bool m1)) (ex_move rfl hE rfl) ?_
          intro a hE
          refine s_cut [_, _, _, _, _, _] (fun a w => Env 109 [(37, (.bool (m1 || (decide (p0.most < (p1.length : Int)))))), (1, vp1), (2, (.pointer (some ⟨b1, 0, none⟩)))] a ∧ Hp Z ρ (Pt b1 (.cells #[(.int .i64 p0.kind), (.int .i64 p0.most), (.int .i64 p0.pause), (.int .i64 p0.keep)] 23 (0, 0)) :: L) w) ?_ ?_
          · rcases Bool.eq_false_or_eq_true m1 with hb5 | hb5
            ·
              refine s_skip (wk2 hE rfl rfl rfl hb5) rfl rfl hE ?_
              intro a hE
              refine s_skip (wk2 hE rfl rfl rfl hb5) rfl rfl hE ?_
              intro a hE
              refine s_skip (wk2 hE rfl rfl rfl hb5) rfl rfl hE ?_
              intro a hE
              refine s_skip (wk2 hE rfl rfl rfl hb5) rfl rfl hE ?_
              intro a hE
              refine s_skip (wk2 hE rfl rfl rfl hb5) rfl rfl hE ?_
              intro a hE
              refine s_val (wk0 rfl) rfl rfl hE hp (v := (.bool true)) (ex_pick1 rfl hE rfl hb5 rfl) ?_
              intro a hE
              have hE := hE.eqv (v' := (.bool (m1 || (decide (p0.most < (p1.length : Int)))))) (by rw [hb5]; rfl)
              exact s_nil ⟨hE.cut ⟨rfl, rfl, rfl, trivial⟩, hp⟩
            ·
              refine s_val (wk1 hE rfl rfl rfl hb5) rfl rfl hE hp (v := vp1) (ex_move rfl hE rfl) ?_
              intro a hE
              refine s_val (wk1 hE rfl rfl rfl hb5) rfl rfl hE hp (v := (.int .i64 (p1.length : Int))) (ex_len rfl hE rfl (RoSl.len hp1 slty24)) ?_
              intro a hE
              refine s_val (wk1 hE rfl rfl rfl hb5) rfl rfl hE hp (v := (.pointer (some ⟨b1, 1, none⟩))) (ex_field rfl hE rfl (fldty23_1 _ _)) ?_
              intro a hE
              refine s_val (wk1 hE rfl rfl rfl hb5) rfl rfl hE hp (v := (.int .i64 p0.most)) (ex_load rfl hE rfl (fun w hw => run_ld1 varty3 (Hp.c 0 rfl 1 rfl w hw))) ?_
              intro a hE
              refine s_val (wk1 hE rfl rfl rfl hb5) rfl rfl hE hp (v := (.bool (decide (p0.most < (p1.length : Int))))) (ex_gtr rfl hE rfl rfl) ?_
              intro a hE
              refine s_val (wk0 rfl) rfl rfl hE hp (v := (.bool (decide (p0.most < (p1.length : Int))))) (ex_pick0 rfl hE rfl hb5 rfl) ?_
              intro a hE
              have hE := hE.eqv (v' := (.bool (m1 || (decide (p0.most < (p1.length : Int)))))) (by rw [hb5]; rfl)
              exact s_nil ⟨hE.cut ⟨rfl, rfl, rfl, trivial⟩, hp⟩
          · rintro a w ⟨hE, hp⟩
            refine s_nil ?_
            refine k_if hE rfl (fun hb6 => ?_) (fun hb6 => ?_)
            · replace hm := (it hb6).symm.trans hm
              refine k_seq ?_
              refine k_region ?_
              refine s_val (wk0 rfl) rfl rfl hE hp (v := (.bool false)) (ex_asn rfl hE rfl) ?_
              intro a hE
              refine s_nil ?_
              refine k_ret ?_
              obtain rfl := Option.some.inj hm
              exact ret1 hE rfl rfl ⟨_, rfl, rfl, (hp.drop)⟩
            · replace hm := (ie hb6).symm.trans hm
              refine k_skip ?_
              refine k_seq ?_
              refine k_seq ?_
              refine k_region ?_
              refine s_val (wk0 rfl) rfl rfl hE hp (v := (.pointer (some ⟨b1, 0, none⟩))) (ex_field rfl hE rfl (fldty23_0 _ _)) ?_
              intro a hE
              refine s_val (wk0 rfl) rfl rfl hE hp (v := (.int .i64 p0.kind)) (ex_load rfl hE rfl (fun w hw => run_ld1 varty3 (Hp.c 0 rfl 0 rfl w hw))) ?_
              intro a hE
              refine s_val (wk0 rfl) rfl rfl hE hp (v := (.bool (decide (p0.kind = 2)))) (ex_eql rfl hE rfl rfl) ?_
              intro a hE
              refine s_val (wk0 rfl) rfl rfl hE hp (v := (.bool (decide (p0.kind = 2)))) (ex_move rfl hE rfl) ?_
              intro a hE
              refine s_cut [_, _, _, _, _, _, _, _, _, _, _] (fun a w => Env 109 [(52, (.bool ((decide (p0.kind = 2)) && ((decide (p0.keep < 1)) || (decide (p0.most < p0.keep)))))), (1, vp1), (2, (.pointer (some ⟨b1, 0, none⟩)))] a ∧ Hp Z ρ (Pt b1 (.cells #[(.int .i64 p0.kind), (.int .i64 p0.most), (.int .i64 p0.pause), (.int .i64 p0.keep)] 23 (0, 0)) :: L) w) ?_ ?_
              · rcases Bool.eq_false_or_eq_true (decide (p0.kind = 2)) with hb7 | hb7
                ·
                  refine s_val (wk1 hE rfl rfl rfl hb7) rfl rfl hE hp (v := (.pointer (some ⟨b1, 3, none⟩))) (ex_field rfl hE rfl (fldty23_3 _ _)) ?_
                  intro a hE
                  refine s_val (wk1 hE rfl rfl rfl hb7) rfl rfl hE hp (v := (.int .i64 p0.keep)) (ex_load rfl hE rfl (fun w hw => run_ld1 varty3 (Hp.c 0 rfl 3 rfl w hw))) ?_
                  intro a hE
                  refine s_val (wk1 hE rfl rfl rfl hb7) rfl rfl hE hp (v := (.bool (decide (p0.keep < 1)))) (ex_lss rfl hE rfl rfl) ?_
                  intro a hE
                  refine s_val (wk1 hE rfl rfl rfl hb7) rfl rfl hE hp (v := (.bool (decide (p0.keep < 1)))) (ex_move rfl hE rfl) ?_
                  intro a hE
                  refine s_cut [_, _, _, _, _, _] (fun a w => Env 109 [(51, (.bool ((decide (p0.keep < 1)) || (decide (p0.most < p0.keep))))), (1, vp1), (2, (.pointer (some ⟨b1, 0, none⟩))), (41, (.bool (decide (p0.kind = 2))))] a ∧ Hp Z ρ (Pt b1 (.cells #[(.int .i64 p0.kind), (.int .i64 p0.most), (.int .i64 p0.pause), (.int .i64 p0.keep)] 23 (0, 0)) :: L) w) ?_ ?_
                  · rcases Bool.eq_false_or_eq_true (decide (p0.keep < 1)) with hb8 | hb8
                    ·
                      refine s_skip (wk2 hE rfl rfl rfl hb8) rfl rfl hE ?_
                      intro a hE
                      refine s_skip (wk2 hE rfl rfl rfl hb8) rfl rfl hE ?_
                      intro a hE
                      refine s_skip (wk2 hE rfl rfl rfl hb8) rfl rfl hE ?_
                      intro a hE
                      refine s_skip (wk2 hE rfl rfl rfl hb8) rfl rfl hE ?_
                      intro a hE
                      refine s_skip (wk2 hE rfl rfl rfl hb8) rfl rfl hE ?_
                      intro a hE
                      refine s_val (wk1 hE rfl rfl rfl hb7) rfl rfl hE hp (v := (.bool true)) (ex_pick1 rfl hE rfl hb8 rfl) ?_
                      intro a hE
                      have hE := hE.eqv (v' := (.bool ((decide (p0.keep < 1)) || (decide (p0.most < p0.keep))))) (by rw [hb8]; rfl)
                      exact s_nil ⟨hE.cut ⟨rfl, rfl, rfl, rfl, trivial⟩, hp⟩
                    ·
                      refine s_val (wk1 hE rfl rfl rfl hb8) rfl rfl hE hp (v := (.pointer (some ⟨b1, 3, none⟩))) (ex_field rfl hE rfl (fldty23_3 _ _)) ?_
                      intro a hE
                      refine s_val (wk1 hE rfl rfl rfl hb8) rfl rfl hE hp (v := (.int .i64 p0.keep)) (ex_load rfl hE rfl (fun w hw => run_ld1 varty3 (Hp.c 0 rfl 3 rfl w hw))) ?_
                      intro a hE
                      refine s_val (wk1 hE rfl rfl rfl hb8) rfl rfl hE hp (v := (.pointer (some ⟨b1, 1, none⟩))) (ex_field rfl hE rfl (fldty23_1 _ _)) ?_
                      intro a hE
                      refine s_val (wk1 hE rfl rfl rfl hb8) rfl rfl hE hp (v := (.int .i64 p0.most)) (ex_load rfl hE rfl (fun w hw => run_ld1 varty3 (Hp.c 0 rfl 1 rfl w hw))) ?_
                      intro a hE
                      refine s_val (wk1 hE rfl rfl rfl hb8) rfl rfl hE hp (v := (.bool (decide (p0.most < p0.keep)))) (ex_gtr rfl hE rfl rfl) ?_
                      intro a hE
                      refine s_val (wk1 hE rfl rfl rfl hb7) rfl rfl hE hp (v := (.bool (decide (p0.most < p0.keep)))) (ex_pick0 rfl hE rfl hb8 rfl) ?_
                      intro a hE
                      have hE := hE.eqv (v' := (.bool ((decide (p0.keep < 1)) || (decide (p0.most < p0.keep))))) (by rw [hb8]; rfl)
                      exact s_nil ⟨hE.cut ⟨rfl, rfl, rfl, rfl, trivial⟩, hp⟩
                  · rintro a w ⟨hE, hp⟩
                    refine s_val (wk0 rfl) rfl rfl hE hp (v := (.bool ((decide (p0.keep < 1)) || (decide (p0.most < p0.keep))))) (ex_pick1 rfl hE rfl hb7 rfl) ?_
                    intro a hE
                    have hE := hE.eqv (v' := (.bool ((decide (p0.kind = 2)) && ((decide (p0.keep < 1)) || (decide (p0.most < p0.keep)))))) (by rw [hb7]; rfl)
                    exact s_nil ⟨hE.cut ⟨rfl, rfl, rfl, trivial⟩, hp⟩
                ·
                  refine s_skip (wk2 hE rfl rfl rfl hb7) rfl rfl hE ?_
                  intro a hE
                  refine s_skip (wk2 hE rfl rfl rfl hb7) rfl rfl hE ?_
                  intro a hE
                  refine s_skip (wk2 hE rfl rfl rfl hb7) rfl rfl hE ?_
                  intro a hE
                  refine s_skip (wk2 hE rfl rfl rfl hb7) rfl rfl hE ?_
                  intro a hE
                  refine s_skip (wk3 hE rfl rfl rfl) rfl rfl hE ?_
                  intro a hE
                  refine s_skip (wk3 hE rfl rfl rfl) rfl rfl hE ?_
                  intro a hE
                  refine s_skip (wk3 hE rfl rfl rfl) rfl rfl hE ?_
                  intro a hE
                  refine s_skip (wk3 hE rfl rfl rfl) rfl rfl hE ?_
                  intro a hE
                  refine s_skip (wk3 hE rfl rfl rfl) rfl rfl hE ?_
                  intro a hE
                  refine s_skip (wk2 hE rfl rfl rfl hb7) rfl rfl hE ?_
                  intro a hE
                  refine s_val (wk0 rfl) rfl rfl hE hp (v := (.bool false)) (ex_pick0 rfl hE rfl hb7 rfl) ?_
                  intro a hE
                  have hE := hE.eqv (v' := (.bool ((decide (p0.kind = 2)) && ((decide (p0.keep < 1)) || (decide (p0.most < p0.keep)))))) (by rw [hb7]; rfl)
                  exact s_nil ⟨hE.cut ⟨rfl, rfl, rfl, trivial⟩, hp⟩
              · rintro a w ⟨hE, hp⟩
                refine s_val (wk0 rfl) rfl rfl hE hp (v := (.bool ((decide (p0.kind = 2)) && ((decide (p0.keep < 1)) || (decide (p0.most < p0.keep)))))) (ex_move rfl hE rfl) ?_
                intro a hE
                refine s_cut [_, _, _, _, _, _, _, _, _] (fun a w => Env 109 [(62, (.bool (((decide (p0.kind = 2)) && ((decide (p0.keep < 1)) || (decide (p0.most < p0.keep)))) || ((!decide (p0.kind = 2)) && (!decide (p0.keep = 0)))))), (1, vp1)] a ∧ Hp Z ρ (Pt b1 (.cells #[(.int .i64 p0.kind), (.int .i64 p0.most), (.int .i64 p0.pause), (.int .i64 p0.keep)] 23 (0, 0)) :: L) w) ?_ ?_
                · rcases Bool.eq_false_or_eq_true ((decide (p0.kind = 2)) && ((decide (p0.keep < 1)) || (decide (p0.most < p0.keep)))) with hb9 | hb9
                  ·
                    refine s_skip (wk2 hE rfl rfl rfl hb9) rfl rfl hE ?_
                    intro a hE
                    refine s_skip (wk2 hE rfl rfl rfl hb9) rfl rfl hE ?_
                    intro a hE
                    refine s_skip (wk2 hE rfl rfl rfl hb9) rfl rfl hE ?_
                    intro a hE
                    refine s_skip (wk2 hE rfl rfl rfl hb9) rfl rfl hE ?_
                    intro a hE
                    refine s_skip (wk3 hE rfl rfl rfl) rfl rfl hE ?_
                    intro a hE
                    refine s_skip (wk3 hE rfl rfl rfl) rfl rfl hE ?_
                    intro a hE
                    refine s_skip (wk3 hE rfl rfl rfl) rfl rfl hE ?_
                    intro a hE
                    refine s_skip (wk2 hE rfl rfl rfl hb9) rfl rfl hE ?_
                    intro a hE
                    refine s_val (wk0 rfl) rfl rfl hE hp (v := (.bool true)) (ex_pick1 rfl hE rfl hb9 rfl) ?_
                    intro a hE
                    have hE := hE.eqv (v' := (.bool (((decide (p0.kind = 2)) && ((decide (p0.keep < 1)) || (decide (p0.most < p0.keep)))) || ((!decide (p0.kind = 2)) && (!decide (p0.keep = 0)))))) (by rw [hb9]; rfl)
                    exact s_nil ⟨hE.cut ⟨rfl, rfl, trivial⟩, hp⟩
                  ·
                    refine s_val (wk1 hE rfl rfl rfl hb9) rfl rfl hE hp (v := (.pointer (some ⟨b1, 0, none⟩))) (ex_field rfl hE rfl (fldty23_0 _ _)) ?_
                    intro a hE
                    refine s_val (wk1 hE rfl rfl rfl hb9) rfl rfl hE hp (v := (.int .i64 p0.kind)) (ex_load rfl hE rfl (fun w hw => run_ld1 varty3 (Hp.c 0 rfl 0 rfl w hw))) ?_
                    intro a hE
                    refine s_val (wk1 hE rfl rfl rfl hb9) rfl rfl hE hp (v := (.bool (!decide (p0.kind = 2)))) (ex_neq rfl hE rfl rfl) ?_
                    intro a hE
                    refine s_val (wk1 hE rfl rfl rfl hb9) rfl rfl hE hp (v := (.bool (!decide (p0.kind = 2)))) (ex_move rfl hE rfl) ?_
                    intro a hE
                    refine s_cut [_, _, _, _] (fun a w => Env 109 [(61, (.bool ((!decide (p0.kind = 2)) && (!decide (p0.keep = 0))))), (1, vp1), (53, (.bool ((decide (p0.kind = 2)) && ((decide (p0.keep < 1)) || (decide (p0.most < p0.keep))))))] a ∧ Hp Z ρ (Pt b1 (.cells #[(.int .i64 p0.kind), (.int .i64 p0.most), (.int .i64 p0.pause), (.int .i64 p0.keep)] 23 (0, 0)) :: L) w) ?_ ?_
                    · rcases Bool.eq_false_or_eq_true (!decide (p0.kind = 2)) with hb10 | hb10
                      ·
                        refine s_val (wk1 hE rfl rfl rfl hb10) rfl rfl hE hp (v := (.pointer (some ⟨b1, 3, none⟩))) (ex_field rfl hE rfl (fldty23_3 _ _)) ?_
                        intro a hE
                        refine s_val (wk1 hE rfl rfl rfl hb10) rfl rfl hE hp (v := (.int .i64 p0.keep)) (ex_load rfl hE rfl (fun w hw => run_ld1 varty3 (Hp.c 0 rfl 3 rfl w hw))) ?_
                        intro a hE
                        refine s_val (wk1 hE rfl rfl rfl hb10) rfl rfl hE hp (v := (.bool (!decide (p0.keep = 0)))) (ex_neq rfl hE rfl rfl) ?_
                        intro a hE
                        refine s_val (wk1 hE rfl rfl rfl hb9) rfl rfl hE hp (v := (.bool (!decide (p0.keep = 0)))) (ex_pick1 rfl hE rfl hb10 rfl) ?_
                        intro a hE
                        have hE := hE.eqv (v' := (.bool ((!decide (p0.kind = 2)) && (!decide (p0.keep = 0))))) (by rw [hb10]; rfl)
                        exact s_nil ⟨hE.cut ⟨rfl, rfl, rfl, trivial⟩, hp⟩
                      ·
                        refine s_skip (wk2 hE rfl rfl rfl hb10) rfl rfl hE ?_
                        intro a hE
                        refine s_skip (wk2 hE rfl rfl rfl hb10) rfl rfl hE ?_
                        intro a hE
                        refine s_skip (wk2 hE rfl rfl rfl hb10) rfl rfl hE ?_
                        intro a hE
                        refine s_val (wk1 hE rfl rfl rfl hb9) rfl rfl hE hp (v := (.bool false)) (ex_pick0 rfl hE rfl hb10 rfl) ?_
                        intro a hE
                        have hE := hE.eqv (v' := (.bool ((!decide (p0.kind = 2)) && (!decide (p0.keep = 0))))) (by rw [hb10]; rfl)
                        exact s_nil ⟨hE.cut ⟨rfl, rfl, rfl, trivial⟩, hp⟩
                    · rintro a w ⟨hE, hp⟩
                      refine s_val (wk0 rfl) rfl rfl hE hp (v := (.bool ((!decide (p0.kind = 2)) && (!decide (p0.keep = 0))))) (ex_pick0 rfl hE rfl hb9 rfl) ?_
                      intro a hE
                      have hE := hE.eqv (v' := (.bool (((decide (p0.kind = 2)) && ((decide (p0.keep < 1)) || (decide (p0.most < p0.keep)))) || ((!decide (p0.kind = 2)) && (!decide (p0.keep = 0)))))) (by rw [hb9]; rfl)
                      exact s_nil ⟨hE.cut ⟨rfl, rfl, trivial⟩, hp⟩
                · rintro a w ⟨hE, hp⟩
                  refine s_nil ?_
                  refine k_if hE rfl (fun hb11 => ?_) (fun hb11 => ?_)
                  · replace hm := (it hb11).symm.trans hm
                    refine k_seq ?_
                    refine k_region ?_
                    refine s_val (wk0 rfl) rfl rfl hE hp (v := (.bool false)) (ex_asn rfl hE rfl) ?_
                    intro a hE
                    refine s_nil ?_
                    refine k_ret ?_
                    obtain rfl := Option.some.inj hm
                    exact ret1 hE rfl rfl ⟨_, rfl, rfl, (hp.drop)⟩
                  · replace hm := (ie hb11).symm.trans hm
                    refine k_skip ?_
                    refine k_seq ?_
                    refine k_seq ?_
                    refine k_region ?_
                    refine s_val (wk0 rfl) rfl rfl hE hp (v := (.int .i64 0)) (ex_asn rfl hE rfl) ?_
                    intro a hE
                    refine s_nil ?_
                    obtain ⟨b2, hb12, hm⟩ := bnd hm
                    refine k_block (fun a w => ∃ s : Unit, b2 = .brk s ∧ (Env 109 [] a ∧ Hp Z ρ (Pt b1 (.cells #[(.int .i64 p0.kind), (.int .i64 p0.most), (.int .i64 p0.pause), (.int .i64 p0.keep)] 23 (0, 0)) :: L) w)) ?_ ?_
                    · refine k_loop hb12 (fun s a w => Env 109 [(1, vp1), (5, (.int .i64 s))] a ∧ Hp Z ρ (Pt b1 (.cells #[(.int .i64 p0.kind), (.int .i64 p0.most), (.int .i64 p0.pause), (.int .i64 p0.keep)] 23 (0, 0)) :: L) w) ?_ ?_
                      · exact ⟨hE.cut ⟨rfl, rfl, trivial⟩, hp⟩
                      · rintro lp1_0 st a w ⟨hE, hp⟩ hl1
                        have hE : Env 109 [(1, vp1), (5, (.int .i64 lp1_0))] a := hE
                        have hp : Hp Z ρ (Pt b1 (.cells #[(.int .i64 p0.kind), (.int .i64 p0.most), (.int .i64 p0.pause), (.int .i64 p0.keep)] 23 (0, 0)) :: L) w := hp
                        replace hl1 : m_assessorref52_Valid_lp1 p1 lp1_0 = some st := hl1
                        unfold m_assessorref52_Valid_lp1 at hl1
                        refine k_seq ?_
                        refine k_seq ?_
                        refine k_region ?_
                        refine s_val (wk0 rfl) rfl rfl hE hp (v := (.int .i64 lp1_0)) (ex_move rfl hE rfl) ?_
                        intro a hE
                        refine s_val (wk0 rfl) rfl rfl hE hp (v := vp1) (ex_move rfl hE rfl) ?_
                        intro a hE
                        refine s_val (wk0 rfl) rfl rfl hE hp (v := (.int .i64 (p1.length : Int))) (ex_len rfl hE rfl (RoSl.len hp1 slty24)) ?_
                        intro a hE
                        refine s_val (wk0 rfl) rfl rfl hE hp (v := (.bool (decide (lp1_0 < (p1.length : Int))))) (ex_lss rfl hE rfl rfl) ?_
                        intro a hE
                        refine s_nil ?_
                        refine k_if hE rfl (fun hb13 => ?_) (fun hb13 => ?_)
                        · replace hl1 := (it hb13).symm.trans hl1
                          refine k_skip ?_
                          refine k_seq ?_
                          refine k_plain ?_
                          refine k_seq ?_
                          refine k_region ?_
                          refine s_val (wk0 rfl) rfl rfl hE hp (v := vp1) (ex_move rfl hE rfl) ?_
                          intro a hE
                          refine s_val (wk0 rfl) rfl rfl hE hp (v := (.int .i64 lp1_0)) (ex_move rfl hE rfl) ?_
                          intro a hE
                          obtain ⟨x2, ex2, hl1⟩ := bnd hl1
                          obtain ⟨b3, b3o, b3c, b3r, b3k, b3f⟩ := RoSl.at hp1 slty24 ex2
                          obtain rfl : b3c = Enc.enc x2 := b3k
                          have b3f : AtP ρ b3 b3o [(.int .i64 x2.num), (.int .i64 x2.tick), (.int .i64 x2.pts)] := b3f
                          refine s_val (wk0 rfl) rfl rfl hE hp (v := (.pointer (some ⟨b3, b3o, none⟩))) (ex_index rfl hE rfl rfl b3r) ?_
                          intro a hE
                          refine s_val (wk0 rfl) rfl rfl hE hp (v := (.agg #[(.int .i64 x2.num), (.int .i64 x2.tick), (.int .i64 x2.pts)])) (ex_load rfl hE rfl (fun w hw => run_ldN (cs := [(.int .i64 x2.num), (.int .i64 x2.tick), (.int .i64 x2.pts)]) varty38 (fun j u hj => cell_of hw.le (b3f j u hj)))) ?_
                          intro a hE
                          refine s_new (wk0 rfl) rfl rfl hE hp rfl [(.int .i64 0), (.int .i64 0), (.int .i64 0)] (fun w => by simp [Instr.alloc, go_sem]) ?_
                          intro a w b4 hE hp
                          have hp : Hp Z ρ (Pt b4 (.cells #[(.int .i64 0), (.int .i64 0), (.int .i64 0)] 38 (0, 0)) :: Pt b1 (.cells #[(.int .i64 p0.kind), (.int .i64 p0.most), (.int .i64 p0.pause), (.int .i64 p0.keep)] 23 (0, 0)) :: L) w := hp
                          refine s_store (wk0 rfl) rfl hE hp rfl rfl rfl 0 rfl varty38.size_ rfl (by simp [Value.cells, Value.oneCell']) [(.int .i64 x2.num), (.int .i64 x2.tick), (.int .i64 x2.pts)] rfl ?_
                          intro w hp
                          have hp : Hp Z ρ (Pt b4 (.cells #[(.int .i64 x2.num), (.int .i64 x2.tick), (.int .i64 x2.pts)] 38 (0, 0)) :: Pt b1 (.cells #[(.int .i64 p0.kind), (.int .i64 p0.most), (.int .i64 p0.pause), (.int .i64 p0.keep)] 23 (0, 0)) :: L) w := hp
                          refine s_nil ?_
                          refine k_seq ?_
                          refine k_quiet (by kernel_rfl) (by kernel_rfl) hp ?_
                          refine q_val (wk0 rfl) rfl rfl hE (v := (.pointer (some ⟨b4, 0, none⟩))) (ex_field rfl hE rfl (fldty38_0 _ _)) ?_
                          intro a hE
                          refine q_val (wk0 rfl) rfl rfl hE (v := (.int .i64 x2.num)) (ex_load rfl hE rfl (fun w hw => run_ld1 varty3 (Hp.c 0 rfl 0 rfl w hw))) ?_
                          intro a hE
                          refine q_val (wk0 rfl) rfl rfl hE (v := (.int .i64 lp1_0)) (ex_move rfl hE rfl) ?_
                          intro a hE
                          obtain ⟨x3, ex3, hl1⟩ := bnd hl1
                          refine q_val (wk0 rfl) rfl rfl hE (v := (.int .i64 x3)) (ex_add rfl hE rfl rfl (inK_some ex3)) ?_
                          intro a hE
                          refine q_val (wk0 rfl) rfl rfl hE (v := (.bool (!decide (x2.num = x3)))) (ex_neq rfl hE rfl rfl) ?_
                          intro a hE
                          refine q_val (wk0 rfl) rfl rfl hE (v := (.bool (!decide (x2.num = x3)))) (ex_move rfl hE rfl) ?_
                          intro a hE
                          obtain ⟨m2, hg2, hl1⟩ := bnd hl1
                          refine q_cut [_, _, _, _, _] (fun a => Env 109 [(83, (.bool m2)), (1, vp1), (5, (.int .i64 lp1_0)), (6, (.pointer (some ⟨b4, 0, none⟩)))] a) ?_ ?_
                          · rcases Bool.eq_false_or_eq_true (!decide (x2.num = x3)) with hb14 | hb14
                            ·
                              replace hg2 := (it hb14).symm.trans hg2
                              refine q_skip (wk2 hE rfl rfl rfl hb14) rfl rfl hE ?_
                              intro a hE
                              refine q_skip (wk2 hE rfl rfl rfl hb14) rfl rfl hE ?_
                              intro a hE
                              refine q_skip (wk2 hE rfl rfl rfl hb14) rfl rfl hE ?_
                              intro a hE
                              refine q_skip (wk2 hE rfl rfl rfl hb14) rfl rfl hE ?_
                              intro a hE
                              refine q_val (wk0 rfl) rfl rfl hE (v := (.bool true)) (ex_pick1 rfl hE rfl hb14 rfl) ?_
                              intro a hE
                              obtain rfl := Option.some.inj hg2
                              exact q_nil (hE.cut ⟨rfl, rfl, rfl, rfl, trivial⟩)
                            ·
                              replace hg2 := (ie hb14).symm.trans hg2
                              refine q_val (wk1 hE rfl rfl rfl hb14) rfl rfl hE (v := (.pointer (some ⟨b4, 1, none⟩))) (ex_field rfl hE rfl (fldty38_1 _ _)) ?_
                              intro a hE
                              refine q_val (wk1 hE rfl rfl rfl hb14) rfl rfl hE (v := (.int .i64 x2.tick)) (ex_load rfl hE rfl (fun w hw => run_ld1 varty3 (Hp.c 0 rfl 1 rfl w hw))) ?_
                              intro a hE
                              obtain ⟨x4, ex4, hg2⟩ := bnd hg2
                              refine q_call (wk1 hE rfl rfl rfl hb14) rfl rfl hE rfl [(.int .i64 x2.tick)] ⟨rfl, trivial⟩ ent39 (v := (.bool x4)) (fun w hw => Calls.mono (c_assessorref52_time x2.tick hw x4 ex4) fun e w' ⟨v, he, hv, hh⟩ => ⟨by rw [he, hv], hh⟩) ?_
                              intro a hE
                              refine q_val (wk1 hE rfl rfl rfl hb14) rfl rfl hE (v := (.bool (!x4))) (ex_not rfl hE rfl) ?_
                              intro a hE
                              refine q_val (wk0 rfl) rfl rfl hE (v := (.bool (!x4))) (ex_pick0 rfl hE rfl hb14 rfl) ?_
                              intro a hE
                              obtain rfl := Option.some.inj hg2
                              exact q_nil (hE.cut ⟨rfl, rfl, rfl, rfl, trivial⟩)
                          · intro a hE
                            refine q_val (wk0 rfl) rfl rfl hE (v := (.bool m2)) (ex_move rfl hE rfl) ?_
                            intro a hE
                            obtain ⟨m3, hg3, hl1⟩ := bnd hl1
                            refine q_cut [_, _, _, _, _, _, _, _, _, _, _, _, _, _] (fun a => Env 109 [(98, (.bool m3)), (1, vp1), (5, (.int .i64 lp1_0)), (6, (.pointer (some ⟨b4, 0, none⟩)))] a) ?_ ?_
                            · rcases Bool.eq_false_or_eq_true m2 with hb15 | hb15
                              ·
                                replace hg3 := (it hb15).symm.trans hg3
                                refine q_skip (wk2 hE rfl rfl rfl hb15) rfl rfl hE ?_
                                intro a hE
                                refine q_skip (wk2 hE rfl rfl rfl hb15) rfl rfl hE ?_
                                intro a hE
                                refine q_skip (wk2 hE rfl rfl rfl hb15) rfl rfl hE ?_
                                intro a hE
                                refine q_skip (wk3 hE rfl rfl rfl) rfl rfl hE ?_
                                intro a hE
                                refine q_skip (wk3 hE rfl rfl rfl) rfl rfl hE ?_
                                intro a hE
                                refine q_skip (wk3 hE rfl rfl rfl) rfl rfl hE ?_
                                intro a hE
                                refine q_skip (wk3 hE rfl rfl rfl) rfl rfl hE ?_
                                intro a hE
                                refine q_skip (wk3 hE rfl rfl rfl) rfl rfl hE ?_
                                intro a hE
                                refine q_skip (wk3 hE rfl rfl rfl) rfl rfl hE ?_
                                intro a hE
                                refine q_skip (wk3 hE rfl rfl rfl) rfl rfl hE ?_
                                intro a hE
                                refine q_skip (wk3 hE rfl rfl rfl) rfl rfl hE ?_
                                intro a hE
                                refine q_skip (wk3 hE rfl rfl rfl) rfl rfl hE ?_
                                intro a hE
                                refine q_skip (wk2 hE rfl rfl rfl hb15) rfl rfl hE ?_
                                intro a hE
                                refine q_val (wk0 rfl) rfl rfl hE (v := (.bool true)) (ex_pick1 rfl hE rfl hb15 rfl) ?_
                                intro a hE
                                obtain rfl := Option.some.inj hg3
                                exact q_nil (hE.cut ⟨rfl, rfl, rfl, rfl, trivial⟩)
                              ·
                                replace hg3 := (ie hb15).symm.trans hg3
                                refine q_val (wk1 hE rfl rfl rfl hb15) rfl rfl hE (v := (.int .i64 lp1_0)) (ex_move rfl hE rfl) ?_
                                intro a hE
                                refine q_val (wk1 hE rfl rfl rfl hb15) rfl rfl hE (v := (.bool (decide (0 < lp1_0)))) (ex_gtr rfl hE rfl rfl) ?_
                                intro a hE
                                refine q_val (wk1 hE rfl rfl rfl hb15) rfl rfl hE (v := (.bool (decide (0 < lp1_0)))) (ex_move rfl hE rfl) ?_
                                intro a hE
                                obtain ⟨m4, hg4, hg3⟩ := bnd hg3
                                refine q_cut [_, _, _, _, _, _, _, _, _, _] (fun a => Env 109 [(97, (.bool m4)), (1, vp1), (5, (.int .i64 lp1_0)), (6, (.pointer (some ⟨b4, 0, none⟩))), (84, (.bool m2)), (85, (.int .i64 lp1_0)), (86, (.bool (decide (0 < lp1_0)))), (87, (.bool (decide (0 < lp1_0))))] a) ?_ ?_
                                · rcases Bool.eq_false_or_eq_true (decide (0 < lp1_0)) with hb16 | hb16
                                  ·
                                    replace hg4 := (it hb16).symm.trans hg4
                                    refine q_val (wk1 hE rfl rfl rfl hb16) rfl rfl hE (v := vp1) (ex_move rfl hE rfl) ?_
                                    intro a hE
                                    refine q_val (wk1 hE rfl rfl rfl hb16) rfl rfl hE (v := (.int .i64 lp1_0)) (ex_move rfl hE rfl) ?_
                                    intro a hE
                                    obtain ⟨x5, ex5, hg4⟩ := bnd hg4
                                    refine q_val (wk1 hE rfl rfl rfl hb16) rfl rfl hE (v := (.int .i64 x5)) (ex_sub rfl hE rfl rfl (inK_some ex5)) ?_
                                    intro a hE
                                    obtain ⟨x6, ex6, hg4⟩ := bnd hg4
                                    obtain ⟨b5, b5o, b5c, b5r, b5k, b5f⟩ := RoSl.at hp1 slty24 ex6
                                    obtain rfl : b5c = Enc.enc x6 := b5k
                                    have b5f : AtP ρ b5 b5o [(.int .i64 x6.num), (.int .i64 x6.tick), (.int .i64 x6.pts)] := b5f
                                    refine q_val (wk1 hE rfl rfl rfl hb16) rfl rfl hE (v := (.pointer (some ⟨b5, b5o, none⟩))) (ex_index rfl hE rfl rfl b5r) ?_
                                    intro a hE
                                    refine q_val (wk1 hE rfl rfl rfl hb16) rfl rfl hE (v := (.pointer (some ⟨b5, b5o + 1, none⟩))) (ex_field rfl hE rfl (fldty38_1 _ _)) ?_
                                    intro a hE
                                    refine q_val (wk1 hE rfl rfl rfl hb16) rfl rfl hE (v := (.int .i64 x6.tick)) (ex_load rfl hE rfl (fun w hw => run_ld1 varty3 (b5f.c 1 rfl w hw))) ?_
                                    intro a hE
                                    refine q_val (wk1 hE rfl rfl rfl hb16) rfl rfl hE (v := (.pointer (some ⟨b4, 1, none⟩))) (ex_field rfl hE rfl (fldty38_1 _ _)) ?_
                                    intro a hE
                                    refine q_val (wk1 hE rfl rfl rfl hb16) rfl rfl hE (v := (.int .i64 x2.tick)) (ex_load rfl hE rfl (fun w hw => run_ld1 varty3 (Hp.c 0 rfl 1 rfl w hw))) ?_
                                    intro a hE
                                    refine q_val (wk1 hE rfl rfl rfl hb16) rfl rfl hE (v := (.bool (decide (x2.tick < x6.tick)))) (ex_gtr rfl hE rfl rfl) ?_
                                    intro a hE
                                    refine q_val (wk1 hE rfl rfl rfl hb15) rfl rfl hE (v := (.bool (decide (x2.tick < x6.tick)))) (ex_pick1 rfl hE rfl hb16 rfl) ?_
                                    intro a hE
                                    obtain rfl := Option.some.inj hg4
                                    exact q_nil (hE.cut ⟨rfl, rfl, rfl, rfl, rfl, rfl, rfl, rfl, trivial⟩)
                                  ·
                                    replace hg4 := (ie hb16).symm.trans hg4
                                    refine q_skip (wk2 hE rfl rfl rfl hb16) rfl rfl hE ?_
                                    intro a hE
                                    refine q_skip (wk2 hE rfl rfl rfl hb16) rfl rfl hE ?_
                                    intro a hE
                                    refine q_skip (wk2 hE rfl rfl rfl hb16) rfl rfl hE ?_
                                    intro a hE
                                    refine q_skip (wk2 hE rfl rfl rfl hb16) rfl rfl hE ?_
                                    intro a hE
                                    refine q_skip (wk2 hE rfl rfl rfl hb16) rfl rfl hE ?_
                                    intro a hE
                                    refine q_skip (wk2 hE rfl rfl rfl hb16) rfl rfl hE ?_
                                    intro a hE
                                    refine q_skip (wk2 hE rfl rfl rfl hb16) rfl rfl hE ?_
                                    intro a hE
                                    refine q_skip (wk2 hE rfl rfl rfl hb16) rfl rfl hE ?_
                                    intro a hE
                                    refine q_skip (wk2 hE rfl rfl rfl hb16) rfl rfl hE ?_
                                    intro a hE
                                    refine q_val (wk1 hE rfl rfl rfl hb15) rfl rfl hE (v := (.bool false)) (ex_pick0 rfl hE rfl hb16 rfl) ?_
                                    intro a hE
                                    obtain rfl := Option.some.inj hg4
                                    exact q_nil (hE.cut ⟨rfl, rfl, rfl, rfl, rfl, rfl, rfl, rfl, trivial⟩)
                                · intro a hE
                                  refine q_val (wk0 rfl) rfl rfl hE (v := (.bool m4)) (ex_pick0 rfl hE rfl hb15 rfl) ?_
                                  intro a hE
                                  obtain rfl := Option.some.inj hg3
                                  exact q_nil (hE.cut ⟨rfl, rfl, rfl, rfl, trivial⟩)
                            · intro a hE
                              refine q_val (wk0 rfl) rfl rfl hE (v := (.bool m3)) (ex_move rfl hE rfl) ?_
                              intro a hE
                              refine q_cut [_, _, _, _] (fun a => Env 109 [(103, (.bool (m3 || (decide (x2.pts < 0))))), (1, vp1), (5, (.int .i64 lp1_0)), (6, (.pointer (some ⟨b4, 0, none⟩)))] a) ?_ ?_
                              · rcases Bool.eq_false_or_eq_true m3 with hb17 | hb17
                                ·
                                  refine q_skip (wk2 hE rfl rfl rfl hb17) rfl rfl hE ?_
                                  intro a hE
                                  refine q_skip (wk2 hE rfl rfl rfl hb17) rfl rfl hE ?_
                                  intro a hE
                                  refine q_skip (wk2 hE rfl rfl rfl hb17) rfl rfl hE ?_
                                  intro a hE
                                  refine q_val (wk0 rfl) rfl rfl hE (v := (.bool true)) (ex_pick1 rfl hE rfl hb17 rfl) ?_
                                  intro a hE
                                  have hE := hE.eqv (v' := (.bool (m3 || (decide (x2.pts < 0))))) (by rw [hb17]; rfl)
                                  exact q_nil (hE.cut ⟨rfl, rfl, rfl, rfl, trivial⟩)
                                ·
                                  refine q_val (wk1 hE rfl rfl rfl hb17) rfl rfl hE (v := (.pointer (some ⟨b4, 2, none⟩))) (ex_field rfl hE rfl (fldty38_2 _ _)) ?_
                                  intro a hE
                                  refine q_val (wk1 hE rfl rfl rfl hb17) rfl rfl hE (v := (.int .i64 x2.pts)) (ex_load rfl hE rfl (fun w hw => run_ld1 varty3 (Hp.c 0 rfl 2 rfl w hw))) ?_
                                  intro a hE
                                  refine q_val (wk1 hE rfl rfl rfl hb17) rfl rfl hE (v := (.bool (decide (x2.pts < 0)))) (ex_lss rfl hE rfl rfl) ?_
                                  intro a hE
                                  refine q_val (wk0 rfl) rfl rfl hE (v := (.bool (decide (x2.pts < 0)))) (ex_pick0 rfl hE rfl hb17 rfl) ?_
                                  intro a hE
                                  have hE := hE.eqv (v' := (.bool (m3 || (decide (x2.pts < 0))))) (by rw [hb17]; rfl)
                                  exact q_nil (hE.cut ⟨rfl, rfl, rfl, rfl, trivial⟩)
                              · intro a hE
                                refine q_val (wk0 rfl) rfl rfl hE (v := (.bool (m3 || (decide (x2.pts < 0))))) (ex_move rfl hE rfl) ?_
                                intro a hE
                                refine q_cut [_, _, _, _] (fun a => Env 109 [(108, (.bool ((m3 || (decide (x2.pts < 0))) || (decide (100000000 < x2.pts))))), (1, vp1), (5, (.int .i64 lp1_0))] a) ?_ ?_
                                · rcases Bool.eq_false_or_eq_true (m3 || (decide (x2.pts < 0))) with hb18 | hb18
                                  ·
                                    refine q_skip (wk2 hE rfl rfl rfl hb18) rfl rfl hE ?_
                                    intro a hE
                                    refine q_skip (wk2 hE rfl rfl rfl hb18) rfl rfl hE ?_
                                    intro a hE
                                    refine q_skip (wk2 hE rfl rfl rfl hb18) rfl rfl hE ?_
                                    intro a hE
                                    refine q_val (wk0 rfl) rfl rfl hE (v := (.bool true)) (ex_pick1 rfl hE rfl hb18 rfl) ?_
                                    intro a hE
                                    have hE := hE.eqv (v' := (.bool ((m3 || (decide (x2.pts < 0))) || (decide (100000000 < x2.pts))))) (by rw [hb18]; rfl)
                                    exact q_nil (hE.cut ⟨rfl, rfl, rfl, trivial⟩)
                                  ·
                                    refine q_val (wk1 hE rfl rfl rfl hb18) rfl rfl hE (v := (.pointer (some ⟨b4, 2, none⟩))) (ex_field rfl hE rfl (fldty38_2 _ _)) ?_
                                    intro a hE
                                    refine q_val (wk1 hE rfl rfl rfl hb18) rfl rfl hE (v := (.int .i64 x2.pts)) (ex_load rfl hE rfl (fun w hw => run_ld1 varty3 (Hp.c 0 rfl 2 rfl w hw))) ?_
                                    intro a hE
                                    refine q_val (wk1 hE rfl rfl rfl hb18) rfl rfl hE (v := (.bool (decide (100000000 < x2.pts)))) (ex_gtr rfl hE rfl rfl) ?_
                                    intro a hE
                                    refine q_val (wk0 rfl) rfl rfl hE (v := (.bool (decide (100000000 < x2.pts)))) (ex_pick0 rfl hE rfl hb18 rfl) ?_
                                    intro a hE
                                    have hE := hE.eqv (v' := (.bool ((m3 || (decide (x2.pts < 0))) || (decide (100000000 < x2.pts))))) (by rw [hb18]; rfl)
                                    exact q_nil (hE.cut ⟨rfl, rfl, rfl, trivial⟩)
                                · intro a hE
                                  refine q_nil fun w hp => ?_
                                  have hp : Hp Z ρ (Pt b4 (.cells #[(.int .i64 x2.num), (.int .i64 x2.tick), (.int .i64 x2.pts)] 38 (0, 0)) :: Pt b1 (.cells #[(.int .i64 p0.kind), (.int .i64 p0.most), (.int .i64 p0.pause), (.int .i64 p0.keep)] 23 (0, 0)) :: L) w := hp
                                  refine k_if hE rfl (fun hb19 => ?_) (fun hb19 => ?_)
                                  · replace hl1 := (it hb19).symm.trans hl1
                                    refine k_seq ?_
                                    refine k_region ?_
                                    refine s_val (wk0 rfl) rfl rfl hE hp (v := (.bool false)) (ex_asn rfl hE rfl) ?_
                                    intro a hE
                                    refine s_nil ?_
                                    refine k_ret ?_
                                    refine ⟨_, (Option.some.inj hl1).symm, fun hb => ?_⟩
                                    subst hb
                                    obtain rfl := Option.some.inj hm
                                    exact ret1 hE rfl rfl ⟨_, rfl, rfl, (((hp.get 1 rfl).drop).drop)⟩
                                  · replace hl1 := (ie hb19).symm.trans hl1
                                    refine k_skip ?_
                                    refine k_region ?_
                                    refine s_val (wk0 rfl) rfl rfl hE hp (v := (.int .i64 lp1_0)) (ex_move rfl hE rfl) ?_
                                    intro a hE
                                    obtain ⟨x7, ex7, hl1⟩ := bnd hl1
                                    refine s_val (wk0 rfl) rfl rfl hE hp (v := (.int .i64 x7)) (ex_add rfl hE rfl rfl (inK_some ex7)) ?_
                                    intro a hE
                                    refine s_val (wk0 rfl) rfl rfl hE hp (v := (.int .i64 x7)) (ex_asn rfl hE rfl) ?_
                                    intro a hE
                                    refine s_nil ?_
                                    exact ⟨_, (Option.some.inj hl1).symm, hE.cut ⟨rfl, rfl, trivial⟩, (hp.drop)⟩
                        · replace hl1 := (ie hb13).symm.trans hl1
                          refine k_exit ?_
                          refine ⟨_, (Option.some.inj hl1).symm, fun hbb => ?_⟩
                          exact ⟨_, hbb.symm, hE.cut trivial, hp⟩
                    · rintro a w ⟨b2s, rfl, hE, hp⟩
                      dsimp only at hm
                      refine k_seq ?_
                      refine k_region ?_
                      refine s_val (wk0 rfl) rfl rfl hE hp (v := (.bool true)) (ex_asn rfl hE rfl) ?_
                      intro a hE
                      refine s_nil ?_
                      refine k_ret ?_
                      obtain rfl := Option.some.inj hm
                      exact ret1 hE rfl rfl ⟨_, rfl, rfl, (hp.drop)⟩
/- assessor/assessorref52.better -/
set_option maxRecDepth 100000 in
set_option maxHeartbeats 4000000 in
theorem c_assessorref52_better {Z : World} {ρ : PH} {L : List Atom} {w : World} (p0 : (List Att)) (vp0 : Value) (hp0 : RoSl ρ vp0 p0) (p1 : Int) (hp : Hp Z ρ (L) w) (r : Int) (hm : m_assessorref52_better p0 p1 = some r) :
    Calls Try.prog 34 #[vp0, (.int .i64 p1)] w (Ret fun v w' => v = (.int .i64 r) ∧ Hp Z ρ (L) w') := by
  refine enter (N := 45) Try.func34 rfl rfl [(0, vp0), (1, (.int .i64 p1))] rfl (argsIn_mem ⟨rfl, rfl, trivial⟩) fun a hE => ?_
  unfold m_assessorref52_better at hm
  refine k_seq ?_
  refine k_region ?_
  refine s_val (wk0 rfl) rfl rfl hE hp (v := (.int .i64 0)) (ex_asn rfl hE rfl) ?_
  intro a hE
  refine s_nil ?_
  refine k_seq ?_
  refine k_region ?_
  refine s_val (wk0 rfl) rfl rfl hE hp (v := (.int .i64 0)) (ex_asn rfl hE rfl) ?_
  intro a hE
  refine s_nil ?_
  refine k_seq ?_
  refine k_seq ?_
  refine k_region ?_
  refine s_val (wk0 rfl) rfl rfl hE hp (v := (.int .i64 0)) (ex_asn rfl hE rfl) ?_
  intro a hE
  refine s_nil ?_
  obtain ⟨b1, hb1, hm⟩ := bnd hm
  refine k_block (fun a w => Env 45 [(5, (.int .i64 b1))] a ∧ Hp Z ρ (L) w) ?_ ?_
  · refine k_loop hb1 (fun s a w => Env 45 [(0, vp0), (1, (.int .i64 p1)), (5, (.int .i64 s.1)), (6, (.int .i64 s.2))] a ∧ Hp Z ρ (L) w) ?_ ?_
    · exact ⟨hE.cut ⟨rfl, rfl, rfl, rfl, trivial⟩, hp⟩
    · rintro ⟨lp1_0, lp1_1⟩ st a w ⟨hE, hp⟩ hl1
      have hE : Env 45 [(0, vp0), (1, (.int .i64 p1)), (5, (.int .i64 lp1_0)), (6, (.int .i64 lp1_1))] a := hE
      have hp : Hp Z ρ (L) w := hp
      replace hl1 : m_assessorref52_better_lp1 p0 p1 lp1_0 lp1_1 = some st := hl1
      unfold m_assessorref52_better_lp1 at hl1
      refine k_seq ?_
      refine k_seq ?_
      refine k_region ?_
      refine s_val (wk0 rfl) rfl rfl hE hp (v := (.int .i64 lp1_1)) (ex_move rfl hE rfl) ?_
      intro a hE
      refine s_val (wk0 rfl) rfl rfl hE hp (v := vp0) (ex_move rfl hE rfl) ?_
      intro a hE
      refine s_val (wk0 rfl) rfl rfl hE hp (v := (.int .i64 (p0.length : Int))) (ex_len rfl hE rfl (RoSl.len hp0 slty24)) ?_
      intro a hE
      refine s_val (wk0 rfl) rfl rfl hE hp (v := (.bool (decide (lp1_1 < (p0.length : Int))))) (ex_lss rfl hE rfl rfl) ?_
      intro a hE
      refine s_nil ?_
      refine k_if hE rfl (fun hb2 => ?_) (fun hb2 => ?_)
      · replace hl1 := (it hb2).symm.trans hl1
        refine k_skip ?_
        refine k_seq ?_
        refine k_plain ?_
        refine k_seq ?_
        refine k_quiet (by kernel_rfl) (by kernel_rfl) hp ?_
        refine q_val (wk0 rfl) rfl rfl hE (v := vp0) (ex_move rfl hE rfl) ?_
        intro a hE
        refine q_val (wk0 rfl) rfl rfl hE (v := (.int .i64 lp1_1)) (ex_move rfl hE rfl) ?_
        intro a hE
        obtain ⟨x1, ex1, hl1⟩ := bnd hl1
        obtain ⟨b2, b2o, b2c, b2r, b2k, b2f⟩ := RoSl.at hp0 slty24 ex1
        obtain rfl : b2c = Enc.enc x1 := b2k
        have b2f : AtP ρ b2 b2o [(.int .i64 x1.num), (.int .i64 x1.tick), (.int .i64 x1.pts)] := b2f
        refine q_val (wk0 rfl) rfl rfl hE (v := (.pointer (some ⟨b2, b2o, none⟩))) (ex_index rfl hE rfl rfl b2r) ?_
        intro a hE
        refine q_val (wk0 rfl) rfl rfl hE (v := (.pointer (some ⟨b2, b2o + 2, none⟩))) (ex_field rfl hE rfl (fldty38_2 _ _)) ?_
        intro a hE
        refine q_val (wk0 rfl) rfl rfl hE (v := (.int .i64 x1.pts)) (ex_load rfl hE rfl (fun w hw => run_ld1 varty3 (b2f.c 2 rfl w hw))) ?_
        intro a hE
        refine q_val (wk0 rfl) rfl rfl hE (v := vp0) (ex_move rfl hE rfl) ?_
        intro a hE
        refine q_val (wk0 rfl) rfl rfl hE (v := (.int .i64 p1)) (ex_move rfl hE rfl) ?_
        intro a hE
        obtain ⟨x2, ex2, hl1⟩ := bnd hl1
        obtain ⟨b3, b3o, b3c, b3r, b3k, b3f⟩ := RoSl.at hp0 slty24 ex2
        obtain rfl : b3c = Enc.enc x2 := b3k
        have b3f : AtP ρ b3 b3o [(.int .i64 x2.num), (.int .i64 x2.tick), (.int .i64 x2.pts)] := b3f
        refine q_val (wk0 rfl) rfl rfl hE (v := (.pointer (some ⟨b3, b3o, none⟩))) (ex_index rfl hE rfl rfl b3r) ?_
        intro a hE
        refine q_val (wk0 rfl) rfl rfl hE (v := (.pointer (some ⟨b3, b3o + 2, none⟩))) (ex_field rfl hE rfl (fldty38_2 _ _)) ?_
        intro a hE
        refine q_val (wk0 rfl) rfl rfl hE (v := (.int .i64 x2.pts)) (ex_load rfl hE rfl (fun w hw => run_ld1 varty3 (b3f.c 2 rfl w hw))) ?_
        intro a hE
        refine q_val (wk0 rfl) rfl rfl hE (v := (.bool (decide (x2.pts < x1.pts)))) (ex_gtr rfl hE rfl rfl) ?_
        intro a hE
        refine q_val (wk0 rfl) rfl rfl hE (v := (.bool (decide (x2.pts < x1.pts)))) (ex_move rfl hE rfl) ?_
        intro a hE
        obtain ⟨m1, hg1, hl1⟩ := bnd hl1
        refine q_cut [_, _, _, _, _, _, _, _, _, _, _, _, _, _, _, _, _] (fun a => Env 45 [(41, (.bool m1)), (0, vp0), (1, (.int .i64 p1)), (5, (.int .i64 lp1_0)), (6, (.int .i64 lp1_1))] a) ?_ ?_
        · rcases Bool.eq_false_or_eq_true (decide (x2.pts < x1.pts)) with hb3 | hb3
          ·
            replace hg1 := (it hb3).symm.trans hg1
            refine q_skip (wk2 hE rfl rfl rfl hb3) rfl rfl hE ?_
            intro a hE
            refine q_skip (wk2 hE rfl rfl rfl hb3) rfl rfl hE ?_
            intro a hE
            refine q_skip (wk2 hE rfl rfl rfl hb3) rfl rfl hE ?_
            intro a hE
            refine q_skip (wk2 hE rfl rfl rfl hb3) rfl rfl hE ?_
            intro a hE
            refine q_skip (wk2 hE rfl rfl rfl hb3) rfl rfl hE ?_
            intro a hE
            refine q_skip (wk2 hE rfl rfl rfl hb3) rfl rfl hE ?_
            intro a hE
            refine q_skip (wk2 hE rfl rfl rfl hb3) rfl rfl hE ?_
            intro a hE
            refine q_skip (wk2 hE rfl rfl rfl hb3) rfl rfl hE ?_
            intro a hE
            refine q_skip (wk2 hE rfl rfl rfl hb3) rfl rfl hE ?_
            intro a hE
            refine q_skip (wk2 hE rfl rfl rfl hb3) rfl rfl hE ?_
            intro a hE
            refine q_skip (wk2 hE rfl rfl rfl hb3) rfl rfl hE ?_
            intro a hE
            refine q_skip (wk2 hE rfl rfl rfl hb3) rfl rfl hE ?_
            intro a hE
            refine q_skip (wk3 hE rfl rfl rfl) rfl rfl hE ?_
            intro a hE
            refine q_skip (wk3 hE rfl rfl rfl) rfl rfl hE ?_
            intro a hE
            refine q_skip (wk3 hE rfl rfl rfl) rfl rfl hE ?_
            intro a hE
            refine q_skip (wk2 hE rfl rfl rfl hb3) rfl rfl hE ?_
            intro a hE
            refine q_val (wk0 rfl) rfl rfl hE (v := (.bool true)) (ex_pick1 rfl hE rfl hb3 rfl) ?_
            intro a hE
            obtain rfl := Option.some.inj hg1
            exact q_nil (hE.cut ⟨rfl, rfl, rfl, rfl, rfl, trivial⟩)
          ·
            replace hg1 := (ie hb3).symm.trans hg1
            refine q_val (wk1 hE rfl rfl rfl hb3) rfl rfl hE (v := vp0) (ex_move rfl hE rfl) ?_
            intro a hE
            refine q_val (wk1 hE rfl rfl rfl hb3) rfl rfl hE (v := (.int .i64 lp1_1)) (ex_move rfl hE rfl) ?_
            intro a hE
            obtain ⟨x3, ex3, hg1⟩ := bnd hg1
            obtain ⟨b4, b4o, b4c, b4r, b4k, b4f⟩ := RoSl.at hp0 slty24 ex3
            obtain rfl : b4c = Enc.enc x3 := b4k
            have b4f : AtP ρ b4 b4o [(.int .i64 x3.num), (.int .i64 x3.tick), (.int .i64 x3.pts)] := b4f
            refine q_val (wk1 hE rfl rfl rfl hb3) rfl rfl hE (v := (.pointer (some ⟨b4, b4o, none⟩))) (ex_index rfl hE rfl rfl b4r) ?_
            intro a hE
            refine q_val (wk1 hE rfl rfl rfl hb3) rfl rfl hE (v := (.pointer (some ⟨b4, b4o + 2, none⟩))) (ex_field rfl hE rfl (fldty38_2 _ _)) ?_
            intro a hE
            refine q_val (wk1 hE rfl rfl rfl hb3) rfl rfl hE (v := (.int .i64 x3.pts)) (ex_load rfl hE rfl (fun w hw => run_ld1 varty3 (b4f.c 2 rfl w hw))) ?_
            intro a hE
            refine q_val (wk1 hE rfl rfl rfl hb3) rfl rfl hE (v := vp0) (ex_move rfl hE rfl) ?_
            intro a hE
            refine q_val (wk1 hE rfl rfl rfl hb3) rfl rfl hE (v := (.int .i64 p1)) (ex_move rfl hE rfl) ?_
            intro a hE
            obtain ⟨x4, ex4, hg1⟩ := bnd hg1
            obtain ⟨b5, b5o, b5c, b5r, b5k, b5f⟩ := RoSl.at hp0 slty24 ex4
            obtain rfl : b5c = Enc.enc x4 := b5k
            have b5f : AtP ρ b5 b5o [(.int .i64 x4.num), (.int .i64 x4.tick), (.int .i64 x4.pts)] := b5f
            refine q_val (wk1 hE rfl rfl rfl hb3) rfl rfl hE (v := (.pointer (some ⟨b5, b5o, none⟩))) (ex_index rfl hE rfl rfl b5r) ?_
            intro a hE
            refine q_val (wk1 hE rfl rfl rfl hb3) rfl rfl hE (v := (.pointer (some ⟨b5, b5o + 2, none⟩))) (ex_field rfl hE rfl (fldty38_2 _ _)) ?_
            intro a hE
            refine q_val (wk1 hE rfl rfl rfl hb3) rfl rfl hE (v := (.int .i64 x4.pts)) (ex_load rfl hE rfl (fun w hw => run_ld1 varty3 (b5f.c 2 rfl w hw))) ?_
            intro a hE
            refine q_val (wk1 hE rfl rfl rfl hb3) rfl rfl hE (v := (.bool (decide (x3.pts = x4.pts)))) (ex_eql rfl hE rfl rfl) ?_
            intro a hE
            refine q_val (wk1 hE rfl rfl rfl hb3) rfl rfl hE (v := (.bool (decide (x3.pts = x4.pts)))) (ex_move rfl hE rfl) ?_
            intro a hE
            refine q_cut [_, _, _, _] (fun a => Env 45 [(40, (.bool ((decide (x3.pts = x4.pts)) && (decide (lp1_1 < p1))))), (0, vp0), (1, (.int .i64 p1)), (5, (.int .i64 lp1_0)), (6, (.int .i64 lp1_1)), (24, (.bool (decide (x2.pts < x1.pts)))), (25, vp0), (26, (.int .i64 lp1_1)), (27, (.pointer (some ⟨b4, b4o, none⟩))), (28, (.pointer (some ⟨b4, b4o + 2, none⟩))), (29, (.int .i64 x3.pts)), (30, vp0), (31, (.int .i64 p1)), (32, (.pointer (some ⟨b5, b5o, none⟩))), (33, (.pointer (some ⟨b5, b5o + 2, none⟩))), (34, (.int .i64 x4.pts)), (35, (.bool (decide (x3.pts = x4.pts)))), (36, (.bool (decide (x3.pts = x4.pts))))] a) ?_ ?_
            · rcases Bool.eq_false_or_eq_true (decide (x3.pts = x4.pts)) with hb4 | hb4
              ·
                refine q_val (wk1 hE rfl rfl rfl hb4) rfl rfl hE (v := (.int .i64 lp1_1)) (ex_move rfl hE rfl) ?_
                intro a hE
                refine q_val (wk1 hE rfl rfl rfl hb4) rfl rfl hE (v := (.int .i64 p1)) (ex_move rfl hE rfl) ?_
                intro a hE
                refine q_val (wk1 hE rfl rfl rfl hb4) rfl rfl hE (v := (.bool (decide (lp1_1 < p1)))) (ex_lss rfl hE rfl rfl) ?_
                intro a hE
                refine q_val (wk1 hE rfl rfl rfl hb3) rfl rfl hE (v := (.bool (decide (lp1_1 < p1)))) (ex_pick1 rfl hE rfl hb4 rfl) ?_
                intro a hE
                have hE := hE.eqv (v' := (.bool ((decide (x3.pts = x4.pts)) && (decide (lp1_1 < p1))))) (by rw [hb4]; rfl)
                exact q_nil (hE.cut ⟨rfl, rfl, rfl, rfl, rfl, rfl, rfl, rfl, rfl, rfl, rfl, rfl, rfl, rfl, rfl, rfl, rfl, rfl, trivial⟩)
              ·
                refine q_skip (wk2 hE rfl rfl rfl hb4) rfl rfl hE ?_
                intro a hE
                refine q_skip (wk2 hE rfl rfl rfl hb4) rfl rfl hE ?_
                intro a hE
                refine q_skip (wk2 hE rfl rfl rfl hb4) rfl rfl hE ?_
                intro a hE
                refine q_val (wk1 hE rfl rfl rfl hb3) rfl rfl hE (v := (.bool false)) (ex_pick0 rfl hE rfl hb4 rfl) ?_
                intro a hE
                have hE := hE.eqv (v' := (.bool ((decide (x3.pts = x4.pts)) && (decide (lp1_1 < p1))))) (by rw [hb4]; rfl)
                exact q_nil (hE.cut ⟨rfl, rfl, rfl, rfl, rfl, rfl, rfl, rfl, rfl, rfl, rfl, rfl, rfl, rfl, rfl, rfl, rfl, rfl, trivial⟩)
            · intro a hE
              refine q_val (wk0 rfl) rfl rfl hE (v := (.bool ((decide (x3.pts = x4.pts)) && (decide (lp1_1 < p1))))) (ex_pick0 rfl hE rfl hb3 rfl) ?_
              intro a hE
              obtain rfl := Option.some.inj hg1
              exact q_nil (hE.cut ⟨rfl, rfl, rfl, rfl, rfl, trivial⟩)
        · intro a hE
          refine q_nil fun w hp => ?_
          have hp : Hp Z ρ (L) w := hp
          refine k_if hE rfl (fun hb5 => ?_) (fun hb5 => ?_)
          · replace hl1 := (it hb5).symm.trans hl1
            refine k_region ?_
            refine s_val (wk0 rfl) rfl rfl hE hp (v := (.int .i64 lp1_0)) (ex_move rfl hE rfl) ?_
            intro a hE
            obtain ⟨x5, ex5, hl1⟩ := bnd hl1
            refine s_val (wk0 rfl) rfl rfl hE hp (v := (.int .i64 x5)) (ex_add rfl hE rfl rfl (inK_some ex5)) ?_
            intro a hE
            refine s_val (wk0 rfl) rfl rfl hE hp (v := (.int .i64 x5)) (ex_asn rfl hE rfl) ?_
            intro a hE
            refine s_nil ?_
            refine k_region ?_
            refine s_val (wk0 rfl) rfl rfl hE hp (v := (.int .i64 lp1_1)) (ex_move rfl hE rfl) ?_
            intro a hE
            obtain ⟨x6, ex6, hl1⟩ := bnd hl1
            refine s_val (wk0 rfl) rfl rfl hE hp (v := (.int .i64 x6)) (ex_add rfl hE rfl rfl (inK_some ex6)) ?_
            intro a hE
            refine s_val (wk0 rfl) rfl rfl hE hp (v := (.int .i64 x6)) (ex_asn rfl hE rfl) ?_
            intro a hE
            refine s_nil ?_
            exact ⟨_, (Option.some.inj hl1).symm, hE.cut ⟨rfl, rfl, rfl, rfl, trivial⟩, hp⟩
          · replace hl1 := (ie hb5).symm.trans hl1
            refine k_skip ?_
            refine k_region ?_
            refine s_val (wk0 rfl) rfl rfl hE hp (v := (.int .i64 lp1_1)) (ex_move rfl hE rfl) ?_
            intro a hE
            obtain ⟨x7, ex7, hl1⟩ := bnd hl1
            refine s_val (wk0 rfl) rfl rfl hE hp (v := (.int .i64 x7)) (ex_add rfl hE rfl rfl (inK_some ex7)) ?_
            intro a hE
            refine s_val (wk0 rfl) rfl rfl hE hp (v := (.int .i64 x7)) (ex_asn rfl hE rfl) ?_
            intro a hE
            refine s_nil ?_
            exact ⟨_, (Option.some.inj hl1).symm, hE.cut ⟨rfl, rfl, rfl, rfl, trivial⟩, hp⟩
      · replace hl1 := (ie hb2).symm.trans hl1
        refine k_exit ?_
        refine ⟨_, (Option.some.inj hl1).symm, fun hbb => ?_⟩
        subst hbb
        exact ⟨hE.cut ⟨rfl, trivial⟩, hp⟩
  · rintro a w ⟨hE, hp⟩
    refine k_seq ?_
    refine k_region ?_
    refine s_val (wk0 rfl) rfl rfl hE hp (v := (.int .i64 b1)) (ex_move rfl hE rfl) ?_
    intro a hE
    refine s_val (wk0 rfl) rfl rfl hE hp (v := (.int .i64 b1)) (ex_asn rfl hE rfl) ?_
    intro a hE
    refine s_nil ?_
    refine k_ret ?_
    obtain rfl := Option.some.inj hm
    exact ret1 hE rfl rfl ⟨_, rfl, rfl, hp⟩
/- assessor/assessorref52.Counting -/
set_option maxRecDepth 100000 in
set_option maxHeartbeats 4000000 in
theorem c_assessorref52_Counting {Z : World} {ρ : PH} {L : List Atom} {w : World} (p0 : Rule) (p1 : (List Att)) (vp1 : Value) (hp1 : RoSl ρ vp1 p1) (hp : Hp Z ρ (L) w) (r : (List Int)) (hm : m_assessorref52_Counting p0 p1 = some r) :
    Calls Try.prog 17 #[(.agg #[(.int .i64 p0.kind), (.int .i64 p0.most), (.int .i64 p0.pause), (.int .i64 p0.keep)]), vp1] w (Ret fun v w' => ∃ v1, v = v1 ∧ Hp Z ρ (OwnSl 3 v1 r :: L) w') := by
  refine enter (N := 61) Try.func17 rfl rfl [(0, (.agg #[(.int .i64 p0.kind), (.int .i64 p0.most), (.int .i64 p0.pause), (.int .i64 p0.keep)])), (1, vp1)] rfl (argsIn_mem ⟨rfl, rfl, trivial⟩) fun a hE => ?_
  unfold m_assessorref52_Counting at hm
  refine k_seq ?_
  refine k_region ?_
  refine s_box (wk0 rfl) rfl rfl hE hp rfl (v := (.agg #[(.int .i64 p0.kind), (.int .i64 p0.most), (.int .i64 p0.pause), (.int .i64 p0.keep)])) rfl ?_
  intro a w b1 hE hp
  have hp : Hp Z ρ (Pt b1 (.cells #[(.int .i64 p0.kind), (.int .i64 p0.most), (.int .i64 p0.pause), (.int .i64 p0.keep)] 23 (0, 0)) :: L) w := hp
  refine s_val (wk0 rfl) rfl rfl hE hp (v := (.slice none 0 0)) (ex_asn rfl hE rfl) ?_
  intro a hE
  refine s_nil ?_
  refine k_seq ?_
  refine k_region ?_
  refine s_lit (wk0 rfl) rfl rfl hE hp rfl [] trivial [] 3 (fun w => by simp [Instr.buildSlice, Instr.fill, Value.cells, go_sem]) ?_
  intro a w b2 hE hp
  have hp : Hp Z ρ (Pt b2 (.cells #[] 3 (0, 0)) :: Pt b1 (.cells #[(.int .i64 p0.kind), (.int .i64 p0.most), (.int .i64 p0.pause), (.int .i64 p0.keep)] 23 (0, 0)) :: L) w := hp
  refine s_val (wk0 rfl) rfl rfl hE hp (v := (.slice (some ⟨b2, 0, none⟩) 0 0)) (ex_asn rfl hE rfl) ?_
  intro a hE
  refine s_nil ?_
  refine k_seq ?_
  refine k_seq ?_
  refine k_region ?_
  refine s_val (wk0 rfl) rfl rfl hE hp (v := (.agg #[(.int .i64 p0.kind), (.int .i64 p0.most), (.int .i64 p0.pause), (.int .i64 p0.keep)])) (ex_load rfl hE rfl (fun w hw => run_ldN (cs := [(.int .i64 p0.kind), (.int .i64 p0.most), (.int .i64 p0.pause), (.int .i64 p0.keep)]) varty23 (Hp.cN 1 rfl 0 _ (sub_all rfl) w hw))) ?_
  intro a hE
  refine s_val (wk0 rfl) rfl rfl hE hp (v := vp1) (ex_move rfl hE rfl) ?_
  intro a hE
  obtain ⟨x1, ex1, hm⟩ := bnd hm
  refine s_call (wk0 rfl) rfl rfl hE rfl [(.agg #[(.int .i64 p0.kind), (.int .i64 p0.most), (.int .i64 p0.pause), (.int .i64 p0.keep)]), vp1] ⟨rfl, rfl, trivial⟩ ent24 (c_assessorref52_Valid p0 p1 vp1 hp1 hp x1 ex1) Ret.ret ?_
  intro v a w hR hE
  obtain ⟨rfl, hp⟩ := Ret.of hR
  have hp : Hp Z ρ (Pt b2 (.cells #[] 3 (0, 0)) :: Pt b1 (.cells #[(.int .i64 p0.kind), (.int .i64 p0.most), (.int .i64 p0.pause), (.int .i64 p0.keep)] 23 (0, 0)) :: L) w := hp
  refine s_val (wk0 rfl) rfl rfl hE hp (v := (.bool (!x1))) (ex_not rfl hE rfl) ?_
  intro a hE
  refine s_nil ?_
  refine k_if hE rfl (fun hb1 => ?_) (fun hb1 => ?_)
  · replace hm := (it hb1).symm.trans hm
    refine k_seq ?_
    refine k_region ?_
    refine s_val (wk0 rfl) rfl rfl hE hp (v := (.slice (some ⟨b2, 0, none⟩) 0 0)) (ex_move rfl hE rfl) ?_
    intro a hE
    refine s_val (wk0 rfl) rfl rfl hE hp (v := (.slice (some ⟨b2, 0, none⟩) 0 0)) (ex_asn rfl hE rfl) ?_
    intro a hE
    refine s_nil ?_
    refine k_ret ?_
    have hp := (hp.get 0 rfl).imp (own_of_pt (l := (([] : List Int) : List Int)) (n := 0) rfl (by decide) rfl)
    have hp : Hp Z ρ (OwnSl 3 (.slice (some ⟨b2, 0, none⟩) 0 0) ([] : List Int) :: Pt b1 (.cells #[(.int .i64 p0.kind), (.int .i64 p0.most), (.int .i64 p0.pause), (.int .i64 p0.keep)] 23 (0, 0)) :: L) w := hp
    obtain rfl := Option.some.inj hm
    exact ret1 hE rfl rfl ⟨_, rfl, _, rfl, ((hp.get 1 rfl).drop)⟩
  · replace hm := (ie hb1).symm.trans hm
    refine k_skip ?_
    refine k_seq ?_
    refine k_seq ?_
    refine k_region ?_
    refine s_val (wk0 rfl) rfl rfl hE hp (v := (.int .i64 0)) (ex_asn rfl hE rfl) ?_
    intro a hE
    refine s_nil ?_
    have hp := (hp.get 0 rfl).imp (own_of_pt (l := (([] : List Int) : List Int)) (n := 0) rfl (by decide) rfl)
    have hp : Hp Z ρ (OwnSl 3 (.slice (some ⟨b2, 0, none⟩) 0 0) ([] : List Int) :: Pt b1 (.cells #[(.int .i64 p0.kind), (.int .i64 p0.most), (.int .i64 p0.pause), (.int .i64 p0.keep)] 23 (0, 0)) :: L) w := hp
    obtain ⟨b3, hb2, hm⟩ := bnd hm
    refine k_block (fun a w => ∃ w2 : Value, Env 61 [(5, w2)] a ∧ Hp Z ρ (OwnSl 3 w2 b3 :: Pt b1 (.cells #[(.int .i64 p0.kind), (.int .i64 p0.most), (.int .i64 p0.pause), (.int .i64 p0.keep)] 23 (0, 0)) :: L) w) ?_ ?_
    · refine k_loop hb2 (fun s a w => ∃ w2 : Value, Env 61 [(1, vp1), (2, (.pointer (some ⟨b1, 0, none⟩))), (5, w2), (6, (.int .i64 s.1))] a ∧ Hp Z ρ (OwnSl 3 w2 s.2 :: Pt b1 (.cells #[(.int .i64 p0.kind), (.int .i64 p0.most), (.int .i64 p0.pause), (.int .i64 p0.keep)] 23 (0, 0)) :: L) w) ?_ ?_
      · exact ⟨_, hE.cut ⟨rfl, rfl, rfl, rfl, trivial⟩, hp⟩
      · rintro ⟨lp1_0, lp1_1⟩ st a w ⟨w2, hE, hp⟩ hl1
        have hE : Env 61 [(1, vp1), (2, (.pointer (some ⟨b1, 0, none⟩))), (5, w2), (6, (.int .i64 lp1_0))] a := hE
        have hp : Hp Z ρ (OwnSl 3 w2 lp1_1 :: Pt b1 (.cells #[(.int .i64 p0.kind), (.int .i64 p0.most), (.int .i64 p0.pause), (.int .i64 p0.keep)] 23 (0, 0)) :: L) w := hp
        replace hl1 : m_assessorref52_Counting_lp1 p0 p1 lp1_0 lp1_1 = some st := hl1
        unfold m_assessorref52_Counting_lp1 at hl1
        refine k_seq ?_
        refine k_seq ?_
        refine k_region ?_
        refine s_val (wk0 rfl) rfl rfl hE hp (v := (.int .i64 lp1_0)) (ex_move rfl hE rfl) ?_
        intro a hE
        refine s_val (wk0 rfl) rfl rfl hE hp (v := vp1) (ex_move rfl hE rfl) ?_
        intro a hE
        refine s_val (wk0 rfl) rfl rfl hE hp (v := (.int .i64 (p1.length : Int))) (ex_len rfl hE rfl (RoSl.len hp1 slty24)) ?_
        intro a hE
        refine s_val (wk0 rfl) rfl rfl hE hp (v := (.bool (decide (lp1_0 < (p1.length : Int))))) (ex_lss rfl hE rfl rfl) ?_
        intro a hE
        refine s_nil ?_
        refine k_if hE rfl (fun hb3 => ?_) (fun hb3 => ?_)
        · replace hl1 := (it hb3).symm.trans hl1
          refine k_skip ?_
          refine k_seq ?_
          refine k_plain ?_
          refine k_seq ?_
          refine k_quiet (by kernel_rfl) (by kernel_rfl) hp ?_
          refine q_val (wk0 rfl) rfl rfl hE (v := (.pointer (some ⟨b1, 0, none⟩))) (ex_field rfl hE rfl (fldty23_0 _ _)) ?_
          intro a hE
          refine q_val (wk0 rfl) rfl rfl hE (v := (.int .i64 p0.kind)) (ex_load rfl hE rfl (fun w hw => run_ld1 varty3 (Hp.c 1 rfl 0 rfl w hw))) ?_
          intro a hE
          refine q_val (wk0 rfl) rfl rfl hE (v := (.bool (decide (p0.kind = 0)))) (ex_eql rfl hE rfl rfl) ?_
          intro a hE
          refine q_val (wk0 rfl) rfl rfl hE (v := (.bool (decide (p0.kind = 0)))) (ex_move rfl hE rfl) ?_
          intro a hE
          obtain ⟨m1, hg1, hl1⟩ := bnd hl1
          refine q_cut [_, _, _, _, _] (fun a => Env 61 [(28, (.bool m1)), (1, vp1), (2, (.pointer (some ⟨b1, 0, none⟩))), (5, w2), (6, (.int .i64 lp1_0))] a) ?_ ?_
          · rcases Bool.eq_false_or_eq_true (decide (p0.kind = 0)) with hb4 | hb4
            ·
              replace hg1 := (it hb4).symm.trans hg1
              refine q_val (wk1 hE rfl rfl rfl hb4) rfl rfl hE (v := vp1) (ex_move rfl hE rfl) ?_
              intro a hE
              refine q_val (wk1 hE rfl rfl rfl hb4) rfl rfl hE (v := (.int .i64 lp1_0)) (ex_move rfl hE rfl) ?_
              intro a hE
              obtain ⟨x2, ex2, hg1⟩ := bnd hg1
              refine q_call (wk1 hE rfl rfl rfl hb4) rfl rfl hE rfl [vp1, (.int .i64 lp1_0)] ⟨rfl, rfl, trivial⟩ ent34 (v := (.int .i64 x2)) (fun w hw => Calls.mono (c_assessorref52_better p1 vp1 hp1 lp1_0 hw x2 ex2) fun e w' ⟨v, he, hv, hh⟩ => ⟨by rw [he, hv], hh⟩) ?_
              intro a hE
              refine q_val (wk1 hE rfl rfl rfl hb4) rfl rfl hE (v := (.bool (decide (x2 = 0)))) (ex_eql rfl hE rfl rfl) ?_
              intro a hE
              refine q_val (wk0 rfl) rfl rfl hE (v := (.bool (decide (x2 = 0)))) (ex_pick1 rfl hE rfl hb4 rfl) ?_
              intro a hE
              obtain rfl := Option.some.inj hg1
              exact q_nil (hE.cut ⟨rfl, rfl, rfl, rfl, rfl, trivial⟩)
            ·
              replace hg1 := (ie hb4).symm.trans hg1
              refine q_skip (wk2 hE rfl rfl rfl hb4) rfl rfl hE ?_
              intro a hE
              refine q_skip (wk2 hE rfl rfl rfl hb4) rfl rfl hE ?_
              intro a hE
              refine q_skip (wk2 hE rfl rfl rfl hb4) rfl rfl hE ?_
              intro a hE
              refine q_skip (wk2 hE rfl rfl rfl hb4) rfl rfl hE ?_
              intro a hE
              refine q_val (wk0 rfl) rfl rfl hE (v := (.bool false)) (ex_pick0 rfl hE rfl hb4 rfl) ?_
              intro a hE
              obtain rfl := Option.some.inj hg1
              exact q_nil (hE.cut ⟨rfl, rfl, rfl, rfl, rfl, trivial⟩)
          · intro a hE
            refine q_val (wk0 rfl) rfl rfl hE (v := (.bool m1)) (ex_move rfl hE rfl) ?_
            intro a hE
            obtain ⟨m2, hg2, hl1⟩ := bnd hl1
            refine q_cut [_, _, _, _, _, _, _, _, _, _, _] (fun a => Env 61 [(40, (.bool m2)), (1, vp1), (2, (.pointer (some ⟨b1, 0, none⟩))), (5, w2), (6, (.int .i64 lp1_0))] a) ?_ ?_
            · rcases Bool.eq_false_or_eq_true m1 with hb5 | hb5
              ·
                replace hg2 := (it hb5).symm.trans hg2
                refine q_skip (wk2 hE rfl rfl rfl hb5) rfl rfl hE ?_
                intro a hE
                refine q_skip (wk2 hE rfl rfl rfl hb5) rfl rfl hE ?_
                intro a hE
                refine q_skip (wk2 hE rfl rfl rfl hb5) rfl rfl hE ?_
                intro a hE
                refine q_skip (wk2 hE rfl rfl rfl hb5) rfl rfl hE ?_
                intro a hE
                refine q_skip (wk3 hE rfl rfl rfl) rfl rfl hE ?_
                intro a hE
                refine q_skip (wk3 hE rfl rfl rfl) rfl rfl hE ?_
                intro a hE
                refine q_skip (wk3 hE rfl rfl rfl) rfl rfl hE ?_
                intro a hE
                refine q_skip (wk3 hE rfl rfl rfl) rfl rfl hE ?_
                intro a hE
                refine q_skip (wk3 hE rfl rfl rfl) rfl rfl hE ?_
                intro a hE
                refine q_skip (wk2 hE rfl rfl rfl hb5) rfl rfl hE ?_
                intro a hE
                refine q_val (wk0 rfl) rfl rfl hE (v := (.bool true)) (ex_pick1 rfl hE rfl hb5 rfl) ?_
                intro a hE
                obtain rfl := Option.some.inj hg2
                exact q_nil (hE.cut ⟨rfl, rfl, rfl, rfl, rfl, trivial⟩)
              ·
                replace hg2 := (ie hb5).symm.trans hg2
                refine q_val (wk1 hE rfl rfl rfl hb5) rfl rfl hE (v := (.pointer (some ⟨b1, 0, none⟩))) (ex_field rfl hE rfl (fldty23_0 _ _)) ?_
                intro a hE
                refine q_val (wk1 hE rfl rfl rfl hb5) rfl rfl hE (v := (.int .i64 p0.kind)) (ex_load rfl hE rfl (fun w hw => run_ld1 varty3 (Hp.c 1 rfl 0 rfl w hw))) ?_
                intro a hE
                refine q_val (wk1 hE rfl rfl rfl hb5) rfl rfl hE (v := (.bool (decide (p0.kind = 1)))) (ex_eql rfl hE rfl rfl) ?_
                intro a hE
                refine q_val (wk1 hE rfl rfl rfl hb5) rfl rfl hE (v := (.bool (decide (p0.kind = 1)))) (ex_move rfl hE rfl) ?_
                intro a hE
                obtain ⟨m3, hg3, hg2⟩ := bnd hg2
                refine q_cut [_, _, _, _, _, _] (fun a => Env 61 [(39, (.bool m3)), (1, vp1), (2, (.pointer (some ⟨b1, 0, none⟩))), (5, w2), (6, (.int .i64 lp1_0)), (29, (.bool m1)), (30, (.pointer (some ⟨b1, 0, none⟩))), (31, (.int .i64 p0.kind)), (32, (.bool (decide (p0.kind = 1)))), (33, (.bool (decide (p0.kind = 1))))] a) ?_ ?_
                · rcases Bool.eq_false_or_eq_true (decide (p0.kind = 1)) with hb6 | hb6
                  ·
                    replace hg3 := (it hb6).symm.trans hg3
                    refine q_val (wk1 hE rfl rfl rfl hb6) rfl rfl hE (v := (.int .i64 lp1_0)) (ex_move rfl hE rfl) ?_
                    intro a hE
                    refine q_val (wk1 hE rfl rfl rfl hb6) rfl rfl hE (v := vp1) (ex_move rfl hE rfl) ?_
                    intro a hE
                    refine q_val (wk1 hE rfl rfl rfl hb6) rfl rfl hE (v := (.int .i64 (p1.length : Int))) (ex_len rfl hE rfl (RoSl.len hp1 slty24)) ?_
                    intro a hE
                    obtain ⟨x3, ex3, hg3⟩ := bnd hg3
                    refine q_val (wk1 hE rfl rfl rfl hb6) rfl rfl hE (v := (.int .i64 x3)) (ex_sub rfl hE rfl rfl (inK_some ex3)) ?_
                    intro a hE
                    refine q_val (wk1 hE rfl rfl rfl hb6) rfl rfl hE (v := (.bool (decide (lp1_0 = x3)))) (ex_eql rfl hE rfl rfl) ?_
                    intro a hE
                    refine q_val (wk1 hE rfl rfl rfl hb5) rfl rfl hE (v := (.bool (decide (lp1_0 = x3)))) (ex_pick1 rfl hE rfl hb6 rfl) ?_
                    intro a hE
                    obtain rfl := Option.some.inj hg3
                    exact q_nil (hE.cut ⟨rfl, rfl, rfl, rfl, rfl, rfl, rfl, rfl, rfl, rfl, trivial⟩)
                  ·
                    replace hg3 := (ie hb6).symm.trans hg3
                    refine q_skip (wk2 hE rfl rfl rfl hb6) rfl rfl hE ?_
                    intro a hE
                    refine q_skip (wk2 hE rfl rfl rfl hb6) rfl rfl hE ?_
                    intro a hE
                    refine q_skip (wk2 hE rfl rfl rfl hb6) rfl rfl hE ?_
                    intro a hE
                    refine q_skip (wk2 hE rfl rfl rfl hb6) rfl rfl hE ?_
                    intro a hE
                    refine q_skip (wk2 hE rfl rfl rfl hb6) rfl rfl hE ?_
                    intro a hE
                    refine q_val (wk1 hE rfl rfl rfl hb5) rfl rfl hE (v := (.bool false)) (ex_pick0 rfl hE rfl hb6 rfl) ?_
                    intro a hE
                    obtain rfl := Option.some.inj hg3
                    exact q_nil (hE.cut ⟨rfl, rfl, rfl, rfl, rfl, rfl, rfl, rfl, rfl, rfl, trivial⟩)
                · intro a hE
                  refine q_val (wk0 rfl) rfl rfl hE (v := (.bool m3)) (ex_pick0 rfl hE rfl hb5 rfl) ?_
                  intro a hE
                  obtain rfl := Option.some.inj hg2
                  exact q_nil (hE.cut ⟨rfl, rfl, rfl, rfl, rfl, trivial⟩)
            · intro a hE
              refine q_val (wk0 rfl) rfl rfl hE (v := (.bool m2)) (ex_move rfl hE rfl) ?_
              intro a hE
              obtain ⟨m4, hg4, hl1⟩ := bnd hl1
              refine q_cut [_, _, _, _, _, _, _, _, _, _, _, _] (fun a => Env 61 [(53, (.bool m4)), (1, vp1), (2, (.pointer (some ⟨b1, 0, none⟩))), (5, w2), (6, (.int .i64 lp1_0))] a) ?_ ?_
              · rcases Bool.eq_false_or_eq_true m2 with hb7 | hb7
                ·
                  replace hg4 := (it hb7).symm.trans hg4
                  refine q_skip (wk2 hE rfl rfl rfl hb7) rfl rfl hE ?_
                  intro a hE
                  refine q_skip (wk2 hE rfl rfl rfl hb7) rfl rfl hE ?_
                  intro a hE
                  refine q_skip (wk2 hE rfl rfl rfl hb7) rfl rfl hE ?_
                  intro a hE
                  refine q_skip (wk2 hE rfl rfl rfl hb7) rfl rfl hE ?_
                  intro a hE
                  refine q_skip (wk3 hE rfl rfl rfl) rfl rfl hE ?_
                  intro a hE
                  refine q_skip (wk3 hE rfl rfl rfl) rfl rfl hE ?_
                  intro a hE
                  refine q_skip (wk3 hE rfl rfl rfl) rfl rfl hE ?_
                  intro a hE
                  refine q_skip (wk3 hE rfl rfl rfl) rfl rfl hE ?_
                  intro a hE
                  refine q_skip (wk3 hE rfl rfl rfl) rfl rfl hE ?_
                  intro a hE
                  refine q_skip (wk3 hE rfl rfl rfl) rfl rfl hE ?_
                  intro a hE
                  refine q_skip (wk2 hE rfl rfl rfl hb7) rfl rfl hE ?_
                  intro a hE
                  refine q_val (wk0 rfl) rfl rfl hE (v := (.bool true)) (ex_pick1 rfl hE rfl hb7 rfl) ?_
                  intro a hE
                  obtain rfl := Option.some.inj hg4
                  exact q_nil (hE.cut ⟨rfl, rfl, rfl, rfl, rfl, trivial⟩)
                ·
                  replace hg4 := (ie hb7).symm.trans hg4
                  refine q_val (wk1 hE rfl rfl rfl hb7) rfl rfl hE (v := (.pointer (some ⟨b1, 0, none⟩))) (ex_field rfl hE rfl (fldty23_0 _ _)) ?_
                  intro a hE
                  refine q_val (wk1 hE rfl rfl rfl hb7) rfl rfl hE (v := (.int .i64 p0.kind)) (ex_load rfl hE rfl (fun w hw => run_ld1 varty3 (Hp.c 1 rfl 0 rfl w hw))) ?_
                  intro a hE
                  refine q_val (wk1 hE rfl rfl rfl hb7) rfl rfl hE (v := (.bool (decide (p0.kind = 2)))) (ex_eql rfl hE rfl rfl) ?_
                  intro a hE
                  refine q_val (wk1 hE rfl rfl rfl hb7) rfl rfl hE (v := (.bool (decide (p0.kind = 2)))) (ex_move rfl hE rfl) ?_
                  intro a hE
                  obtain ⟨m5, hg5, hg4⟩ := bnd hg4
                  refine q_cut [_, _, _, _, _, _, _] (fun a => Env 61 [(52, (.bool m5)), (1, vp1), (2, (.pointer (some ⟨b1, 0, none⟩))), (5, w2), (6, (.int .i64 lp1_0)), (41, (.bool m2)), (42, (.pointer (some ⟨b1, 0, none⟩))), (43, (.int .i64 p0.kind)), (44, (.bool (decide (p0.kind = 2)))), (45, (.bool (decide (p0.kind = 2))))] a) ?_ ?_
                  · rcases Bool.eq_false_or_eq_true (decide (p0.kind = 2)) with hb8 | hb8
                    ·
                      replace hg5 := (it hb8).symm.trans hg5
                      refine q_val (wk1 hE rfl rfl rfl hb8) rfl rfl hE (v := vp1) (ex_move rfl hE rfl) ?_
                      intro a hE
                      refine q_val (wk1 hE rfl rfl rfl hb8) rfl rfl hE (v := (.int .i64 lp1_0)) (ex_move rfl hE rfl) ?_
                      intro a hE
                      obtain ⟨x4, ex4, hg5⟩ := bnd hg5
                      refine q_call (wk1 hE rfl rfl rfl hb8) rfl rfl hE rfl [vp1, (.int .i64 lp1_0)] ⟨rfl, rfl, trivial⟩ ent34 (v := (.int .i64 x4)) (fun w hw => Calls.mono (c_assessorref52_better p1 vp1 hp1 lp1_0 hw x4 ex4) fun e w' ⟨v, he, hv, hh⟩ => ⟨by rw [he, hv], hh⟩) ?_
                      intro a hE
                      refine q_val (wk1 hE rfl rfl rfl hb8) rfl rfl hE (v := (.pointer (some ⟨b1, 3, none⟩))) (ex_field rfl hE rfl (fldty23_3 _ _)) ?_
                      intro a hE
                      refine q_val (wk1 hE rfl rfl rfl hb8) rfl rfl hE (v := (.int .i64 p0.keep)) (ex_load rfl hE rfl (fun w hw => run_ld1 varty3 (Hp.c 1 rfl 3 rfl w hw))) ?_
                      intro a hE
                      refine q_val (wk1 hE rfl rfl rfl hb8) rfl rfl hE (v := (.bool (decide (x4 < p0.keep)))) (ex_lss rfl hE rfl rfl) ?_
                      intro a hE
                      refine q_val (wk1 hE rfl rfl rfl hb7) rfl rfl hE (v := (.bool (decide (x4 < p0.keep)))) (ex_pick1 rfl hE rfl hb8 rfl) ?_
                      intro a hE
                      obtain rfl := Option.some.inj hg5
                      exact q_nil (hE.cut ⟨rfl, rfl, rfl, rfl, rfl, rfl, rfl, rfl, rfl, rfl, trivial⟩)
                    ·
                      replace hg5 := (ie hb8).symm.trans hg5
                      refine q_skip (wk2 hE rfl rfl rfl hb8) rfl rfl hE ?_
                      intro a hE
                      refine q_skip (wk2 hE rfl rfl rfl hb8) rfl rfl hE ?_
                      intro a hE
                      refine q_skip (wk2 hE rfl rfl rfl hb8) rfl rfl hE ?_
                      intro a hE
                      refine q_skip (wk2 hE rfl rfl rfl hb8) rfl rfl hE ?_
                      intro a hE
                      refine q_skip (wk2 hE rfl rfl rfl hb8) rfl rfl hE ?_
                      intro a hE
                      refine q_skip (wk2 hE rfl rfl rfl hb8) rfl rfl hE ?_
                      intro a hE
                      refine q_val (wk1 hE rfl rfl rfl hb7) rfl rfl hE (v := (.bool false)) (ex_pick0 rfl hE rfl hb8 rfl) ?_
                      intro a hE
                      obtain rfl := Option.some.inj hg5
                      exact q_nil (hE.cut ⟨rfl, rfl, rfl, rfl, rfl, rfl, rfl, rfl, rfl, rfl, trivial⟩)
                  · intro a hE
                    refine q_val (wk0 rfl) rfl rfl hE (v := (.bool m5)) (ex_pick0 rfl hE rfl hb7 rfl) ?_
                    intro a hE
                    obtain rfl := Option.some.inj hg4
                    exact q_nil (hE.cut ⟨rfl, rfl, rfl, rfl, rfl, trivial⟩)
              · intro a hE
                refine q_val (wk0 rfl) rfl rfl hE (v := (.bool m4)) (ex_asn rfl hE rfl) ?_
                intro a hE
                refine q_nil fun w hp => ?_
                have hp : Hp Z ρ (OwnSl 3 w2 lp1_1 :: Pt b1 (.cells #[(.int .i64 p0.kind), (.int .i64 p0.most), (.int .i64 p0.pause), (.int .i64 p0.keep)] 23 (0, 0)) :: L) w := hp
                refine k_seq ?_
                refine k_region ?_
                refine s_val (wk0 rfl) rfl rfl hE hp (v := (.bool m4)) (ex_move rfl hE rfl) ?_
                intro a hE
                refine s_nil ?_
                refine k_if hE rfl (fun hb9 => ?_) (fun hb9 => ?_)
                · replace hl1 := (it hb9).symm.trans hl1
                  refine k_region ?_
                  refine s_val (wk0 rfl) rfl rfl hE hp (v := w2) (ex_move rfl hE rfl) ?_
                  intro a hE
                  refine s_val (wk0 rfl) rfl rfl hE hp (v := (.int .i64 lp1_0)) (ex_move rfl hE rfl) ?_
                  intro a hE
                  obtain ⟨x5, ex5, hl1⟩ := bnd hl1
                  refine s_val (wk0 rfl) rfl rfl hE hp (v := (.int .i64 x5)) (ex_add rfl hE rfl rfl (inK_some ex5)) ?_
                  intro a hE
                  refine s_lit (wk0 rfl) rfl rfl hE hp rfl [(0, (.int .i64 x5))] ⟨⟨rfl, rfl⟩, trivial⟩ [(.int .i64 x5)] 3 (fun w => by simp [Instr.buildSlice, Instr.fill, Value.cells, go_sem]) ?_
                  intro a w b4 hE hp
                  have hp : Hp Z ρ (Pt b4 (.cells #[(.int .i64 x5)] 3 (0, 0)) :: OwnSl 3 w2 lp1_1 :: Pt b1 (.cells #[(.int .i64 p0.kind), (.int .i64 p0.most), (.int .i64 p0.pause), (.int .i64 p0.keep)] 23 (0, 0)) :: L) w := hp
                  obtain ⟨x6, ex6, hl1⟩ := bnd hl1
                  refine s_app (wk0 rfl) rfl rfl hE hp rfl slty32 rfl rfl 1 rfl rfl (l2 := [x5]) rfl (fun j u hj => by have := Hp.cN 0 rfl 0 _ (sub_all rfl) w hp j u hj; simpa using this) ex6 ?_
                  intro v1 a w hE hp
                  have hp : Hp Z ρ (Pt b4 (.cells #[(.int .i64 x5)] 3 (0, 0)) :: OwnSl 3 v1 x6 :: Pt b1 (.cells #[(.int .i64 p0.kind), (.int .i64 p0.most), (.int .i64 p0.pause), (.int .i64 p0.keep)] 23 (0, 0)) :: L) w := hp
                  refine s_val (wk0 rfl) rfl rfl hE hp (v := v1) (ex_asn rfl hE rfl) ?_
                  intro a hE
                  refine s_nil ?_
                  refine k_region ?_
                  refine s_val (wk0 rfl) rfl rfl hE hp (v := (.int .i64 lp1_0)) (ex_move rfl hE rfl) ?_
                  intro a hE
                  obtain ⟨x7, ex7, hl1⟩ := bnd hl1
                  refine s_val (wk0 rfl) rfl rfl hE hp (v := (.int .i64 x7)) (ex_add rfl hE rfl rfl (inK_some ex7)) ?_
                  intro a hE
                  refine s_val (wk0 rfl) rfl rfl hE hp (v := (.int .i64 x7)) (ex_asn rfl hE rfl) ?_
                  intro a hE
                  refine s_nil ?_
                  exact ⟨_, (Option.some.inj hl1).symm, _, hE.cut ⟨rfl, rfl, rfl, rfl, trivial⟩, (hp.drop)⟩
                · replace hl1 := (ie hb9).symm.trans hl1
                  refine k_skip ?_
                  refine k_region ?_
                  refine s_val (wk0 rfl) rfl rfl hE hp (v := (.int .i64 lp1_0)) (ex_move rfl hE rfl) ?_
                  intro a hE
                  obtain ⟨x8, ex8, hl1⟩ := bnd hl1
                  refine s_val (wk0 rfl) rfl rfl hE hp (v := (.int .i64 x8)) (ex_add rfl hE rfl rfl (inK_some ex8)) ?_
                  intro a hE
                  refine s_val (wk0 rfl) rfl rfl hE hp (v := (.int .i64 x8)) (ex_asn rfl hE rfl) ?_
                  intro a hE
                  refine s_nil ?_
                  exact ⟨_, (Option.some.inj hl1).symm, _, hE.cut ⟨rfl, rfl, rfl, rfl, trivial⟩, hp⟩
        · replace hl1 := (ie hb3).symm.trans hl1
          refine k_exit ?_
          refine ⟨_, (Option.some.inj hl1).symm, fun hbb => ?_⟩
          subst hbb
          exact ⟨_, hE.cut ⟨rfl, trivial⟩, hp⟩
    · rintro a w ⟨w2, hE, hp⟩
      refine k_seq ?_
      refine k_region ?_
      refine s_val (wk0 rfl) rfl rfl hE hp (v := w2) (ex_move rfl hE rfl) ?_
      intro a hE
      refine s_val (wk0 rfl) rfl rfl hE hp (v := w2) (ex_asn rfl hE rfl) ?_
      intro a hE
      refine s_nil ?_
      refine k_ret ?_
      obtain rfl := Option.some.inj hm
      exact ret1 hE rfl rfl ⟨_, rfl, _, rfl, ((hp.get 1 rfl).drop)⟩
/- assessor/assessorref52.Allowed -/
set_option maxRecDepth 100000 in
set_option maxHeartbeats 4000000 in
theorem c_assessorref52_Allowed {Z : World} {ρ : PH} {L : List Atom} {w : World} (p0 : Rule) (p1 : (List Att)) (vp1 : Value) (hp1 : RoSl ρ vp1 p1) (p2 : Int) (hp : Hp Z ρ (L) w) (r : Int) (hm : m_assessorref52_Allowed p0 p1 p2 = some r) :
    Calls Try.prog 26 #[(.agg #[(.int .i64 p0.kind), (.int .i64 p0.most), (.int .i64 p0.pause), (.int .i64 p0.keep)]), vp1, (.int .i64 p2)] w (Ret fun v w' => v = (.int .i64 r) ∧ Hp Z ρ (L) w') := by
  refine enter (N := 52) Try.func26 rfl rfl [(0, (.agg #[(.int .i64 p0.kind), (.int .i64 p0.most), (.int .i64 p0.pause), (.int .i64 p0.keep)])), (1, vp1), (2, (.int .i64 p2))] rfl (argsIn_mem ⟨rfl, rfl, rfl, trivial⟩) fun a hE => ?_
  unfold m_assessorref52_Allowed at hm
  refine k_seq ?_
  refine k_region ?_
  refine s_box (wk0 rfl) rfl rfl hE hp rfl (v := (.agg #[(.int .i64 p0.kind), (.int .i64 p0.most), (.int .i64 p0.pause), (.int .i64 p0.keep)])) rfl ?_
  intro a w b1 hE hp
  have hp : Hp Z ρ (Pt b1 (.cells #[(.int .i64 p0.kind), (.int .i64 p0.most), (.int .i64 p0.pause), (.int .i64 p0.keep)] 23 (0, 0)) :: L) w := hp
  refine s_val (wk0 rfl) rfl rfl hE hp (v := (.int .i64 0)) (ex_asn rfl hE rfl) ?_
  intro a hE
  refine s_nil ?_
  refine k_seq ?_
  refine k_seq ?_
  refine k_region ?_
  refine s_val (wk0 rfl) rfl rfl hE hp (v := (.agg #[(.int .i64 p0.kind), (.int .i64 p0.most), (.int .i64 p0.pause), (.int .i64 p0.keep)])) (ex_load rfl hE rfl (fun w hw => run_ldN (cs := [(.int .i64 p0.kind), (.int .i64 p0.most), (.int .i64 p0.pause), (.int .i64 p0.keep)]) varty23 (Hp.cN 0 rfl 0 _ (sub_all rfl) w hw))) ?_
  intro a hE
  refine s_val (wk0 rfl) rfl rfl hE hp (v := vp1) (ex_move rfl hE rfl) ?_
  intro a hE
  obtain ⟨x1, ex1, hm⟩ := bnd hm
  refine s_call (wk0 rfl) rfl rfl hE rfl [(.agg #[(.int .i64 p0.kind), (.int .i64 p0.most), (.int .i64 p0.pause), (.int .i64 p0.keep)]), vp1] ⟨rfl, rfl, trivial⟩ ent24 (c_assessorref52_Valid p0 p1 vp1 hp1 hp x1 ex1) Ret.ret ?_
  intro v a w hR hE
  obtain ⟨rfl, hp⟩ := Ret.of hR
  have hp : Hp Z ρ (Pt b1 (.cells #[(.int .i64 p0.kind), (.int .i64 p0.most), (.int .i64 p0.pause), (.int .i64 p0.keep)] 23 (0, 0)) :: L) w := hp
  refine s_val (wk0 rfl) rfl rfl hE hp (v := (.bool (!x1))) (ex_not rfl hE rfl) ?_
  intro a hE
  refine s_nil ?_
  refine k_if hE rfl (fun hb1 => ?_) (fun hb1 => ?_)
  · replace hm := (it hb1).symm.trans hm
    refine k_seq ?_
    refine k_region ?_
    refine s_val (wk0 rfl) rfl rfl hE hp (v := (.int .i64 1)) (ex_asn rfl hE rfl) ?_
    intro a hE
    refine s_nil ?_
    refine k_ret ?_
    obtain rfl := Option.some.inj hm
    exact ret1 hE rfl rfl ⟨_, rfl, rfl, (hp.drop)⟩
  · replace hm := (ie hb1).symm.trans hm
    refine k_skip ?_
    refine k_seq ?_
    refine k_seq ?_
    refine k_region ?_
    refine s_val (wk0 rfl) rfl rfl hE hp (v := (.int .i64 p2)) (ex_move rfl hE rfl) ?_
    intro a hE
    obtain ⟨x2, ex2, hm⟩ := bnd hm
    refine s_call (wk0 rfl) rfl rfl hE rfl [(.int .i64 p2)] ⟨rfl, trivial⟩ ent39 (c_assessorref52_time p2 hp x2 ex2) Ret.ret ?_
    intro v a w hR hE
    obtain ⟨rfl, hp⟩ := Ret.of hR
    have hp : Hp Z ρ (Pt b1 (.cells #[(.int .i64 p0.kind), (.int .i64 p0.most), (.int .i64 p0.pause), (.int .i64 p0.keep)] 23 (0, 0)) :: L) w := hp
    refine s_val (wk0 rfl) rfl rfl hE hp (v := (.bool (!x2))) (ex_not rfl hE rfl) ?_
    intro a hE
    refine s_val (wk0 rfl) rfl rfl hE hp (v := (.bool (!x2))) (ex_move rfl hE rfl) ?_
    intro a hE
    obtain ⟨m1, hg1, hm⟩ := bnd hm
    refine s_cut [_, _, _, _, _, _, _, _, _, _, _, _, _, _, _] (fun a w => Env 52 [(29, (.bool m1)), (1, vp1), (2, (.int .i64 p2)), (3, (.pointer (some ⟨b1, 0, none⟩)))] a ∧ Hp Z ρ (Pt b1 (.cells #[(.int .i64 p0.kind), (.int .i64 p0.most), (.int .i64 p0.pause), (.int .i64 p0.keep)] 23 (0, 0)) :: L) w) ?_ ?_
    · rcases Bool.eq_false_or_eq_true (!x2) with hb2 | hb2
      ·
        replace hg1 := (it hb2).symm.trans hg1
        refine s_skip (wk2 hE rfl rfl rfl hb2) rfl rfl hE ?_
        intro a hE
        refine s_skip (wk2 hE rfl rfl rfl hb2) rfl rfl hE ?_
        intro a hE
        refine s_skip (wk2 hE rfl rfl rfl hb2) rfl rfl hE ?_
        intro a hE
        refine s_skip (wk2 hE rfl rfl rfl hb2) rfl rfl hE ?_
        intro a hE
        refine s_skip (wk3 hE rfl rfl rfl) rfl rfl hE ?_
        intro a hE
        refine s_skip (wk3 hE rfl rfl rfl) rfl rfl hE ?_
        intro a hE
        refine s_skip (wk3 hE rfl rfl rfl) rfl rfl hE ?_
        intro a hE
        refine s_skip (wk3 hE rfl rfl rfl) rfl rfl hE ?_
        intro a hE
        refine s_skip (wk3 hE rfl rfl rfl) rfl rfl hE ?_
        intro a hE
        refine s_skip (wk3 hE rfl rfl rfl) rfl rfl hE ?_
        intro a hE
        refine s_skip (wk3 hE rfl rfl rfl) rfl rfl hE ?_
        intro a hE
        refine s_skip (wk3 hE rfl rfl rfl) rfl rfl hE ?_
        intro a hE
        refine s_skip (wk3 hE rfl rfl rfl) rfl rfl hE ?_
        intro a hE
        refine s_skip (wk2 hE rfl rfl rfl hb2) rfl rfl hE ?_
        intro a hE
        refine s_val (wk0 rfl) rfl rfl hE hp (v := (.bool true)) (ex_pick1 rfl hE rfl hb2 rfl) ?_
        intro a hE
        obtain rfl := Option.some.inj hg1
        exact s_nil ⟨hE.cut ⟨rfl, rfl, rfl, rfl, trivial⟩, hp⟩
      ·
        replace hg1 := (ie hb2).symm.trans hg1
        refine s_val (wk1 hE rfl rfl rfl hb2) rfl rfl hE hp (v := vp1) (ex_move rfl hE rfl) ?_
        intro a hE
        refine s_val (wk1 hE rfl rfl rfl hb2) rfl rfl hE hp (v := (.int .i64 (p1.length : Int))) (ex_len rfl hE rfl (RoSl.len hp1 slty24)) ?_
        intro a hE
        refine s_val (wk1 hE rfl rfl rfl hb2) rfl rfl hE hp (v := (.bool (decide (0 < (p1.length : Int))))) (ex_gtr rfl hE rfl rfl) ?_
        intro a hE
        refine s_val (wk1 hE rfl rfl rfl hb2) rfl rfl hE hp (v := (.bool (decide (0 < (p1.length : Int))))) (ex_move rfl hE rfl) ?_
        intro a hE
        obtain ⟨m2, hg2, hg1⟩ := bnd hg1
        refine s_cut [_, _, _, _, _, _, _, _, _, _] (fun a w => Env 52 [(28, (.bool m2)), (1, vp1), (2, (.int .i64 p2)), (3, (.pointer (some ⟨b1, 0, none⟩))), (14, (.bool (!x2)))] a ∧ Hp Z ρ (Pt b1 (.cells #[(.int .i64 p0.kind), (.int .i64 p0.most), (.int .i64 p0.pause), (.int .i64 p0.keep)] 23 (0, 0)) :: L) w) ?_ ?_
        · rcases Bool.eq_false_or_eq_true (decide (0 < (p1.length : Int))) with hb3 | hb3
          ·
            replace hg2 := (it hb3).symm.trans hg2
            refine s_val (wk1 hE rfl rfl rfl hb3) rfl rfl hE hp (v := (.int .i64 p2)) (ex_move rfl hE rfl) ?_
            intro a hE
            refine s_val (wk1 hE rfl rfl rfl hb3) rfl rfl hE hp (v := vp1) (ex_move rfl hE rfl) ?_
            intro a hE
            refine s_val (wk1 hE rfl rfl rfl hb3) rfl rfl hE hp (v := vp1) (ex_move rfl hE rfl) ?_
            intro a hE
            refine s_val (wk1 hE rfl rfl rfl hb3) rfl rfl hE hp (v := (.int .i64 (p1.length : Int))) (ex_len rfl hE rfl (RoSl.len hp1 slty24)) ?_
            intro a hE
            obtain ⟨x3, ex3, hg2⟩ := bnd hg2
            refine s_val (wk1 hE rfl rfl rfl hb3) rfl rfl hE hp (v := (.int .i64 x3)) (ex_sub rfl hE rfl rfl (inK_some ex3)) ?_
            intro a hE
            obtain ⟨x4, ex4, hg2⟩ := bnd hg2
            obtain ⟨b2, b2o, b2c, b2r, b2k, b2f⟩ := RoSl.at hp1 slty24 ex4
            obtain rfl : b2c = Enc.enc x4 := b2k
            have b2f : AtP ρ b2 b2o [(.int .i64 x4.num), (.int .i64 x4.tick), (.int .i64 x4.pts)] := b2f
            refine s_val (wk1 hE rfl rfl rfl hb3) rfl rfl hE hp (v := (.pointer (some ⟨b2, b2o, none⟩))) (ex_index rfl hE rfl rfl b2r) ?_
            intro a hE
            refine s_val (wk1 hE rfl rfl rfl hb3) rfl rfl hE hp (v := (.pointer (some ⟨b2, b2o + 1, none⟩))) (ex_field rfl hE rfl (fldty38_1 _ _)) ?_
            intro a hE
            refine s_val (wk1 hE rfl rfl rfl hb3) rfl rfl hE hp (v := (.int .i64 x4.tick)) (ex_load rfl hE rfl (fun w hw => run_ld1 varty3 (b2f.c 1 rfl w hw))) ?_
            intro a hE
            refine s_val (wk1 hE rfl rfl rfl hb3) rfl rfl hE hp (v := (.bool (decide (p2 < x4.tick)))) (ex_lss rfl hE rfl rfl) ?_
            intro a hE
            refine s_val (wk1 hE rfl rfl rfl hb2) rfl rfl hE hp (v := (.bool (decide (p2 < x4.tick)))) (ex_pick1 rfl hE rfl hb3 rfl) ?_
            intro a hE
            obtain rfl := Option.some.inj hg2
            exact s_nil ⟨hE.cut ⟨rfl, rfl, rfl, rfl, rfl, trivial⟩, hp⟩
          ·
            replace hg2 := (ie hb3).symm.trans hg2
            refine s_skip (wk2 hE rfl rfl rfl hb3) rfl rfl hE ?_
            intro a hE
            refine s_skip (wk2 hE rfl rfl rfl hb3) rfl rfl hE ?_
            intro a hE
            refine s_skip (wk2 hE rfl rfl rfl hb3) rfl rfl hE ?_
            intro a hE
            refine s_skip (wk2 hE rfl rfl rfl hb3) rfl rfl hE ?_
            intro a hE
            refine s_skip (wk2 hE rfl rfl rfl hb3) rfl rfl hE ?_
            intro a hE
            refine s_skip (wk2 hE rfl rfl rfl hb3) rfl rfl hE ?_
            intro a hE
            refine s_skip (wk2 hE rfl rfl rfl hb3) rfl rfl hE ?_
            intro a hE
            refine s_skip (wk2 hE rfl rfl rfl hb3) rfl rfl hE ?_
            intro a hE
            refine s_skip (wk2 hE rfl rfl rfl hb3) rfl rfl hE ?_
            intro a hE
            refine s_val (wk1 hE rfl rfl rfl hb2) rfl rfl hE hp (v := (.bool false)) (ex_pick0 rfl hE rfl hb3 rfl) ?_
            intro a hE
            obtain rfl := Option.some.inj hg2
            exact s_nil ⟨hE.cut ⟨rfl, rfl, rfl, rfl, rfl, trivial⟩, hp⟩
        · rintro a w ⟨hE, hp⟩
          refine s_val (wk0 rfl) rfl rfl hE hp (v := (.bool m2)) (ex_pick0 rfl hE rfl hb2 rfl) ?_
          intro a hE
          obtain rfl := Option.some.inj hg1
          exact s_nil ⟨hE.cut ⟨rfl, rfl, rfl, rfl, trivial⟩, hp⟩
    · rintro a w ⟨hE, hp⟩
      refine s_nil ?_
      refine k_if hE rfl (fun hb4 => ?_) (fun hb4 => ?_)
      · replace hm := (it hb4).symm.trans hm
        refine k_seq ?_
        refine k_region ?_
        refine s_val (wk0 rfl) rfl rfl hE hp (v := (.int .i64 2)) (ex_asn rfl hE rfl) ?_
        intro a hE
        refine s_nil ?_
        refine k_ret ?_
        obtain rfl := Option.some.inj hm
        exact ret1 hE rfl rfl ⟨_, rfl, rfl, (hp.drop)⟩
      · replace hm := (ie hb4).symm.trans hm
        refine k_skip ?_
        refine k_seq ?_
        refine k_seq ?_
        refine k_region ?_
        refine s_val (wk0 rfl) rfl rfl hE hp (v := vp1) (ex_move rfl hE rfl) ?_
        intro a hE
        refine s_val (wk0 rfl) rfl rfl hE hp (v := (.int .i64 (p1.length : Int))) (ex_len rfl hE rfl (RoSl.len hp1 slty24)) ?_
        intro a hE
        refine s_val (wk0 rfl) rfl rfl hE hp (v := (.pointer (some ⟨b1, 1, none⟩))) (ex_field rfl hE rfl (fldty23_1 _ _)) ?_
        intro a hE
        refine s_val (wk0 rfl) rfl rfl hE hp (v := (.int .i64 p0.most)) (ex_load rfl hE rfl (fun w hw => run_ld1 varty3 (Hp.c 0 rfl 1 rfl w hw))) ?_
        intro a hE
        refine s_val (wk0 rfl) rfl rfl hE hp (v := (.bool (decide ((p1.length : Int) = p0.most)))) (ex_eql rfl hE rfl rfl) ?_
        intro a hE
        refine s_nil ?_
        refine k_if hE rfl (fun hb5 => ?_) (fun hb5 => ?_)
        · replace hm := (it hb5).symm.trans hm
          refine k_seq ?_
          refine k_region ?_
          refine s_val (wk0 rfl) rfl rfl hE hp (v := (.int .i64 8)) (ex_asn rfl hE rfl) ?_
          intro a hE
          refine s_nil ?_
          refine k_ret ?_
          obtain rfl := Option.some.inj hm
          exact ret1 hE rfl rfl ⟨_, rfl, rfl, (hp.drop)⟩
        · replace hm := (ie hb5).symm.trans hm
          refine k_skip ?_
          refine k_seq ?_
          refine k_seq ?_
          refine k_quiet (by kernel_rfl) (by kernel_rfl) hp ?_
          refine q_val (wk0 rfl) rfl rfl hE (v := vp1) (ex_move rfl hE rfl) ?_
          intro a hE
          refine q_val (wk0 rfl) rfl rfl hE (v := (.int .i64 (p1.length : Int))) (ex_len rfl hE rfl (RoSl.len hp1 slty24)) ?_
          intro a hE
          refine q_val (wk0 rfl) rfl rfl hE (v := (.bool (decide (0 < (p1.length : Int))))) (ex_gtr rfl hE rfl rfl) ?_
          intro a hE
          refine q_val (wk0 rfl) rfl rfl hE (v := (.bool (decide (0 < (p1.length : Int))))) (ex_move rfl hE rfl) ?_
          intro a hE
          obtain ⟨m3, hg3, hm⟩ := bnd hm
          refine q_cut [_, _, _, _, _, _, _, _, _, _, _, _, _] (fun a => Env 52 [(51, (.bool m3))] a) ?_ ?_
          · rcases Bool.eq_false_or_eq_true (decide (0 < (p1.length : Int))) with hb6 | hb6
            ·
              replace hg3 := (it hb6).symm.trans hg3
              refine q_val (wk1 hE rfl rfl rfl hb6) rfl rfl hE (v := (.int .i64 p2)) (ex_move rfl hE rfl) ?_
              intro a hE
              refine q_val (wk1 hE rfl rfl rfl hb6) rfl rfl hE (v := vp1) (ex_move rfl hE rfl) ?_
              intro a hE
              refine q_val (wk1 hE rfl rfl rfl hb6) rfl rfl hE (v := vp1) (ex_move rfl hE rfl) ?_
              intro a hE
              refine q_val (wk1 hE rfl rfl rfl hb6) rfl rfl hE (v := (.int .i64 (p1.length : Int))) (ex_len rfl hE rfl (RoSl.len hp1 slty24)) ?_
              intro a hE
              obtain ⟨x5, ex5, hg3⟩ := bnd hg3
              refine q_val (wk1 hE rfl rfl rfl hb6) rfl rfl hE (v := (.int .i64 x5)) (ex_sub rfl hE rfl rfl (inK_some ex5)) ?_
              intro a hE
              obtain ⟨x6, ex6, hg3⟩ := bnd hg3
              obtain ⟨b3, b3o, b3c, b3r, b3k, b3f⟩ := RoSl.at hp1 slty24 ex6
              obtain rfl : b3c = Enc.enc x6 := b3k
              have b3f : AtP ρ b3 b3o [(.int .i64 x6.num), (.int .i64 x6.tick), (.int .i64 x6.pts)] := b3f
              refine q_val (wk1 hE rfl rfl rfl hb6) rfl rfl hE (v := (.pointer (some ⟨b3, b3o, none⟩))) (ex_index rfl hE rfl rfl b3r) ?_
              intro a hE
              refine q_val (wk1 hE rfl rfl rfl hb6) rfl rfl hE (v := (.pointer (some ⟨b3, b3o + 1, none⟩))) (ex_field rfl hE rfl (fldty38_1 _ _)) ?_
              intro a hE
              refine q_val (wk1 hE rfl rfl rfl hb6) rfl rfl hE (v := (.int .i64 x6.tick)) (ex_load rfl hE rfl (fun w hw => run_ld1 varty3 (b3f.c 1 rfl w hw))) ?_
              intro a hE
              refine q_val (wk1 hE rfl rfl rfl hb6) rfl rfl hE (v := (.pointer (some ⟨b1, 2, none⟩))) (ex_field rfl hE rfl (fldty23_2 _ _)) ?_
              intro a hE
              refine q_val (wk1 hE rfl rfl rfl hb6) rfl rfl hE (v := (.int .i64 p0.pause)) (ex_load rfl hE rfl (fun w hw => run_ld1 varty3 (Hp.c 0 rfl 2 rfl w hw))) ?_
              intro a hE
              obtain ⟨x7, ex7, hg3⟩ := bnd hg3
              refine q_val (wk1 hE rfl rfl rfl hb6) rfl rfl hE (v := (.int .i64 x7)) (ex_add rfl hE rfl rfl (inK_some ex7)) ?_
              intro a hE
              refine q_val (wk1 hE rfl rfl rfl hb6) rfl rfl hE (v := (.bool (decide (p2 < x7)))) (ex_lss rfl hE rfl rfl) ?_
              intro a hE
              refine q_val (wk0 rfl) rfl rfl hE (v := (.bool (decide (p2 < x7)))) (ex_pick1 rfl hE rfl hb6 rfl) ?_
              intro a hE
              obtain rfl := Option.some.inj hg3
              exact q_nil (hE.cut ⟨rfl, trivial⟩)
            ·
              replace hg3 := (ie hb6).symm.trans hg3
              refine q_skip (wk2 hE rfl rfl rfl hb6) rfl rfl hE ?_
              intro a hE
              refine q_skip (wk2 hE rfl rfl rfl hb6) rfl rfl hE ?_
              intro a hE
              refine q_skip (wk2 hE rfl rfl rfl hb6) rfl rfl hE ?_
              intro a hE
              refine q_skip (wk2 hE rfl rfl rfl hb6) rfl rfl hE ?_
              intro a hE
              refine q_skip (wk2 hE rfl rfl rfl hb6) rfl rfl hE ?_
              intro a hE
              refine q_skip (wk2 hE rfl rfl rfl hb6) rfl rfl hE ?_
              intro a hE
              refine q_skip (wk2 hE rfl rfl rfl hb6) rfl rfl hE ?_
              intro a hE
              refine q_skip (wk2 hE rfl rfl rfl hb6) rfl rfl hE ?_
              intro a hE
              refine q_skip (wk2 hE rfl rfl rfl hb6) rfl rfl hE ?_
              intro a hE
              refine q_skip (wk2 hE rfl rfl rfl hb6) rfl rfl hE ?_
              intro a hE
              refine q_skip (wk2 hE rfl rfl rfl hb6) rfl rfl hE ?_
              intro a hE
              refine q_skip (wk2 hE rfl rfl rfl hb6) rfl rfl hE ?_
              intro a hE
              refine q_val (wk0 rfl) rfl rfl hE (v := (.bool false)) (ex_pick0 rfl hE rfl hb6 rfl) ?_
              intro a hE
              obtain rfl := Option.some.inj hg3
              exact q_nil (hE.cut ⟨rfl, trivial⟩)
          · intro a hE
            refine q_nil fun w hp => ?_
            have hp : Hp Z ρ (Pt b1 (.cells #[(.int .i64 p0.kind), (.int .i64 p0.most), (.int .i64 p0.pause), (.int .i64 p0.keep)] 23 (0, 0)) :: L) w := hp
            refine k_if hE rfl (fun hb7 => ?_) (fun hb7 => ?_)
            · replace hm := (it hb7).symm.trans hm
              refine k_seq ?_
              refine k_region ?_
              refine s_val (wk0 rfl) rfl rfl hE hp (v := (.int .i64 9)) (ex_asn rfl hE rfl) ?_
              intro a hE
              refine s_nil ?_
              refine k_ret ?_
              obtain rfl := Option.some.inj hm
              exact ret1 hE rfl rfl ⟨_, rfl, rfl, (hp.drop)⟩
            · replace hm := (ie hb7).symm.trans hm
              refine k_skip ?_
              refine k_seq ?_
              refine k_region ?_
              refine s_val (wk0 rfl) rfl rfl hE hp (v := (.int .i64 0)) (ex_asn rfl hE rfl) ?_
              intro a hE
              refine s_nil ?_
              refine k_ret ?_
              obtain rfl := Option.some.inj hm
              exact ret1 hE rfl rfl ⟨_, rfl, rfl, (hp.drop)⟩
/- assessor/assessorref52.Earliest -/
set_option maxRecDepth 100000 in
set_option maxHeartbeats 4000000 in
theorem c_assessorref52_Earliest {Z : World} {ρ : PH} {L : List Atom} {w : World} (p0 : Rule) (p1 : (List Att)) (vp1 : Value) (hp1 : RoSl ρ vp1 p1) (hp : Hp Z ρ (L) w) (r : (Int × Bool)) (hm : m_assessorref52_Earliest p0 p1 = some r) :
    Calls Try.prog 23 #[(.agg #[(.int .i64 p0.kind), (.int .i64 p0.most), (.int .i64 p0.pause), (.int .i64 p0.keep)]), vp1] w (Ret fun v w' => v = .tuple #[(.int .i64 r.1), (.bool r.2)] ∧ Hp Z ρ (L) w') := by
  refine enter (N := 35) Try.func23 rfl rfl [(0, (.agg #[(.int .i64 p0.kind), (.int .i64 p0.most), (.int .i64 p0.pause), (.int .i64 p0.keep)])), (1, vp1)] rfl (argsIn_mem ⟨rfl, rfl, trivial⟩) fun a hE => ?_
  unfold m_assessorref52_Earliest at hm
  refine k_seq ?_
  refine k_region ?_
  refine s_box (wk0 rfl) rfl rfl hE hp rfl (v := (.agg #[(.int .i64 p0.kind), (.int .i64 p0.most), (.int .i64 p0.pause), (.int .i64 p0.keep)])) rfl ?_
  intro a w b1 hE hp
  have hp : Hp Z ρ (Pt b1 (.cells #[(.int .i64 p0.kind), (.int .i64 p0.most), (.int .i64 p0.pause), (.int .i64 p0.keep)] 23 (0, 0)) :: L) w := hp
  refine s_val (wk0 rfl) rfl rfl hE hp (v := (.int .i64 0)) (ex_asn rfl hE rfl) ?_
  intro a hE
  refine s_val (wk0 rfl) rfl rfl hE hp (v := (.bool false)) (ex_asn rfl hE rfl) ?_
  intro a hE
  refine s_nil ?_
  refine k_seq ?_
  refine k_seq ?_
  refine k_region ?_
  refine s_val (wk0 rfl) rfl rfl hE hp (v := (.agg #[(.int .i64 p0.kind), (.int .i64 p0.most), (.int .i64 p0.pause), (.int .i64 p0.keep)])) (ex_load rfl hE rfl (fun w hw => run_ldN (cs := [(.int .i64 p0.kind), (.int .i64 p0.most), (.int .i64 p0.pause), (.int .i64 p0.keep)]) varty23 (Hp.cN 0 rfl 0 _ (sub_all rfl) w hw))) ?_
  intro a hE
  refine s_val (wk0 rfl) rfl rfl hE hp (v := vp1) (ex_move rfl hE rfl) ?_
  intro a hE
  obtain ⟨x1, ex1, hm⟩ := bnd hm
  refine s_call (wk0 rfl) rfl rfl hE rfl [(.agg #[(.int .i64 p0.kind), (.int .i64 p0.most), (.int .i64 p0.pause), (.int .i64 p0.keep)]), vp1] ⟨rfl, rfl, trivial⟩ ent24 (c_assessorref52_Valid p0 p1 vp1 hp1 hp x1 ex1) Ret.ret ?_
  intro v a w hR hE
  obtain ⟨rfl, hp⟩ := Ret.of hR
  have hp : Hp Z ρ (Pt b1 (.cells #[(.int .i64 p0.kind), (.int .i64 p0.most), (.int .i64 p0.pause), (.int .i64 p0.keep)] 23 (0, 0)) :: L) w := hp
  refine s_val (wk0 rfl) rfl rfl hE hp (v := (.bool (!x1))) (ex_not rfl hE rfl) ?_
  intro a hE
  refine s_val (wk0 rfl) rfl rfl hE hp (v := (.bool (!x1))) (ex_move rfl hE rfl) ?_
  intro a hE
  refine s_cut [_, _, _, _, _, _] (fun a w => Env 35 [(17, (.bool ((!x1) || (decide ((p1.length : Int) = p0.most))))), (1, vp1), (2, (.pointer (some ⟨b1, 0, none⟩)))] a ∧ Hp Z ρ (Pt b1 (.cells #[(.int .i64 p0.kind), (.int .i64 p0.most), (.int .i64 p0.pause), (.int .i64 p0.keep)] 23 (0, 0)) :: L) w) ?_ ?_
  · rcases Bool.eq_false_or_eq_true (!x1) with hb1 | hb1
    ·
      refine s_skip (wk2 hE rfl rfl rfl hb1) rfl rfl hE ?_
      intro a hE
      refine s_skip (wk2 hE rfl rfl rfl hb1) rfl rfl hE ?_
      intro a hE
      refine s_skip (wk2 hE rfl rfl rfl hb1) rfl rfl hE ?_
      intro a hE
      refine s_skip (wk2 hE rfl rfl rfl hb1) rfl rfl hE ?_
      intro a hE
      refine s_skip (wk2 hE rfl rfl rfl hb1) rfl rfl hE ?_
      intro a hE
      refine s_val (wk0 rfl) rfl rfl hE hp (v := (.bool true)) (ex_pick1 rfl hE rfl hb1 rfl) ?_
      intro a hE
      have hE := hE.eqv (v' := (.bool ((!x1) || (decide ((p1.length : Int) = p0.most))))) (by rw [hb1]; rfl)
      exact s_nil ⟨hE.cut ⟨rfl, rfl, rfl, trivial⟩, hp⟩
    ·
      refine s_val (wk1 hE rfl rfl rfl hb1) rfl rfl hE hp (v := vp1) (ex_move rfl hE rfl) ?_
      intro a hE
      refine s_val (wk1 hE rfl rfl rfl hb1) rfl rfl hE hp (v := (.int .i64 (p1.length : Int))) (ex_len rfl hE rfl (RoSl.len hp1 slty24)) ?_
      intro a hE
      refine s_val (wk1 hE rfl rfl rfl hb1) rfl rfl hE hp (v := (.pointer (some ⟨b1, 1, none⟩))) (ex_field rfl hE rfl (fldty23_1 _ _)) ?_
      intro a hE
      refine s_val (wk1 hE rfl rfl rfl hb1) rfl rfl hE hp (v := (.int .i64 p0.most)) (ex_load rfl hE rfl (fun w hw => run_ld1 varty3 (Hp.c 0 rfl 1 rfl w hw))) ?_
      intro a hE
      refine s_val (wk1 hE rfl rfl rfl hb1) rfl rfl hE hp (v := (.bool (decide ((p1.length : Int) = p0.most)))) (ex_eql rfl hE rfl rfl) ?_
      intro a hE
      refine s_val (wk0 rfl) rfl rfl hE hp (v := (.bool (decide ((p1.length : Int) = p0.most)))) (ex_pick0 rfl hE rfl hb1 rfl) ?_
      intro a hE
      have hE := hE.eqv (v' := (.bool ((!x1) || (decide ((p1.length : Int) = p0.most))))) (by rw [hb1]; rfl)
      exact s_nil ⟨hE.cut ⟨rfl, rfl, rfl, trivial⟩, hp⟩
  · rintro a w ⟨hE, hp⟩
    refine s_nil ?_
    refine k_if hE rfl (fun hb2 => ?_) (fun hb2 => ?_)
    · replace hm := (it hb2).symm.trans hm
      refine k_seq ?_
      refine k_region ?_
      refine s_val (wk0 rfl) rfl rfl hE hp (v := (.int .i64 0)) (ex_asn rfl hE rfl) ?_
      intro a hE
      refine s_val (wk0 rfl) rfl rfl hE hp (v := (.bool false)) (ex_asn rfl hE rfl) ?_
      intro a hE
      refine s_nil ?_
      refine k_ret ?_
      obtain rfl := Option.some.inj hm
      exact ret2 hE rfl rfl rfl ⟨_, rfl, rfl, (hp.drop)⟩
    · replace hm := (ie hb2).symm.trans hm
      refine k_skip ?_
      refine k_seq ?_
      refine k_region ?_
      refine s_val (wk0 rfl) rfl rfl hE hp (v := (.int .i64 0)) (ex_asn rfl hE rfl) ?_
      intro a hE
      refine s_nil ?_
      refine k_seq ?_
      refine k_seq ?_
      refine k_region ?_
      refine s_val (wk0 rfl) rfl rfl hE hp (v := vp1) (ex_move rfl hE rfl) ?_
      intro a hE
      refine s_val (wk0 rfl) rfl rfl hE hp (v := (.int .i64 (p1.length : Int))) (ex_len rfl hE rfl (RoSl.len hp1 slty24)) ?_
      intro a hE
      refine s_val (wk0 rfl) rfl rfl hE hp (v := (.bool (decide (0 < (p1.length : Int))))) (ex_gtr rfl hE rfl rfl) ?_
      intro a hE
      refine s_nil ?_
      obtain ⟨j1, hj1, hm⟩ := bnd hm
      refine k_cut (fun a w => Env 35 [(6, (.int .i64 j1))] a ∧ Hp Z ρ (Pt b1 (.cells #[(.int .i64 p0.kind), (.int .i64 p0.most), (.int .i64 p0.pause), (.int .i64 p0.keep)] 23 (0, 0)) :: L) w) ?_ ?_
      ·
        refine k_if hE rfl (fun hb3 => ?_) (fun hb3 => ?_)
        · replace hj1 := (it hb3).symm.trans hj1
          refine k_quiet (by kernel_rfl) (by kernel_rfl) hp ?_
          refine q_val (wk0 rfl) rfl rfl hE (v := vp1) (ex_move rfl hE rfl) ?_
          intro a hE
          refine q_val (wk0 rfl) rfl rfl hE (v := vp1) (ex_move rfl hE rfl) ?_
          intro a hE
          refine q_val (wk0 rfl) rfl rfl hE (v := (.int .i64 (p1.length : Int))) (ex_len rfl hE rfl (RoSl.len hp1 slty24)) ?_
          intro a hE
          obtain ⟨x2, ex2, hj1⟩ := bnd hj1
          refine q_val (wk0 rfl) rfl rfl hE (v := (.int .i64 x2)) (ex_sub rfl hE rfl rfl (inK_some ex2)) ?_
          intro a hE
          obtain ⟨x3, ex3, hj1⟩ := bnd hj1
          obtain ⟨b2, b2o, b2c, b2r, b2k, b2f⟩ := RoSl.at hp1 slty24 ex3
          obtain rfl : b2c = Enc.enc x3 := b2k
          have b2f : AtP ρ b2 b2o [(.int .i64 x3.num), (.int .i64 x3.tick), (.int .i64 x3.pts)] := b2f
          refine q_val (wk0 rfl) rfl rfl hE (v := (.pointer (some ⟨b2, b2o, none⟩))) (ex_index rfl hE rfl rfl b2r) ?_
          intro a hE
          refine q_val (wk0 rfl) rfl rfl hE (v := (.pointer (some ⟨b2, b2o + 1, none⟩))) (ex_field rfl hE rfl (fldty38_1 _ _)) ?_
          intro a hE
          refine q_val (wk0 rfl) rfl rfl hE (v := (.int .i64 x3.tick)) (ex_load rfl hE rfl (fun w hw => run_ld1 varty3 (b2f.c 1 rfl w hw))) ?_
          intro a hE
          refine q_val (wk0 rfl) rfl rfl hE (v := (.pointer (some ⟨b1, 2, none⟩))) (ex_field rfl hE rfl (fldty23_2 _ _)) ?_
          intro a hE
          refine q_val (wk0 rfl) rfl rfl hE (v := (.int .i64 p0.pause)) (ex_load rfl hE rfl (fun w hw => run_ld1 varty3 (Hp.c 0 rfl 2 rfl w hw))) ?_
          intro a hE
          obtain ⟨x4, ex4, hj1⟩ := bnd hj1
          refine q_val (wk0 rfl) rfl rfl hE (v := (.int .i64 x4)) (ex_add rfl hE rfl rfl (inK_some ex4)) ?_
          intro a hE
          refine q_val (wk0 rfl) rfl rfl hE (v := (.int .i64 x4)) (ex_asn rfl hE rfl) ?_
          intro a hE
          refine q_nil fun w hp => ?_
          have hp : Hp Z ρ (Pt b1 (.cells #[(.int .i64 p0.kind), (.int .i64 p0.most), (.int .i64 p0.pause), (.int .i64 p0.keep)] 23 (0, 0)) :: L) w := hp
          have hE := hE.cut (E' := [(6, (.int .i64 x4))]) ⟨rfl, trivial⟩
          obtain rfl := Option.some.inj hj1
          exact ⟨hE.cut ⟨rfl, trivial⟩, hp⟩
        · replace hj1 := (ie hb3).symm.trans hj1
          refine k_skip ?_
          obtain rfl := Option.some.inj hj1
          exact ⟨hE.cut ⟨rfl, trivial⟩, hp⟩
      · rintro a w ⟨hE, hp⟩
        refine k_seq ?_
        refine k_seq ?_
        refine k_region ?_
        refine s_val (wk0 rfl) rfl rfl hE hp (v := (.int .i64 j1)) (ex_move rfl hE rfl) ?_
        intro a hE
        obtain ⟨x5, ex5, hm⟩ := bnd hm
        refine s_call (wk0 rfl) rfl rfl hE rfl [(.int .i64 j1)] ⟨rfl, trivial⟩ ent39 (c_assessorref52_time j1 hp x5 ex5) Ret.ret ?_
        intro v a w hR hE
        obtain ⟨rfl, hp⟩ := Ret.of hR
        have hp : Hp Z ρ (Pt b1 (.cells #[(.int .i64 p0.kind), (.int .i64 p0.most), (.int .i64 p0.pause), (.int .i64 p0.keep)] 23 (0, 0)) :: L) w := hp
        refine s_val (wk0 rfl) rfl rfl hE hp (v := (.bool (!x5))) (ex_not rfl hE rfl) ?_
        intro a hE
        refine s_nil ?_
        refine k_if hE rfl (fun hb4 => ?_) (fun hb4 => ?_)
        · replace hm := (it hb4).symm.trans hm
          refine k_seq ?_
          refine k_region ?_
          refine s_val (wk0 rfl) rfl rfl hE hp (v := (.int .i64 0)) (ex_asn rfl hE rfl) ?_
          intro a hE
          refine s_val (wk0 rfl) rfl rfl hE hp (v := (.bool false)) (ex_asn rfl hE rfl) ?_
          intro a hE
          refine s_nil ?_
          refine k_ret ?_
          obtain rfl := Option.some.inj hm
          exact ret2 hE rfl rfl rfl ⟨_, rfl, rfl, (hp.drop)⟩
        · replace hm := (ie hb4).symm.trans hm
          refine k_skip ?_
          refine k_seq ?_
          refine k_region ?_
          refine s_val (wk0 rfl) rfl rfl hE hp (v := (.int .i64 j1)) (ex_move rfl hE rfl) ?_
          intro a hE
          refine s_val (wk0 rfl) rfl rfl hE hp (v := (.int .i64 j1)) (ex_asn rfl hE rfl) ?_
          intro a hE
          refine s_val (wk0 rfl) rfl rfl hE hp (v := (.bool true)) (ex_asn rfl hE rfl) ?_
          intro a hE
          refine s_nil ?_
          refine k_ret ?_
          obtain rfl := Option.some.inj hm
          exact ret2 hE rfl rfl rfl ⟨_, rfl, rfl, (hp.drop)⟩
/- assessor/assessorref52.Final -/
set_option maxRecDepth 100000 in
set_option maxHeartbeats 4000000 in
theorem c_assessorref52_Final {Z : World} {ρ : PH} {L : List Atom} {w : World} (p0 : Rule) (p1 : (List Att)) (vp1 : Value) (hp1 : RoSl ρ vp1 p1) (hp : Hp Z ρ (L) w) (r : (Int × Int)) (hm : m_assessorref52_Final p0 p1 = some r) :
    Calls Try.prog 12 #[(.agg #[(.int .i64 p0.kind), (.int .i64 p0.most), (.int .i64 p0.pause), (.int .i64 p0.keep)]), vp1] w (Ret fun v w' => v = .tuple #[(.int .i64 r.1), (.int .i64 r.2)] ∧ Hp Z ρ (L) w') := by
  refine enter (N := 45) Try.func12 rfl rfl [(0, (.agg #[(.int .i64 p0.kind), (.int .i64 p0.most), (.int .i64 p0.pause), (.int .i64 p0.keep)])), (1, vp1)] rfl (argsIn_mem ⟨rfl, rfl, trivial⟩) fun a hE => ?_
  unfold m_assessorref52_Final at hm
  refine k_seq ?_
  refine k_region ?_
  refine s_box (wk0 rfl) rfl rfl hE hp rfl (v := (.agg #[(.int .i64 p0.kind), (.int .i64 p0.most), (.int .i64 p0.pause), (.int .i64 p0.keep)])) rfl ?_
  intro a w b1 hE hp
  have hp : Hp Z ρ (Pt b1 (.cells #[(.int .i64 p0.kind), (.int .i64 p0.most), (.int .i64 p0.pause), (.int .i64 p0.keep)] 23 (0, 0)) :: L) w := hp
  refine s_val (wk0 rfl) rfl rfl hE hp (v := (.int .i64 0)) (ex_asn rfl hE rfl) ?_
  intro a hE
  refine s_val (wk0 rfl) rfl rfl hE hp (v := (.int .i64 0)) (ex_asn rfl hE rfl) ?_
  intro a hE
  refine s_nil ?_
  refine k_seq ?_
  refine k_seq ?_
  refine k_region ?_
  refine s_val (wk0 rfl) rfl rfl hE hp (v := (.agg #[(.int .i64 p0.kind), (.int .i64 p0.most), (.int .i64 p0.pause), (.int .i64 p0.keep)])) (ex_load rfl hE rfl (fun w hw => run_ldN (cs := [(.int .i64 p0.kind), (.int .i64 p0.most), (.int .i64 p0.pause), (.int .i64 p0.keep)]) varty23 (Hp.cN 0 rfl 0 _ (sub_all rfl) w hw))) ?_
  intro a hE
  refine s_val (wk0 rfl) rfl rfl hE hp (v := vp1) (ex_move rfl hE rfl) ?_
  intro a hE
  obtain ⟨x1, ex1, hm⟩ := bnd hm
  refine s_call (wk0 rfl) rfl rfl hE rfl [(.agg #[(.int .i64 p0.kind), (.int .i64 p0.most), (.int .i64 p0.pause), (.int .i64 p0.keep)]), vp1] ⟨rfl, rfl, trivial⟩ ent24 (c_assessorref52_Valid p0 p1 vp1 hp1 hp x1 ex1) Ret.ret ?_
  intro v a w hR hE
  obtain ⟨rfl, hp⟩ := Ret.of hR
  have hp : Hp Z ρ (Pt b1 (.cells #[(.int .i64 p0.kind), (.int .i64 p0.most), (.int .i64 p0.pause), (.int .i64 p0.keep)] 23 (0, 0)) :: L) w := hp
  refine s_val (wk0 rfl) rfl rfl hE hp (v := (.bool (!x1))) (ex_not rfl hE rfl) ?_
  intro a hE
  refine s_nil ?_
  refine k_if hE rfl (fun hb1 => ?_) (fun hb1 => ?_)
  · replace hm := (it hb1).symm.trans hm
    refine k_seq ?_
    refine k_region ?_
    refine s_val (wk0 rfl) rfl rfl hE hp (v := (.int .i64 0)) (ex_asn rfl hE rfl) ?_
    intro a hE
    refine s_val (wk0 rfl) rfl rfl hE hp (v := (.int .i64 1)) (ex_asn rfl hE rfl) ?_
    intro a hE
    refine s_nil ?_
    refine k_ret ?_
    obtain rfl := Option.some.inj hm
    exact ret2 hE rfl rfl rfl ⟨_, rfl, rfl, (hp.drop)⟩
  · replace hm := (ie hb1).symm.trans hm
    refine k_skip ?_
    refine k_seq ?_
    refine k_region ?_
    refine s_val (wk0 rfl) rfl rfl hE hp (v := (.agg #[(.int .i64 p0.kind), (.int .i64 p0.most), (.int .i64 p0.pause), (.int .i64 p0.keep)])) (ex_load rfl hE rfl (fun w hw => run_ldN (cs := [(.int .i64 p0.kind), (.int .i64 p0.most), (.int .i64 p0.pause), (.int .i64 p0.keep)]) varty23 (Hp.cN 0 rfl 0 _ (sub_all rfl) w hw))) ?_
    intro a hE
    refine s_val (wk0 rfl) rfl rfl hE hp (v := vp1) (ex_move rfl hE rfl) ?_
    intro a hE
    obtain ⟨x2, ex2, hm⟩ := bnd hm
    refine s_call (wk0 rfl) rfl rfl hE rfl [(.agg #[(.int .i64 p0.kind), (.int .i64 p0.most), (.int .i64 p0.pause), (.int .i64 p0.keep)]), vp1] ⟨rfl, rfl, trivial⟩ ent17 (c_assessorref52_Counting p0 p1 vp1 hp1 hp x2 ex2) Ret.ret ?_
    intro v1 a w hR hE
    obtain ⟨u, hu, hp⟩ := Ret.of hR
    rw [← hu] at hp
    have hp : Hp Z ρ (OwnSl 3 v1 x2 :: Pt b1 (.cells #[(.int .i64 p0.kind), (.int .i64 p0.most), (.int .i64 p0.pause), (.int .i64 p0.keep)] 23 (0, 0)) :: L) w := hp
    refine s_val (wk0 rfl) rfl rfl hE hp (v := v1) (ex_asn rfl hE rfl) ?_
    intro a hE
    refine s_nil ?_
    refine k_seq ?_
    refine k_seq ?_
    refine k_region ?_
    refine s_val (wk0 rfl) rfl rfl hE hp (v := v1) (ex_move rfl hE rfl) ?_
    intro a hE
    refine s_val (wk0 rfl) rfl rfl hE hp (v := (.int .i64 (x2.length : Int))) (ex_len rfl hE rfl (OwnSl.len hp 0 rfl slty32)) ?_
    intro a hE
    refine s_val (wk0 rfl) rfl rfl hE hp (v := (.bool (decide ((x2.length : Int) = 0)))) (ex_eql rfl hE rfl rfl) ?_
    intro a hE
    refine s_nil ?_
    refine k_if hE rfl (fun hb2 => ?_) (fun hb2 => ?_)
    · replace hm := (it hb2).symm.trans hm
      refine k_seq ?_
      refine k_region ?_
      refine s_val (wk0 rfl) rfl rfl hE hp (v := (.int .i64 0)) (ex_asn rfl hE rfl) ?_
      intro a hE
      refine s_val (wk0 rfl) rfl rfl hE hp (v := (.int .i64 0)) (ex_asn rfl hE rfl) ?_
      intro a hE
      refine s_nil ?_
      refine k_ret ?_
      obtain rfl := Option.some.inj hm
      exact ret2 hE rfl rfl rfl ⟨_, rfl, rfl, (((hp.get 1 rfl).drop).drop)⟩
    · replace hm := (ie hb2).symm.trans hm
      refine k_skip ?_
      refine k_seq ?_
      refine k_region ?_
      refine s_val (wk0 rfl) rfl rfl hE hp (v := (.int .i64 0)) (ex_asn rfl hE rfl) ?_
      intro a hE
      refine s_nil ?_
      refine k_seq ?_
      refine k_seq ?_
      refine k_region ?_
      refine s_val (wk0 rfl) rfl rfl hE hp (v := (.int .i64 0)) (ex_asn rfl hE rfl) ?_
      intro a hE
      refine s_nil ?_
      obtain ⟨b2, hb3, hm⟩ := bnd hm
      refine k_block (fun a w => Env 45 [(6, v1), (7, (.int .i64 b2))] a ∧ Hp Z ρ (OwnSl 3 v1 x2 :: Pt b1 (.cells #[(.int .i64 p0.kind), (.int .i64 p0.most), (.int .i64 p0.pause), (.int .i64 p0.keep)] 23 (0, 0)) :: L) w) ?_ ?_
      · refine k_loop hb3 (fun s a w => Env 45 [(1, vp1), (6, v1), (7, (.int .i64 s.1)), (8, (.int .i64 s.2))] a ∧ Hp Z ρ (OwnSl 3 v1 x2 :: Pt b1 (.cells #[(.int .i64 p0.kind), (.int .i64 p0.most), (.int .i64 p0.pause), (.int .i64 p0.keep)] 23 (0, 0)) :: L) w) ?_ ?_
        · exact ⟨hE.cut ⟨rfl, rfl, rfl, rfl, trivial⟩, hp⟩
        · rintro ⟨lp1_0, lp1_1⟩ st a w ⟨hE, hp⟩ hl1
          have hE : Env 45 [(1, vp1), (6, v1), (7, (.int .i64 lp1_0)), (8, (.int .i64 lp1_1))] a := hE
          have hp : Hp Z ρ (OwnSl 3 v1 x2 :: Pt b1 (.cells #[(.int .i64 p0.kind), (.int .i64 p0.most), (.int .i64 p0.pause), (.int .i64 p0.keep)] 23 (0, 0)) :: L) w := hp
          replace hl1 : m_assessorref52_Final_lp1 p1 x2 lp1_0 lp1_1 = some st := hl1
          unfold m_assessorref52_Final_lp1 at hl1
          refine k_seq ?_
          refine k_seq ?_
          refine k_region ?_
          refine s_val (wk0 rfl) rfl rfl hE hp (v := (.int .i64 lp1_1)) (ex_move rfl hE rfl) ?_
          intro a hE
          refine s_val (wk0 rfl) rfl rfl hE hp (v := v1) (ex_move rfl hE rfl) ?_
          intro a hE
          refine s_val (wk0 rfl) rfl rfl hE hp (v := (.int .i64 (x2.length : Int))) (ex_len rfl hE rfl (OwnSl.len hp 0 rfl slty32)) ?_
          intro a hE
          refine s_val (wk0 rfl) rfl rfl hE hp (v := (.bool (decide (lp1_1 < (x2.length : Int))))) (ex_lss rfl hE rfl rfl) ?_
          intro a hE
          refine s_nil ?_
          refine k_if hE rfl (fun hb4 => ?_) (fun hb4 => ?_)
          · replace hl1 := (it hb4).symm.trans hl1
            refine k_skip ?_
            refine k_seq ?_
            refine k_plain ?_
            refine k_region ?_
            refine s_val (wk0 rfl) rfl rfl hE hp (v := (.int .i64 lp1_0)) (ex_move rfl hE rfl) ?_
            intro a hE
            refine s_val (wk0 rfl) rfl rfl hE hp (v := vp1) (ex_move rfl hE rfl) ?_
            intro a hE
            refine s_val (wk0 rfl) rfl rfl hE hp (v := v1) (ex_move rfl hE rfl) ?_
            intro a hE
            refine s_val (wk0 rfl) rfl rfl hE hp (v := (.int .i64 lp1_1)) (ex_move rfl hE rfl) ?_
            intro a hE
            obtain ⟨x3, ex3, hl1⟩ := bnd hl1
            obtain ⟨b3, b3o, b3r, b3o2, b3v, b3f⟩ := OwnSl.at hp 0 rfl slty32 ex3
            have b3f : ∀ (j : Nat) (u : Value), ([(.int .i64 x3)] : List Value)[j]? = some u → ∀ w, Hp Z ρ (OwnSl 3 v1 x2 :: Pt b1 (.cells #[(.int .i64 p0.kind), (.int .i64 p0.most), (.int .i64 p0.pause), (.int .i64 p0.keep)] 23 (0, 0)) :: L) w → w.cell? ⟨b3, b3o + j, none⟩ = some u := b3f
            refine s_val (wk0 rfl) rfl rfl hE hp (v := (.pointer (some ⟨b3, b3o, none⟩))) (ex_index rfl hE rfl rfl b3r) ?_
            intro a hE
            refine s_val (wk0 rfl) rfl rfl hE hp (v := (.int .i64 x3)) (ex_load rfl hE rfl (fun w hw => run_ld1 varty3 (b3f 0 _ rfl w hw))) ?_
            intro a hE
            obtain ⟨x4, ex4, hl1⟩ := bnd hl1
            refine s_val (wk0 rfl) rfl rfl hE hp (v := (.int .i64 x4)) (ex_sub rfl hE rfl rfl (inK_some ex4)) ?_
            intro a hE
            obtain ⟨x5, ex5, hl1⟩ := bnd hl1
            obtain ⟨b4, b4o, b4c, b4r, b4k, b4f⟩ := RoSl.at hp1 slty24 ex5
            obtain rfl : b4c = Enc.enc x5 := b4k
            have b4f : AtP ρ b4 b4o [(.int .i64 x5.num), (.int .i64 x5.tick), (.int .i64 x5.pts)] := b4f
            refine s_val (wk0 rfl) rfl rfl hE hp (v := (.pointer (some ⟨b4, b4o, none⟩))) (ex_index rfl hE rfl rfl b4r) ?_
            intro a hE
            refine s_val (wk0 rfl) rfl rfl hE hp (v := (.pointer (some ⟨b4, b4o + 2, none⟩))) (ex_field rfl hE rfl (fldty38_2 _ _)) ?_
            intro a hE
            refine s_val (wk0 rfl) rfl rfl hE hp (v := (.int .i64 x5.pts)) (ex_load rfl hE rfl (fun w hw => run_ld1 varty3 (b4f.c 2 rfl w hw))) ?_
            intro a hE
            obtain ⟨x6, ex6, hl1⟩ := bnd hl1
            refine s_val (wk0 rfl) rfl rfl hE hp (v := (.int .i64 x6)) (ex_add rfl hE rfl rfl (inK_some ex6)) ?_
            intro a hE
            refine s_val (wk0 rfl) rfl rfl hE hp (v := (.int .i64 x6)) (ex_asn rfl hE rfl) ?_
            intro a hE
            refine s_nil ?_
            refine k_region ?_
            refine s_val (wk0 rfl) rfl rfl hE hp (v := (.int .i64 lp1_1)) (ex_move rfl hE rfl) ?_
            intro a hE
            obtain ⟨x7, ex7, hl1⟩ := bnd hl1
            refine s_val (wk0 rfl) rfl rfl hE hp (v := (.int .i64 x7)) (ex_add rfl hE rfl rfl (inK_some ex7)) ?_
            intro a hE
            refine s_val (wk0 rfl) rfl rfl hE hp (v := (.int .i64 x7)) (ex_asn rfl hE rfl) ?_
            intro a hE
            refine s_nil ?_
            have hE := hE.cut (E' := [(1, vp1), (6, v1), (7, (.int .i64 x6)), (8, (.int .i64 x7))]) ⟨rfl, rfl, rfl, rfl, trivial⟩
            exact ⟨_, (Option.some.inj hl1).symm, hE.cut ⟨rfl, rfl, rfl, rfl, trivial⟩, hp⟩
          · replace hl1 := (ie hb4).symm.trans hl1
            refine k_exit ?_
            refine ⟨_, (Option.some.inj hl1).symm, fun hbb => ?_⟩
            subst hbb
            exact ⟨hE.cut ⟨rfl, rfl, trivial⟩, hp⟩
      · rintro a w ⟨hE, hp⟩
        refine k_seq ?_
        refine k_region ?_
        refine s_val (wk0 rfl) rfl rfl hE hp (v := (.int .i64 b2)) (ex_move rfl hE rfl) ?_
        intro a hE
        obtain ⟨x8, ex8, hm⟩ := bnd hm
        refine s_val (wk0 rfl) rfl rfl hE hp (v := (.int .i64 x8)) (ex_mul rfl hE rfl rfl (inK_some ex8)) ?_
        intro a hE
        refine s_val (wk0 rfl) rfl rfl hE hp (v := v1) (ex_move rfl hE rfl) ?_
        intro a hE
        refine s_val (wk0 rfl) rfl rfl hE hp (v := (.int .i64 (x2.length : Int))) (ex_len rfl hE rfl (OwnSl.len hp 0 rfl slty32)) ?_
        intro a hE
        obtain ⟨x9, ex9, hm⟩ := bnd hm
        refine s_val (wk0 rfl) rfl rfl hE hp (v := (.int .i64 x9)) (ex_add rfl hE rfl rfl (inK_some ex9)) ?_
        intro a hE
        refine s_val (wk0 rfl) rfl rfl hE hp (v := v1) (ex_move rfl hE rfl) ?_
        intro a hE
        refine s_val (wk0 rfl) rfl rfl hE hp (v := (.int .i64 (x2.length : Int))) (ex_len rfl hE rfl (OwnSl.len hp 0 rfl slty32)) ?_
        intro a hE
        obtain ⟨x10, ex10, hm⟩ := bnd hm
        refine s_val (wk0 rfl) rfl rfl hE hp (v := (.int .i64 x10)) (ex_mul rfl hE rfl rfl (inK_some ex10)) ?_
        intro a hE
        obtain ⟨x11, ex11, hm⟩ := bnd hm
        refine s_val (wk0 rfl) rfl rfl hE hp (v := (.int .i64 x11)) (ex_quo rfl hE rfl rfl (quoK_some ex11).1 (quoK_some ex11).2) ?_
        intro a hE
        refine s_val (wk0 rfl) rfl rfl hE hp (v := (.int .i64 x11)) (ex_asn rfl hE rfl) ?_
        intro a hE
        refine s_val (wk0 rfl) rfl rfl hE hp (v := (.int .i64 0)) (ex_asn rfl hE rfl) ?_
        intro a hE
        refine s_nil ?_
        refine k_ret ?_
        obtain rfl := Option.some.inj hm
        exact ret2 hE rfl rfl rfl ⟨_, rfl, rfl, (((hp.get 1 rfl).drop).drop)⟩
/- assessor/assessorref49.Ints -/
set_option maxRecDepth 100000 in
set_option maxHeartbeats 4000000 in
theorem c_assessorref49_Ints {Z : World} {ρ : PH} {L : List Atom} {w : World} (p0 : (List Int)) (vp0 : Value) (hp0 : RoSl ρ vp0 p0) (p1 : (List Int)) (vp1 : Value) (hp1 : RoSl ρ vp1 p1) (hp : Hp Z ρ (L) w) (r : Bool) (hm : m_assessorref49_Ints p0 p1 = some r) :
    Calls Try.prog 15 #[vp0, vp1] w (Ret fun v w' => v = (.bool r) ∧ Hp Z ρ (L) w') := by
  refine enter (N := 26) Try.func15 rfl rfl [(0, vp0), (1, vp1)] rfl (argsIn_mem ⟨rfl, rfl, trivial⟩) fun a hE => ?_
  unfold m_assessorref49_Ints at hm
  refine k_seq ?_
  refine k_region ?_
  refine s_val (wk0 rfl) rfl rfl hE hp (v := (.bool false)) (ex_asn rfl hE rfl) ?_
  intro a hE
  refine s_nil ?_
  refine k_seq ?_
  refine k_seq ?_
  refine k_region ?_
  refine s_val (wk0 rfl) rfl rfl hE hp (v := vp0) (ex_move rfl hE rfl) ?_
  intro a hE
  refine s_val (wk0 rfl) rfl rfl hE hp (v := (.int .i64 (p0.length : Int))) (ex_len rfl hE rfl (RoSl.len hp0 slty32)) ?_
  intro a hE
  refine s_val (wk0 rfl) rfl rfl hE hp (v := vp1) (ex_move rfl hE rfl) ?_
  intro a hE
  refine s_val (wk0 rfl) rfl rfl hE hp (v := (.int .i64 (p1.length : Int))) (ex_len rfl hE rfl (RoSl.len hp1 slty32)) ?_
  intro a hE
  refine s_val (wk0 rfl) rfl rfl hE hp (v := (.bool (!decide ((p0.length : Int) = (p1.length : Int))))) (ex_neq rfl hE rfl rfl) ?_
  intro a hE
  refine s_nil ?_
  refine k_if hE rfl (fun hb1 => ?_) (fun hb1 => ?_)
  · replace hm := (it hb1).symm.trans hm
    refine k_seq ?_
    refine k_region ?_
    refine s_val (wk0 rfl) rfl rfl hE hp (v := (.bool false)) (ex_asn rfl hE rfl) ?_
    intro a hE
    refine s_nil ?_
    refine k_ret ?_
    obtain rfl := Option.some.inj hm
    exact ret1 hE rfl rfl ⟨_, rfl, rfl, hp⟩
  · replace hm := (ie hb1).symm.trans hm
    refine k_skip ?_
    refine k_seq ?_
    refine k_seq ?_
    refine k_region ?_
    refine s_val (wk0 rfl) rfl rfl hE hp (v := (.int .i64 0)) (ex_asn rfl hE rfl) ?_
    intro a hE
    refine s_nil ?_
    obtain ⟨b1, hb2, hm⟩ := bnd hm
    refine k_block (fun a w => ∃ s : Unit, b1 = .brk s ∧ (Env 26 [] a ∧ Hp Z ρ (L) w)) ?_ ?_
    · refine k_loop hb2 (fun s a w => Env 26 [(0, vp0), (1, vp1), (5, (.int .i64 s))] a ∧ Hp Z ρ (L) w) ?_ ?_
      · exact ⟨hE.cut ⟨rfl, rfl, rfl, trivial⟩, hp⟩
      · rintro lp1_0 st a w ⟨hE, hp⟩ hl1
        have hE : Env 26 [(0, vp0), (1, vp1), (5, (.int .i64 lp1_0))] a := hE
        have hp : Hp Z ρ (L) w := hp
        replace hl1 : m_assessorref49_Ints_lp1 p0 p1 lp1_0 = some st := hl1
        unfold m_assessorref49_Ints_lp1 at hl1
        refine k_seq ?_
        refine k_seq ?_
        refine k_region ?_
        refine s_val (wk0 rfl) rfl rfl hE hp (v := (.int .i64 lp1_0)) (ex_move rfl hE rfl) ?_
        intro a hE
        refine s_val (wk0 rfl) rfl rfl hE hp (v := vp0) (ex_move rfl hE rfl) ?_
        intro a hE
        refine s_val (wk0 rfl) rfl rfl hE hp (v := (.int .i64 (p0.length : Int))) (ex_len rfl hE rfl (RoSl.len hp0 slty32)) ?_
        intro a hE
        refine s_val (wk0 rfl) rfl rfl hE hp (v := (.bool (decide (lp1_0 < (p0.length : Int))))) (ex_lss rfl hE rfl rfl) ?_
        intro a hE
        refine s_nil ?_
        refine k_if hE rfl (fun hb3 => ?_) (fun hb3 => ?_)
        · replace hl1 := (it hb3).symm.trans hl1
          refine k_skip ?_
          refine k_seq ?_
          refine k_plain ?_
          refine k_seq ?_
          refine k_quiet (by kernel_rfl) (by kernel_rfl) hp ?_
          refine q_val (wk0 rfl) rfl rfl hE (v := vp0) (ex_move rfl hE rfl) ?_
          intro a hE
          refine q_val (wk0 rfl) rfl rfl hE (v := (.int .i64 lp1_0)) (ex_move rfl hE rfl) ?_
          intro a hE
          obtain ⟨x1, ex1, hl1⟩ := bnd hl1
          obtain ⟨b2, b2o, b2c, b2r, b2k, b2f⟩ := RoSl.at hp0 slty32 ex1
          obtain rfl : b2c = Enc.enc x1 := b2k
          have b2f : AtP ρ b2 b2o [(.int .i64 x1)] := b2f
          refine q_val (wk0 rfl) rfl rfl hE (v := (.pointer (some ⟨b2, b2o, none⟩))) (ex_index rfl hE rfl rfl b2r) ?_
          intro a hE
          refine q_val (wk0 rfl) rfl rfl hE (v := (.int .i64 x1)) (ex_load rfl hE rfl (fun w hw => run_ld1 varty3 (b2f.c 0 rfl w hw))) ?_
          intro a hE
          refine q_val (wk0 rfl) rfl rfl hE (v := vp1) (ex_move rfl hE rfl) ?_
          intro a hE
          refine q_val (wk0 rfl) rfl rfl hE (v := (.int .i64 lp1_0)) (ex_move rfl hE rfl) ?_
          intro a hE
          obtain ⟨x2, ex2, hl1⟩ := bnd hl1
          obtain ⟨b3, b3o, b3c, b3r, b3k, b3f⟩ := RoSl.at hp1 slty32 ex2
          obtain rfl : b3c = Enc.enc x2 := b3k
          have b3f : AtP ρ b3 b3o [(.int .i64 x2)] := b3f
          refine q_val (wk0 rfl) rfl rfl hE (v := (.pointer (some ⟨b3, b3o, none⟩))) (ex_index rfl hE rfl rfl b3r) ?_
          intro a hE
          refine q_val (wk0 rfl) rfl rfl hE (v := (.int .i64 x2)) (ex_load rfl hE rfl (fun w hw => run_ld1 varty3 (b3f.c 0 rfl w hw))) ?_
          intro a hE
          refine q_val (wk0 rfl) rfl rfl hE (v := (.bool (!decide (x1 = x2)))) (ex_neq rfl hE rfl rfl) ?_
          intro a hE
          refine q_nil fun w hp => ?_
          have hp : Hp Z ρ (L) w := hp
          refine k_if hE rfl (fun hb4 => ?_) (fun hb4 => ?_)
          · replace hl1 := (it hb4).symm.trans hl1
            refine k_seq ?_
            refine k_region ?_
            refine s_val (wk0 rfl) rfl rfl hE hp (v := (.bool false)) (ex_asn rfl hE rfl) ?_
            intro a hE
            refine s_nil ?_
            refine k_ret ?_
            refine ⟨_, (Option.some.inj hl1).symm, fun hb => ?_⟩
            subst hb
            obtain rfl := Option.some.inj hm
            exact ret1 hE rfl rfl ⟨_, rfl, rfl, hp⟩
          · replace hl1 := (ie hb4).symm.trans hl1
            refine k_skip ?_
            refine k_region ?_
            refine s_val (wk0 rfl) rfl rfl hE hp (v := (.int .i64 lp1_0)) (ex_move rfl hE rfl) ?_
            intro a hE
            obtain ⟨x3, ex3, hl1⟩ := bnd hl1
            refine s_val (wk0 rfl) rfl rfl hE hp (v := (.int .i64 x3)) (ex_add rfl hE rfl rfl (inK_some ex3)) ?_
            intro a hE
            refine s_val (wk0 rfl) rfl rfl hE hp (v := (.int .i64 x3)) (ex_asn rfl hE rfl) ?_
            intro a hE
            refine s_nil ?_
            exact ⟨_, (Option.some.inj hl1).symm, hE.cut ⟨rfl, rfl, rfl, trivial⟩, hp⟩
        · replace hl1 := (ie hb3).symm.trans hl1
          refine k_exit ?_
          refine ⟨_, (Option.some.inj hl1).symm, fun hbb => ?_⟩
          exact ⟨_, hbb.symm, hE.cut trivial, hp⟩
    · rintro a w ⟨b1s, rfl, hE, hp⟩
      dsimp only at hm
      refine k_seq ?_
      refine k_region ?_
      refine s_val (wk0 rfl) rfl rfl hE hp (v := (.bool true)) (ex_asn rfl hE rfl) ?_
      intro a hE
      refine s_nil ?_
      refine k_ret ?_
      obtain rfl := Option.some.inj hm
      exact ret1 hE rfl rfl ⟨_, rfl, rfl, hp⟩
end Go.Proofs.Ytmjmoogldbejoaa

/-
  The code goes as its model: assessor/assessorlaw37.DistanceBounds. (Printed by wip/sp/gen.py.)
-/
import Derived.Test.YtnnccbagbgndpaaWBM
import Derived.Test.YtnnccbagbgndpaaFct
import Derived.Test.YtnnccbagbgndpaaWS
set_option linter.unusedVariables false
set_option linter.unusedSimpArgs false
namespace Go.Proofs.Ytnnccbagbgndpaa
open Go.RowKit

/- assessor/assessorlaw37.DistanceBounds -/
set_option maxRecDepth 100000 in
set_option maxHeartbeats 4000000 in
theorem c_assessorlaw37_DistanceBounds {Z : World} {ρ : PH} {L : List Atom} {w : World} (p0 : Node) (vp0_kids : Value) (hp0_kids : RoSl ρ vp0_kids p0.kids) (p1 : Node) (vp1_kids : Value) (hp1_kids : RoSl ρ vp1_kids p1.kids) (hp : Hp Z ρ (L) w) (r : Bool) (hm : m_assessorlaw37_DistanceBounds p0 p1 = some r) :
    Calls Try.prog 6 #[(.agg #[(.int .i64 p0.kind), (.string p0.text), (.int .i64 p0.at_), (.int .i64 p0.fin), vp0_kids]), (.agg #[(.int .i64 p1.kind), (.string p1.text), (.int .i64 p1.at_), (.int .i64 p1.fin), vp1_kids])] w (Ret fun v w' => v = (.bool r) ∧ Hp Z ρ (L) w') := by
  refine enter (N := 68) Try.func6 rfl rfl [(0, (.agg #[(.int .i64 p0.kind), (.string p0.text), (.int .i64 p0.at_), (.int .i64 p0.fin), vp0_kids])), (1, (.agg #[(.int .i64 p1.kind), (.string p1.text), (.int .i64 p1.at_), (.int .i64 p1.fin), vp1_kids]))] rfl (argsIn_mem ⟨rfl, rfl, trivial⟩) fun a hE => ?_
  unfold m_assessorlaw37_DistanceBounds at hm
  refine k_seq ?_
  refine k_region ?_
  refine s_box (wk0 rfl) rfl rfl hE hp rfl (v := (.agg #[(.int .i64 p0.kind), (.string p0.text), (.int .i64 p0.at_), (.int .i64 p0.fin), vp0_kids])) rfl ?_
  intro a w b1 hE hp
  have hp : Hp Z ρ (Pt b1 (.cells #[(.int .i64 p0.kind), (.string p0.text), (.int .i64 p0.at_), (.int .i64 p0.fin), vp0_kids] 24 (0, 0)) :: L) w := hp
  refine s_box (wk0 rfl) rfl rfl hE hp rfl (v := (.agg #[(.int .i64 p1.kind), (.string p1.text), (.int .i64 p1.at_), (.int .i64 p1.fin), vp1_kids])) rfl ?_
  intro a w b2 hE hp
  have hp : Hp Z ρ (Pt b2 (.cells #[(.int .i64 p1.kind), (.string p1.text), (.int .i64 p1.at_), (.int .i64 p1.fin), vp1_kids] 24 (0, 0)) :: _ :: L) w := hp
  refine s_val (wk0 rfl) rfl rfl hE hp (v := (.bool false)) (ex_asn rfl hE rfl) ?_
  intro a hE
  refine s_nil ?_
  refine k_seq ?_
  refine k_seq ?_
  refine k_region ?_
  obtain ⟨x1, ex1, hm⟩ := bnd hm
  refine s_call (wk0 rfl) rfl rfl hE rfl [] trivial ent10 (c_assessorlaw37_awake  hp x1 ex1) Ret.ret ?_
  intro v a w hR hE
  obtain ⟨rfl, hp⟩ := Ret.of hR
  have hp : Hp Z ρ (_ :: _ :: L) w := hp
  refine s_val (wk0 rfl) rfl rfl hE hp (v := (.bool (!x1))) (ex_not rfl hE rfl) ?_
  intro a hE
  refine s_nil ?_
  refine k_if hE rfl (fun hb1 => ?_) (fun hb1 => ?_)
  · replace hm := (it hb1).symm.trans hm
    refine k_seq ?_
    refine k_region ?_
    refine s_val (wk0 rfl) rfl rfl hE hp (v := (.bool false)) (ex_asn rfl hE rfl) ?_
    intro a hE
    refine s_nil ?_
    refine k_ret ?_
    obtain rfl := Option.some.inj hm
    exact ret1 hE rfl rfl ⟨_, rfl, rfl, (((hp.get 1 rfl).drop).drop)⟩
  · replace hm := (ie hb1).symm.trans hm
    refine k_skip ?_
    refine k_seq ?_
    refine k_seq ?_
    refine k_region ?_
    refine s_val (wk0 rfl) rfl rfl hE hp (v := (.agg #[(.int .i64 p0.kind), (.string p0.text), (.int .i64 p0.at_), (.int .i64 p0.fin), vp0_kids])) (ex_load rfl hE rfl (fun w hw => run_ldN (cs := [(.int .i64 p0.kind), (.string p0.text), (.int .i64 p0.at_), (.int .i64 p0.fin), vp0_kids]) varty24 (Hp.cN 1 rfl 0 _ (sub_all rfl) w hw))) ?_
    intro a hE
    refine s_val (wk0 rfl) rfl rfl hE hp (v := (.agg #[(.int .i64 p1.kind), (.string p1.text), (.int .i64 p1.at_), (.int .i64 p1.fin), vp1_kids])) (ex_load rfl hE rfl (fun w hw => run_ldN (cs := [(.int .i64 p1.kind), (.string p1.text), (.int .i64 p1.at_), (.int .i64 p1.fin), vp1_kids]) varty24 (Hp.cN 0 rfl 0 _ (sub_all rfl) w hw))) ?_
    intro a hE
    obtain ⟨x2, ex2, hm⟩ := bnd hm
    refine s_call (wk0 rfl) rfl rfl hE rfl [(.agg #[(.int .i64 p0.kind), (.string p0.text), (.int .i64 p0.at_), (.int .i64 p0.fin), vp0_kids]), (.agg #[(.int .i64 p1.kind), (.string p1.text), (.int .i64 p1.at_), (.int .i64 p1.fin), vp1_kids]), (.int .i64 30)] ⟨rfl, rfl, rfl, trivial⟩ ent11 (c_assessorlaw37_few p0 vp0_kids hp0_kids p1 vp1_kids hp1_kids 30 hp x2 ex2) Ret.ret ?_
    intro v a w hR hE
    obtain ⟨rfl, hp⟩ := Ret.of hR
    have hp : Hp Z ρ (_ :: _ :: L) w := hp
    refine s_val (wk0 rfl) rfl rfl hE hp (v := (.bool (!x2))) (ex_not rfl hE rfl) ?_
    intro a hE
    refine s_nil ?_
    refine k_if hE rfl (fun hb2 => ?_) (fun hb2 => ?_)
    · replace hm := (it hb2).symm.trans hm
      refine k_seq ?_
      refine k_region ?_
      refine s_val (wk0 rfl) rfl rfl hE hp (v := (.bool true)) (ex_asn rfl hE rfl) ?_
      intro a hE
      refine s_nil ?_
      refine k_ret ?_
      obtain rfl := Option.some.inj hm
      exact ret1 hE rfl rfl ⟨_, rfl, rfl, (((hp.get 1 rfl).drop).drop)⟩
    · replace hm := (ie hb2).symm.trans hm
      refine k_skip ?_
      refine k_seq ?_
      refine k_region ?_
      refine s_val (wk0 rfl) rfl rfl hE hp (v := (.agg #[(.int .i64 p0.kind), (.string p0.text), (.int .i64 p0.at_), (.int .i64 p0.fin), vp0_kids])) (ex_load rfl hE rfl (fun w hw => run_ldN (cs := [(.int .i64 p0.kind), (.string p0.text), (.int .i64 p0.at_), (.int .i64 p0.fin), vp0_kids]) varty24 (Hp.cN 1 rfl 0 _ (sub_all rfl) w hw))) ?_
      intro a hE
      refine s_val (wk0 rfl) rfl rfl hE hp (v := (.agg #[(.int .i64 p1.kind), (.string p1.text), (.int .i64 p1.at_), (.int .i64 p1.fin), vp1_kids])) (ex_load rfl hE rfl (fun w hw => run_ldN (cs := [(.int .i64 p1.kind), (.string p1.text), (.int .i64 p1.at_), (.int .i64 p1.fin), vp1_kids]) varty24 (Hp.cN 0 rfl 0 _ (sub_all rfl) w hw))) ?_
      intro a hE
      obtain ⟨x3, ex3, hm⟩ := bnd hm
      refine s_call (wk0 rfl) rfl rfl hE rfl [(.agg #[(.int .i64 p0.kind), (.string p0.text), (.int .i64 p0.at_), (.int .i64 p0.fin), vp0_kids]), (.agg #[(.int .i64 p1.kind), (.string p1.text), (.int .i64 p1.at_), (.int .i64 p1.fin), vp1_kids])] ⟨rfl, rfl, trivial⟩ ent12 (c_distance_Distance p0 vp0_kids hp0_kids p1 vp1_kids hp1_kids hp x3 ex3) Ret.ret ?_
      intro v a w hR hE
      obtain ⟨rfl, hp⟩ := Ret.of hR
      have hp : Hp Z ρ (_ :: _ :: L) w := hp
      refine s_val (wk0 rfl) rfl rfl hE hp (v := (.tuple #[(.int .i64 x3.1), (.int .i64 x3.2)])) (ex_move rfl hE rfl) ?_
      intro a hE
      refine s_val (wk0 rfl) rfl rfl hE hp (v := (.int .i64 x3.1)) (ex_extract rfl hE rfl rfl) ?_
      intro a hE
      refine s_val (wk0 rfl) rfl rfl hE hp (v := (.int .i64 x3.2)) (ex_extract rfl hE rfl rfl) ?_
      intro a hE
      refine s_val (wk0 rfl) rfl rfl hE hp (v := (.int .i64 x3.1)) (ex_asn rfl hE rfl) ?_
      intro a hE
      refine s_val (wk0 rfl) rfl rfl hE hp (v := (.int .i64 x3.2)) (ex_asn rfl hE rfl) ?_
      intro a hE
      refine s_nil ?_
      refine k_seq ?_
      refine k_quiet (by kernel_rfl) (by kernel_rfl) hp ?_
      refine q_val (wk0 rfl) rfl rfl hE (v := (.agg #[(.int .i64 p0.kind), (.string p0.text), (.int .i64 p0.at_), (.int .i64 p0.fin), vp0_kids])) (ex_load rfl hE rfl (fun w hw => run_ldN (cs := [(.int .i64 p0.kind), (.string p0.text), (.int .i64 p0.at_), (.int .i64 p0.fin), vp0_kids]) varty24 (Hp.cN 1 rfl 0 _ (sub_all rfl) w hw))) ?_
      intro a hE
      obtain ⟨x4, ex4, hm⟩ := bnd hm
      refine q_call (wk0 rfl) rfl rfl hE rfl [(.agg #[(.int .i64 p0.kind), (.string p0.text), (.int .i64 p0.at_), (.int .i64 p0.fin), vp0_kids])] ⟨rfl, trivial⟩ ent21 (v := (.int .i64 x4)) (fun w hw => Calls.mono (c_assessorref37_Count p0 vp0_kids hp0_kids hw x4 ex4) fun e w' ⟨v, he, hv, hh⟩ => ⟨by rw [he, hv], hh⟩) ?_
      intro a hE
      refine q_val (wk0 rfl) rfl rfl hE (v := (.agg #[(.int .i64 p1.kind), (.string p1.text), (.int .i64 p1.at_), (.int .i64 p1.fin), vp1_kids])) (ex_load rfl hE rfl (fun w hw => run_ldN (cs := [(.int .i64 p1.kind), (.string p1.text), (.int .i64 p1.at_), (.int .i64 p1.fin), vp1_kids]) varty24 (Hp.cN 0 rfl 0 _ (sub_all rfl) w hw))) ?_
      intro a hE
      obtain ⟨x5, ex5, hm⟩ := bnd hm
      refine q_call (wk0 rfl) rfl rfl hE rfl [(.agg #[(.int .i64 p1.kind), (.string p1.text), (.int .i64 p1.at_), (.int .i64 p1.fin), vp1_kids])] ⟨rfl, trivial⟩ ent21 (v := (.int .i64 x5)) (fun w hw => Calls.mono (c_assessorref37_Count p1 vp1_kids hp1_kids hw x5 ex5) fun e w' ⟨v, he, hv, hh⟩ => ⟨by rw [he, hv], hh⟩) ?_
      intro a hE
      refine q_val (wk0 rfl) rfl rfl hE (v := (.int .i64 x4)) (ex_asn rfl hE rfl) ?_
      intro a hE
      refine q_val (wk0 rfl) rfl rfl hE (v := (.int .i64 x5)) (ex_asn rfl hE rfl) ?_
      intro a hE
      refine q_nil fun w hp => ?_
      have hp : Hp Z ρ (_ :: _ :: L) w := hp
      have hE := hE.cut (E' := [(2, (.pointer (some ⟨b1, 0, none⟩))), (3, (.pointer (some ⟨b2, 0, none⟩))), (5, (.int .i64 x3.1)), (6, (.int .i64 x3.2)), (7, (.int .i64 x4)), (8, (.int .i64 x5))]) ⟨rfl, rfl, rfl, rfl, rfl, rfl, trivial⟩
      refine k_seq ?_
      refine k_region ?_
      refine s_val (wk0 rfl) rfl rfl hE hp (v := (.agg #[(.int .i64 p0.kind), (.string p0.text), (.int .i64 p0.at_), (.int .i64 p0.fin), vp0_kids])) (ex_load rfl hE rfl (fun w hw => run_ldN (cs := [(.int .i64 p0.kind), (.string p0.text), (.int .i64 p0.at_), (.int .i64 p0.fin), vp0_kids]) varty24 (Hp.cN 1 rfl 0 _ (sub_all rfl) w hw))) ?_
      intro a hE
      refine s_val (wk0 rfl) rfl rfl hE hp (v := (.agg #[(.int .i64 p1.kind), (.string p1.text), (.int .i64 p1.at_), (.int .i64 p1.fin), vp1_kids])) (ex_load rfl hE rfl (fun w hw => run_ldN (cs := [(.int .i64 p1.kind), (.string p1.text), (.int .i64 p1.at_), (.int .i64 p1.fin), vp1_kids]) varty24 (Hp.cN 0 rfl 0 _ (sub_all rfl) w hw))) ?_
      intro a hE
      obtain ⟨x6, ex6, hm⟩ := bnd hm
      refine s_call (wk0 rfl) rfl rfl hE rfl [(.agg #[(.int .i64 p0.kind), (.string p0.text), (.int .i64 p0.at_), (.int .i64 p0.fin), vp0_kids]), (.agg #[(.int .i64 p1.kind), (.string p1.text), (.int .i64 p1.at_), (.int .i64 p1.fin), vp1_kids])] ⟨rfl, rfl, trivial⟩ ent15 (c_distance_Bound p0 vp0_kids hp0_kids p1 vp1_kids hp1_kids hp x6 ex6) Ret.ret ?_
      intro v a w hR hE
      obtain ⟨rfl, hp⟩ := Ret.of hR
      have hp : Hp Z ρ (_ :: _ :: L) w := hp
      refine s_val (wk0 rfl) rfl rfl hE hp (v := (.int .i64 x6)) (ex_asn rfl hE rfl) ?_
      intro a hE
      refine s_nil ?_
      refine k_seq ?_
      refine k_region ?_
      refine s_val (wk0 rfl) rfl rfl hE hp (v := (.int .i64 x3.2)) (ex_move rfl hE rfl) ?_
      intro a hE
      refine s_val (wk0 rfl) rfl rfl hE hp (v := (.bool (decide (x3.2 = 0)))) (ex_eql rfl hE rfl rfl) ?_
      intro a hE
      refine s_val (wk0 rfl) rfl rfl hE hp (v := (.bool (decide (x3.2 = 0)))) (ex_move rfl hE rfl) ?_
      intro a hE
      obtain ⟨m1, hg1, hm⟩ := bnd hm
      refine s_cut [_, _, _, _, _, _, _, _, _, _] (fun a w => Env 68 [(41, (.bool m1)), (2, (.pointer (some ⟨b1, 0, none⟩))), (3, (.pointer (some ⟨b2, 0, none⟩))), (5, (.int .i64 x3.1)), (7, (.int .i64 x4)), (8, (.int .i64 x5)), (9, (.int .i64 x6))] a ∧ Hp Z ρ (Pt b2 (.cells #[(.int .i64 p1.kind), (.string p1.text), (.int .i64 p1.at_), (.int .i64 p1.fin), vp1_kids] 24 (0, 0)) :: Pt b1 (.cells #[(.int .i64 p0.kind), (.string p0.text), (.int .i64 p0.at_), (.int .i64 p0.fin), vp0_kids] 24 (0, 0)) :: L) w) ?_ ?_
      · rcases Bool.eq_false_or_eq_true (decide (x3.2 = 0)) with hb3 | hb3
        ·
          replace hg1 := (it hb3).symm.trans hg1
          refine s_val (wk1 hE rfl rfl rfl hb3) rfl rfl hE hp (v := (.int .i64 x6)) (ex_move rfl hE rfl) ?_
          intro a hE
          refine s_val (wk1 hE rfl rfl rfl hb3) rfl rfl hE hp (v := (.int .i64 x4)) (ex_move rfl hE rfl) ?_
          intro a hE
          refine s_val (wk1 hE rfl rfl rfl hb3) rfl rfl hE hp (v := (.int .i64 x5)) (ex_move rfl hE rfl) ?_
          intro a hE
          refine s_val (wk1 hE rfl rfl rfl hb3) rfl rfl hE hp (v := (.int .i64 (max x4 x5))) (ex_max rfl hE rfl rfl) ?_
          intro a hE
          refine s_val (wk1 hE rfl rfl rfl hb3) rfl rfl hE hp (v := (.int .i64 x4)) (ex_move rfl hE rfl) ?_
          intro a hE
          refine s_val (wk1 hE rfl rfl rfl hb3) rfl rfl hE hp (v := (.int .i64 x5)) (ex_move rfl hE rfl) ?_
          intro a hE
          refine s_val (wk1 hE rfl rfl rfl hb3) rfl rfl hE hp (v := (.int .i64 (min x4 x5))) (ex_min rfl hE rfl rfl) ?_
          intro a hE
          obtain ⟨x7, ex7, hg1⟩ := bnd hg1
          refine s_val (wk1 hE rfl rfl rfl hb3) rfl rfl hE hp (v := (.int .i64 x7)) (ex_sub rfl hE rfl rfl (inK_some ex7)) ?_
          intro a hE
          refine s_val (wk1 hE rfl rfl rfl hb3) rfl rfl hE hp (v := (.bool (decide (x7 ≤ x6)))) (ex_geq rfl hE rfl rfl) ?_
          intro a hE
          refine s_val (wk0 rfl) rfl rfl hE hp (v := (.bool (decide (x7 ≤ x6)))) (ex_pick1 rfl hE rfl hb3 rfl) ?_
          intro a hE
          obtain rfl := Option.some.inj hg1
          exact s_nil ⟨hE.cut ⟨rfl, rfl, rfl, rfl, rfl, rfl, rfl, trivial⟩, hp⟩
        ·
          replace hg1 := (ie hb3).symm.trans hg1
          refine s_skip (wk2 hE rfl rfl rfl hb3) rfl rfl hE ?_
          intro a hE
          refine s_skip (wk2 hE rfl rfl rfl hb3) rfl rfl hE ?_
          intro a hE
          refine s_skip (wk2 hE rfl rfl rfl hb3) rfl rfl hE ?_
          intro a hE
          refine s_skip (wk2 hE rfl rfl rfl hb3) rfl rfl hE ?_
          intro a hE
          refine s_skip (wk2 hE rfl rfl rfl hb3) rfl rfl hE ?_
          intro a hE
          refine s_skip (wk2 hE rfl rfl rfl hb3) rfl rfl hE ?_
          intro a hE
          refine s_skip (wk2 hE rfl rfl rfl hb3) rfl rfl hE ?_
          intro a hE
          refine s_skip (wk2 hE rfl rfl rfl hb3) rfl rfl hE ?_
          intro a hE
          refine s_skip (wk2 hE rfl rfl rfl hb3) rfl rfl hE ?_
          intro a hE
          refine s_val (wk0 rfl) rfl rfl hE hp (v := (.bool false)) (ex_pick0 rfl hE rfl hb3 rfl) ?_
          intro a hE
          obtain rfl := Option.some.inj hg1
          exact s_nil ⟨hE.cut ⟨rfl, rfl, rfl, rfl, rfl, rfl, rfl, trivial⟩, hp⟩
      · rintro a w ⟨hE, hp⟩
        refine s_val (wk0 rfl) rfl rfl hE hp (v := (.bool m1)) (ex_move rfl hE rfl) ?_
        intro a hE
        refine s_cut [_, _, _, _] (fun a w => Env 68 [(46, (.bool (m1 && (decide (x6 ≤ x3.1))))), (2, (.pointer (some ⟨b1, 0, none⟩))), (3, (.pointer (some ⟨b2, 0, none⟩))), (5, (.int .i64 x3.1)), (7, (.int .i64 x4)), (8, (.int .i64 x5)), (9, (.int .i64 x6))] a ∧ Hp Z ρ (Pt b2 (.cells #[(.int .i64 p1.kind), (.string p1.text), (.int .i64 p1.at_), (.int .i64 p1.fin), vp1_kids] 24 (0, 0)) :: Pt b1 (.cells #[(.int .i64 p0.kind), (.string p0.text), (.int .i64 p0.at_), (.int .i64 p0.fin), vp0_kids] 24 (0, 0)) :: L) w) ?_ ?_
        · rcases Bool.eq_false_or_eq_true m1 with hb4 | hb4
          ·
            refine s_val (wk1 hE rfl rfl rfl hb4) rfl rfl hE hp (v := (.int .i64 x3.1)) (ex_move rfl hE rfl) ?_
            intro a hE
            refine s_val (wk1 hE rfl rfl rfl hb4) rfl rfl hE hp (v := (.int .i64 x6)) (ex_move rfl hE rfl) ?_
            intro a hE
            refine s_val (wk1 hE rfl rfl rfl hb4) rfl rfl hE hp (v := (.bool (decide (x6 ≤ x3.1)))) (ex_geq rfl hE rfl rfl) ?_
            intro a hE
            refine s_val (wk0 rfl) rfl rfl hE hp (v := (.bool (decide (x6 ≤ x3.1)))) (ex_pick1 rfl hE rfl hb4 rfl) ?_
            intro a hE
            have hE := hE.eqv (v' := (.bool (m1 && (decide (x6 ≤ x3.1))))) (by rw [hb4]; rfl)
            exact s_nil ⟨hE.cut ⟨rfl, rfl, rfl, rfl, rfl, rfl, rfl, trivial⟩, hp⟩
          ·
            refine s_skip (wk2 hE rfl rfl rfl hb4) rfl rfl hE ?_
            intro a hE
            refine s_skip (wk2 hE rfl rfl rfl hb4) rfl rfl hE ?_
            intro a hE
            refine s_skip (wk2 hE rfl rfl rfl hb4) rfl rfl hE ?_
            intro a hE
            refine s_val (wk0 rfl) rfl rfl hE hp (v := (.bool false)) (ex_pick0 rfl hE rfl hb4 rfl) ?_
            intro a hE
            have hE := hE.eqv (v' := (.bool (m1 && (decide (x6 ≤ x3.1))))) (by rw [hb4]; rfl)
            exact s_nil ⟨hE.cut ⟨rfl, rfl, rfl, rfl, rfl, rfl, rfl, trivial⟩, hp⟩
        · rintro a w ⟨hE, hp⟩
          refine s_val (wk0 rfl) rfl rfl hE hp (v := (.bool (m1 && (decide (x6 ≤ x3.1))))) (ex_move rfl hE rfl) ?_
          intro a hE
          obtain ⟨m2, hg2, hm⟩ := bnd hm
          refine s_cut [_, _, _, _, _, _, _] (fun a w => Env 68 [(54, (.bool m2)), (2, (.pointer (some ⟨b1, 0, none⟩))), (3, (.pointer (some ⟨b2, 0, none⟩))), (9, (.int .i64 x6))] a ∧ Hp Z ρ (Pt b2 (.cells #[(.int .i64 p1.kind), (.string p1.text), (.int .i64 p1.at_), (.int .i64 p1.fin), vp1_kids] 24 (0, 0)) :: Pt b1 (.cells #[(.int .i64 p0.kind), (.string p0.text), (.int .i64 p0.at_), (.int .i64 p0.fin), vp0_kids] 24 (0, 0)) :: L) w) ?_ ?_
          · rcases Bool.eq_false_or_eq_true (m1 && (decide (x6 ≤ x3.1))) with hb5 | hb5
            ·
              replace hg2 := (it hb5).symm.trans hg2
              refine s_val (wk1 hE rfl rfl rfl hb5) rfl rfl hE hp (v := (.int .i64 x3.1)) (ex_move rfl hE rfl) ?_
              intro a hE
              refine s_val (wk1 hE rfl rfl rfl hb5) rfl rfl hE hp (v := (.int .i64 x4)) (ex_move rfl hE rfl) ?_
              intro a hE
              refine s_val (wk1 hE rfl rfl rfl hb5) rfl rfl hE hp (v := (.int .i64 x5)) (ex_move rfl hE rfl) ?_
              intro a hE
              obtain ⟨x8, ex8, hg2⟩ := bnd hg2
              refine s_val (wk1 hE rfl rfl rfl hb5) rfl rfl hE hp (v := (.int .i64 x8)) (ex_add rfl hE rfl rfl (inK_some ex8)) ?_
              intro a hE
              obtain ⟨x9, ex9, hg2⟩ := bnd hg2
              refine s_val (wk1 hE rfl rfl rfl hb5) rfl rfl hE hp (v := (.int .i64 x9)) (ex_sub rfl hE rfl rfl (inK_some ex9)) ?_
              intro a hE
              refine s_val (wk1 hE rfl rfl rfl hb5) rfl rfl hE hp (v := (.bool (decide (x3.1 ≤ x9)))) (ex_leq rfl hE rfl rfl) ?_
              intro a hE
              refine s_val (wk0 rfl) rfl rfl hE hp (v := (.bool (decide (x3.1 ≤ x9)))) (ex_pick1 rfl hE rfl hb5 rfl) ?_
              intro a hE
              obtain rfl := Option.some.inj hg2
              exact s_nil ⟨hE.cut ⟨rfl, rfl, rfl, rfl, trivial⟩, hp⟩
            ·
              replace hg2 := (ie hb5).symm.trans hg2
              refine s_skip (wk2 hE rfl rfl rfl hb5) rfl rfl hE ?_
              intro a hE
              refine s_skip (wk2 hE rfl rfl rfl hb5) rfl rfl hE ?_
              intro a hE
              refine s_skip (wk2 hE rfl rfl rfl hb5) rfl rfl hE ?_
              intro a hE
              refine s_skip (wk2 hE rfl rfl rfl hb5) rfl rfl hE ?_
              intro a hE
              refine s_skip (wk2 hE rfl rfl rfl hb5) rfl rfl hE ?_
              intro a hE
              refine s_skip (wk2 hE rfl rfl rfl hb5) rfl rfl hE ?_
              intro a hE
              refine s_val (wk0 rfl) rfl rfl hE hp (v := (.bool false)) (ex_pick0 rfl hE rfl hb5 rfl) ?_
              intro a hE
              obtain rfl := Option.some.inj hg2
              exact s_nil ⟨hE.cut ⟨rfl, rfl, rfl, rfl, trivial⟩, hp⟩
          · rintro a w ⟨hE, hp⟩
            refine s_val (wk0 rfl) rfl rfl hE hp (v := (.bool m2)) (ex_move rfl hE rfl) ?_
            intro a hE
            obtain ⟨m3, hg3, hm⟩ := bnd hm
            refine s_cut [_, _, _, _, _] (fun a w => Env 68 [(60, (.bool m3)), (2, (.pointer (some ⟨b1, 0, none⟩))), (3, (.pointer (some ⟨b2, 0, none⟩))), (9, (.int .i64 x6))] a ∧ Hp Z ρ (Pt b2 (.cells #[(.int .i64 p1.kind), (.string p1.text), (.int .i64 p1.at_), (.int .i64 p1.fin), vp1_kids] 24 (0, 0)) :: Pt b1 (.cells #[(.int .i64 p0.kind), (.string p0.text), (.int .i64 p0.at_), (.int .i64 p0.fin), vp0_kids] 24 (0, 0)) :: L) w) ?_ ?_
            · rcases Bool.eq_false_or_eq_true m2 with hb6 | hb6
              ·
                replace hg3 := (it hb6).symm.trans hg3
                refine s_val (wk1 hE rfl rfl rfl hb6) rfl rfl hE hp (v := (.agg #[(.int .i64 p0.kind), (.string p0.text), (.int .i64 p0.at_), (.int .i64 p0.fin), vp0_kids])) (ex_load rfl hE rfl (fun w hw => run_ldN (cs := [(.int .i64 p0.kind), (.string p0.text), (.int .i64 p0.at_), (.int .i64 p0.fin), vp0_kids]) varty24 (Hp.cN 1 rfl 0 _ (sub_all rfl) w hw))) ?_
                intro a hE
                refine s_val (wk1 hE rfl rfl rfl hb6) rfl rfl hE hp (v := (.agg #[(.int .i64 p0.kind), (.string p0.text), (.int .i64 p0.at_), (.int .i64 p0.fin), vp0_kids])) (ex_load rfl hE rfl (fun w hw => run_ldN (cs := [(.int .i64 p0.kind), (.string p0.text), (.int .i64 p0.at_), (.int .i64 p0.fin), vp0_kids]) varty24 (Hp.cN 1 rfl 0 _ (sub_all rfl) w hw))) ?_
                intro a hE
                obtain ⟨x10, ex10, hg3⟩ := bnd hg3
                refine s_call (wk1 hE rfl rfl rfl hb6) rfl rfl hE rfl [(.agg #[(.int .i64 p0.kind), (.string p0.text), (.int .i64 p0.at_), (.int .i64 p0.fin), vp0_kids]), (.agg #[(.int .i64 p0.kind), (.string p0.text), (.int .i64 p0.at_), (.int .i64 p0.fin), vp0_kids])] ⟨rfl, rfl, trivial⟩ ent15 (c_distance_Bound p0 vp0_kids hp0_kids p0 vp0_kids hp0_kids hp x10 ex10) Ret.ret ?_
                intro v a w hR hE
                obtain ⟨rfl, hp⟩ := Ret.of hR
                have hp : Hp Z ρ (_ :: _ :: L) w := hp
                refine s_val (wk1 hE rfl rfl rfl hb6) rfl rfl hE hp (v := (.bool (decide (x10 = 0)))) (ex_eql rfl hE rfl rfl) ?_
                intro a hE
                refine s_val (wk0 rfl) rfl rfl hE hp (v := (.bool (decide (x10 = 0)))) (ex_pick1 rfl hE rfl hb6 rfl) ?_
                intro a hE
                obtain rfl := Option.some.inj hg3
                exact s_nil ⟨hE.cut ⟨rfl, rfl, rfl, rfl, trivial⟩, hp⟩
              ·
                replace hg3 := (ie hb6).symm.trans hg3
                refine s_skip (wk2 hE rfl rfl rfl hb6) rfl rfl hE ?_
                intro a hE
                refine s_skip (wk2 hE rfl rfl rfl hb6) rfl rfl hE ?_
                intro a hE
                refine s_skip (wk2 hE rfl rfl rfl hb6) rfl rfl hE ?_
                intro a hE
                refine s_skip (wk2 hE rfl rfl rfl hb6) rfl rfl hE ?_
                intro a hE
                refine s_val (wk0 rfl) rfl rfl hE hp (v := (.bool false)) (ex_pick0 rfl hE rfl hb6 rfl) ?_
                intro a hE
                obtain rfl := Option.some.inj hg3
                exact s_nil ⟨hE.cut ⟨rfl, rfl, rfl, rfl, trivial⟩, hp⟩
            · rintro a w ⟨hE, hp⟩
              refine s_val (wk0 rfl) rfl rfl hE hp (v := (.bool m3)) (ex_move rfl hE rfl) ?_
              intro a hE
              obtain ⟨m4, hg4, hm⟩ := bnd hm
              refine s_cut [_, _, _, _, _, _] (fun a w => Env 68 [(67, (.bool m4))] a ∧ Hp Z ρ (Pt b2 (.cells #[(.int .i64 p1.kind), (.string p1.text), (.int .i64 p1.at_), (.int .i64 p1.fin), vp1_kids] 24 (0, 0)) :: Pt b1 (.cells #[(.int .i64 p0.kind), (.string p0.text), (.int .i64 p0.at_), (.int .i64 p0.fin), vp0_kids] 24 (0, 0)) :: L) w) ?_ ?_
              · rcases Bool.eq_false_or_eq_true m3 with hb7 | hb7
                ·
                  replace hg4 := (it hb7).symm.trans hg4
                  refine s_val (wk1 hE rfl rfl rfl hb7) rfl rfl hE hp (v := (.agg #[(.int .i64 p1.kind), (.string p1.text), (.int .i64 p1.at_), (.int .i64 p1.fin), vp1_kids])) (ex_load rfl hE rfl (fun w hw => run_ldN (cs := [(.int .i64 p1.kind), (.string p1.text), (.int .i64 p1.at_), (.int .i64 p1.fin), vp1_kids]) varty24 (Hp.cN 0 rfl 0 _ (sub_all rfl) w hw))) ?_
                  intro a hE
                  refine s_val (wk1 hE rfl rfl rfl hb7) rfl rfl hE hp (v := (.agg #[(.int .i64 p0.kind), (.string p0.text), (.int .i64 p0.at_), (.int .i64 p0.fin), vp0_kids])) (ex_load rfl hE rfl (fun w hw => run_ldN (cs := [(.int .i64 p0.kind), (.string p0.text), (.int .i64 p0.at_), (.int .i64 p0.fin), vp0_kids]) varty24 (Hp.cN 1 rfl 0 _ (sub_all rfl) w hw))) ?_
                  intro a hE
                  obtain ⟨x11, ex11, hg4⟩ := bnd hg4
                  refine s_call (wk1 hE rfl rfl rfl hb7) rfl rfl hE rfl [(.agg #[(.int .i64 p1.kind), (.string p1.text), (.int .i64 p1.at_), (.int .i64 p1.fin), vp1_kids]), (.agg #[(.int .i64 p0.kind), (.string p0.text), (.int .i64 p0.at_), (.int .i64 p0.fin), vp0_kids])] ⟨rfl, rfl, trivial⟩ ent15 (c_distance_Bound p1 vp1_kids hp1_kids p0 vp0_kids hp0_kids hp x11 ex11) Ret.ret ?_
                  intro v a w hR hE
                  obtain ⟨rfl, hp⟩ := Ret.of hR
                  have hp : Hp Z ρ (_ :: _ :: L) w := hp
                  refine s_val (wk1 hE rfl rfl rfl hb7) rfl rfl hE hp (v := (.int .i64 x6)) (ex_move rfl hE rfl) ?_
                  intro a hE
                  refine s_val (wk1 hE rfl rfl rfl hb7) rfl rfl hE hp (v := (.bool (decide (x11 = x6)))) (ex_eql rfl hE rfl rfl) ?_
                  intro a hE
                  refine s_val (wk0 rfl) rfl rfl hE hp (v := (.bool (decide (x11 = x6)))) (ex_pick1 rfl hE rfl hb7 rfl) ?_
                  intro a hE
                  obtain rfl := Option.some.inj hg4
                  exact s_nil ⟨hE.cut ⟨rfl, trivial⟩, hp⟩
                ·
                  replace hg4 := (ie hb7).symm.trans hg4
                  refine s_skip (wk2 hE rfl rfl rfl hb7) rfl rfl hE ?_
                  intro a hE
                  refine s_skip (wk2 hE rfl rfl rfl hb7) rfl rfl hE ?_
                  intro a hE
                  refine s_skip (wk2 hE rfl rfl rfl hb7) rfl rfl hE ?_
                  intro a hE
                  refine s_skip (wk2 hE rfl rfl rfl hb7) rfl rfl hE ?_
                  intro a hE
                  refine s_skip (wk2 hE rfl rfl rfl hb7) rfl rfl hE ?_
                  intro a hE
                  refine s_val (wk0 rfl) rfl rfl hE hp (v := (.bool false)) (ex_pick0 rfl hE rfl hb7 rfl) ?_
                  intro a hE
                  obtain rfl := Option.some.inj hg4
                  exact s_nil ⟨hE.cut ⟨rfl, trivial⟩, hp⟩
              · rintro a w ⟨hE, hp⟩
                refine s_val (wk0 rfl) rfl rfl hE hp (v := (.bool m4)) (ex_asn rfl hE rfl) ?_
                intro a hE
                refine s_nil ?_
                refine k_ret ?_
                obtain rfl := Option.some.inj hm
                exact ret1 hE rfl rfl ⟨_, rfl, rfl, (((hp.get 1 rfl).drop).drop)⟩
end Go.Proofs.Ytnnccbagbgndpaa

/-
  The code goes as its model: assessor/assessorlaw37.DistanceForm. (Printed by wip/sp/gen.py.)
-/
import Derived.Test.YtnnccbagbgndpaaWFM
import Derived.Test.YtnnccbagbgndpaaFct
import Derived.Test.YtnnccbagbgndpaaWS
import Derived.Test.YtnnccbagbgndpaaRBS
set_option linter.unusedVariables false
set_option linter.unusedSimpArgs false
namespace Go.Proofs.Ytnnccbagbgndpaa
open Go.RowKit

/- assessor/assessorlaw37.DistanceForm -/
set_option maxRecDepth 100000 in
set_option maxHeartbeats 4000000 in
theorem c_assessorlaw37_DistanceForm {Z : World} {ρ : PH} {L : List Atom} {w : World} (p0 : Node) (vp0_kids : Value) (hp0_kids : RoSl ρ vp0_kids p0.kids) (p1 : Node) (vp1_kids : Value) (hp1_kids : RoSl ρ vp1_kids p1.kids) (hp : Hp Z ρ (L) w) (r : Bool) (hm : m_assessorlaw37_DistanceForm p0 p1 = some r) :
    Calls Try.prog 3 #[(.agg #[(.int .i64 p0.kind), (.string p0.text), (.int .i64 p0.at_), (.int .i64 p0.fin), vp0_kids]), (.agg #[(.int .i64 p1.kind), (.string p1.text), (.int .i64 p1.at_), (.int .i64 p1.fin), vp1_kids])] w (Ret fun v w' => v = (.bool r) ∧ Hp Z ρ (L) w') := by
  refine enter (N := 105) Try.func3 rfl rfl [(0, (.agg #[(.int .i64 p0.kind), (.string p0.text), (.int .i64 p0.at_), (.int .i64 p0.fin), vp0_kids])), (1, (.agg #[(.int .i64 p1.kind), (.string p1.text), (.int .i64 p1.at_), (.int .i64 p1.fin), vp1_kids]))] rfl (argsIn_mem ⟨rfl, rfl, trivial⟩) fun a hE => ?_
  unfold m_assessorlaw37_DistanceForm at hm
  refine k_seq ?_
  refine k_region ?_
  refine s_box (wk0 rfl) rfl rfl hE hp rfl (v := (.agg #[(.int .i64 p0.kind), (.string p0.text), (.int .i64 p0.at_), (.int .i64 p0.fin), vp0_kids])) rfl ?_
  intro a w b1 hE hp
  have hp : Hp Z ρ (Pt b1 (.cells #[(.int .i64 p0.kind), (.string p0.text), (.int .i64 p0.at_), (.int .i64 p0.fin), vp0_kids] 24 (0, 0)) :: L) w := hp
  refine s_box (wk0 rfl) rfl rfl hE hp rfl (v := (.agg #[(.int .i64 p1.kind), (.string p1.text), (.int .i64 p1.at_), (.int .i64 p1.fin), vp1_kids])) rfl ?_
  intro a w b2 hE hp
  have hp : Hp Z ρ (Pt b2 (.cells #[(.int .i64 p1.kind), (.string p1.text), (.int .i64 p1.at_), (.int .i64 p1.fin), vp1_kids] 24 (0, 0)) :: _ :: L) w := hp
  refine s_val (wk0 rfl) rfl rfl hE hp (v := (.bool false)) (ex_asn rfl hE rfl) ?_
  intro a hE
  refine s_nil ?_
  refine k_seq ?_
  refine k_seq ?_
  refine k_region ?_
  obtain ⟨x1, ex1, hm⟩ := bnd hm
  refine s_call (wk0 rfl) rfl rfl hE rfl [] trivial ent10 (c_assessorlaw37_awake  hp x1 ex1) Ret.ret ?_
  intro v a w hR hE
  obtain ⟨rfl, hp⟩ := Ret.of hR
  have hp : Hp Z ρ (_ :: _ :: L) w := hp
  refine s_val (wk0 rfl) rfl rfl hE hp (v := (.bool (!x1))) (ex_not rfl hE rfl) ?_
  intro a hE
  refine s_nil ?_
  refine k_if hE rfl (fun hb1 => ?_) (fun hb1 => ?_)
  · replace hm := (it hb1).symm.trans hm
    refine k_seq ?_
    refine k_region ?_
    refine s_val (wk0 rfl) rfl rfl hE hp (v := (.bool false)) (ex_asn rfl hE rfl) ?_
    intro a hE
    refine s_nil ?_
    refine k_ret ?_
    obtain rfl := Option.some.inj hm
    exact ret1 hE rfl rfl ⟨_, rfl, rfl, (((hp.get 1 rfl).drop).drop)⟩
  · replace hm := (ie hb1).symm.trans hm
    refine k_skip ?_
    refine k_seq ?_
    refine k_seq ?_
    refine k_region ?_
    refine s_val (wk0 rfl) rfl rfl hE hp (v := (.agg #[(.int .i64 p0.kind), (.string p0.text), (.int .i64 p0.at_), (.int .i64 p0.fin), vp0_kids])) (ex_load rfl hE rfl (fun w hw => run_ldN (cs := [(.int .i64 p0.kind), (.string p0.text), (.int .i64 p0.at_), (.int .i64 p0.fin), vp0_kids]) varty24 (Hp.cN 1 rfl 0 _ (sub_all rfl) w hw))) ?_
    intro a hE
    refine s_val (wk0 rfl) rfl rfl hE hp (v := (.agg #[(.int .i64 p1.kind), (.string p1.text), (.int .i64 p1.at_), (.int .i64 p1.fin), vp1_kids])) (ex_load rfl hE rfl (fun w hw => run_ldN (cs := [(.int .i64 p1.kind), (.string p1.text), (.int .i64 p1.at_), (.int .i64 p1.fin), vp1_kids]) varty24 (Hp.cN 0 rfl 0 _ (sub_all rfl) w hw))) ?_
    intro a hE
    obtain ⟨x2, ex2, hm⟩ := bnd hm
    refine s_call (wk0 rfl) rfl rfl hE rfl [(.agg #[(.int .i64 p0.kind), (.string p0.text), (.int .i64 p0.at_), (.int .i64 p0.fin), vp0_kids]), (.agg #[(.int .i64 p1.kind), (.string p1.text), (.int .i64 p1.at_), (.int .i64 p1.fin), vp1_kids]), (.int .i64 20)] ⟨rfl, rfl, rfl, trivial⟩ ent11 (c_assessorlaw37_few p0 vp0_kids hp0_kids p1 vp1_kids hp1_kids 20 hp x2 ex2) Ret.ret ?_
    intro v a w hR hE
    obtain ⟨rfl, hp⟩ := Ret.of hR
    have hp : Hp Z ρ (_ :: _ :: L) w := hp
    refine s_val (wk0 rfl) rfl rfl hE hp (v := (.bool (!x2))) (ex_not rfl hE rfl) ?_
    intro a hE
    refine s_nil ?_
    refine k_if hE rfl (fun hb2 => ?_) (fun hb2 => ?_)
    · replace hm := (it hb2).symm.trans hm
      refine k_seq ?_
      refine k_region ?_
      refine s_val (wk0 rfl) rfl rfl hE hp (v := (.bool true)) (ex_asn rfl hE rfl) ?_
      intro a hE
      refine s_nil ?_
      refine k_ret ?_
      obtain rfl := Option.some.inj hm
      exact ret1 hE rfl rfl ⟨_, rfl, rfl, (((hp.get 1 rfl).drop).drop)⟩
    · replace hm := (ie hb2).symm.trans hm
      refine k_skip ?_
      refine k_seq ?_
      refine k_region ?_
      refine s_val (wk0 rfl) rfl rfl hE hp (v := (.agg #[(.int .i64 p0.kind), (.string p0.text), (.int .i64 p0.at_), (.int .i64 p0.fin), vp0_kids])) (ex_load rfl hE rfl (fun w hw => run_ldN (cs := [(.int .i64 p0.kind), (.string p0.text), (.int .i64 p0.at_), (.int .i64 p0.fin), vp0_kids]) varty24 (Hp.cN 1 rfl 0 _ (sub_all rfl) w hw))) ?_
      intro a hE
      refine s_val (wk0 rfl) rfl rfl hE hp (v := (.agg #[(.int .i64 p1.kind), (.string p1.text), (.int .i64 p1.at_), (.int .i64 p1.fin), vp1_kids])) (ex_load rfl hE rfl (fun w hw => run_ldN (cs := [(.int .i64 p1.kind), (.string p1.text), (.int .i64 p1.at_), (.int .i64 p1.fin), vp1_kids]) varty24 (Hp.cN 0 rfl 0 _ (sub_all rfl) w hw))) ?_
      intro a hE
      obtain ⟨x3, ex3, hm⟩ := bnd hm
      refine s_call (wk0 rfl) rfl rfl hE rfl [(.agg #[(.int .i64 p0.kind), (.string p0.text), (.int .i64 p0.at_), (.int .i64 p0.fin), vp0_kids]), (.agg #[(.int .i64 p1.kind), (.string p1.text), (.int .i64 p1.at_), (.int .i64 p1.fin), vp1_kids])] ⟨rfl, rfl, trivial⟩ ent12 (c_distance_Distance p0 vp0_kids hp0_kids p1 vp1_kids hp1_kids hp x3 ex3) Ret.ret ?_
      intro v a w hR hE
      obtain ⟨rfl, hp⟩ := Ret.of hR
      have hp : Hp Z ρ (_ :: _ :: L) w := hp
      refine s_val (wk0 rfl) rfl rfl hE hp (v := (.tuple #[(.int .i64 x3.1), (.int .i64 x3.2)])) (ex_move rfl hE rfl) ?_
      intro a hE
      refine s_val (wk0 rfl) rfl rfl hE hp (v := (.int .i64 x3.1)) (ex_extract rfl hE rfl rfl) ?_
      intro a hE
      refine s_val (wk0 rfl) rfl rfl hE hp (v := (.int .i64 x3.2)) (ex_extract rfl hE rfl rfl) ?_
      intro a hE
      refine s_val (wk0 rfl) rfl rfl hE hp (v := (.int .i64 x3.1)) (ex_asn rfl hE rfl) ?_
      intro a hE
      refine s_val (wk0 rfl) rfl rfl hE hp (v := (.int .i64 x3.2)) (ex_asn rfl hE rfl) ?_
      intro a hE
      refine s_nil ?_
      refine k_seq ?_
      refine k_region ?_
      refine s_val (wk0 rfl) rfl rfl hE hp (v := (.agg #[(.int .i64 p0.kind), (.string p0.text), (.int .i64 p0.at_), (.int .i64 p0.fin), vp0_kids])) (ex_load rfl hE rfl (fun w hw => run_ldN (cs := [(.int .i64 p0.kind), (.string p0.text), (.int .i64 p0.at_), (.int .i64 p0.fin), vp0_kids]) varty24 (Hp.cN 1 rfl 0 _ (sub_all rfl) w hw))) ?_
      intro a hE
      refine s_val (wk0 rfl) rfl rfl hE hp (v := (.agg #[(.int .i64 p1.kind), (.string p1.text), (.int .i64 p1.at_), (.int .i64 p1.fin), vp1_kids])) (ex_load rfl hE rfl (fun w hw => run_ldN (cs := [(.int .i64 p1.kind), (.string p1.text), (.int .i64 p1.at_), (.int .i64 p1.fin), vp1_kids]) varty24 (Hp.cN 0 rfl 0 _ (sub_all rfl) w hw))) ?_
      intro a hE
      obtain ⟨x4, ex4, hm⟩ := bnd hm
      refine s_call (wk0 rfl) rfl rfl hE rfl [(.agg #[(.int .i64 p0.kind), (.string p0.text), (.int .i64 p0.at_), (.int .i64 p0.fin), vp0_kids]), (.agg #[(.int .i64 p1.kind), (.string p1.text), (.int .i64 p1.at_), (.int .i64 p1.fin), vp1_kids])] ⟨rfl, rfl, trivial⟩ ent13 (c_distance_Subtrees p0 vp0_kids hp0_kids p1 vp1_kids hp1_kids hp x4 ex4) Ret.ret ?_
      intro v a w hR hE
      obtain ⟨vr5, usr5, rfl, hp⟩ := Ret.of hR
      have hp : Hp Z ρ (TblA 34 3 vr5 usr5 (x4.1 : (List (List Int))) :: _ :: _ :: L) w := hp
      refine s_val (wk0 rfl) rfl rfl hE hp (v := (.tuple #[vr5, (.int .i64 x4.2)])) (ex_move rfl hE rfl) ?_
      intro a hE
      refine s_val (wk0 rfl) rfl rfl hE hp (v := vr5) (ex_extract rfl hE rfl rfl) ?_
      intro a hE
      refine s_val (wk0 rfl) rfl rfl hE hp (v := (.int .i64 x4.2)) (ex_extract rfl hE rfl rfl) ?_
      intro a hE
      refine s_val (wk0 rfl) rfl rfl hE hp (v := vr5) (ex_asn rfl hE rfl) ?_
      intro a hE
      refine s_val (wk0 rfl) rfl rfl hE hp (v := (.int .i64 x4.2)) (ex_asn rfl hE rfl) ?_
      intro a hE
      refine s_nil ?_
      have hE := hE.cut (E' := [(2, (.pointer (some ⟨b1, 0, none⟩))), (3, (.pointer (some ⟨b2, 0, none⟩))), (5, (.int .i64 x3.1)), (6, (.int .i64 x3.2)), (7, vr5), (8, (.int .i64 x4.2))]) ⟨rfl, rfl, rfl, rfl, rfl, rfl, trivial⟩
      refine k_seq ?_
      refine k_region ?_
      refine s_val (wk0 rfl) rfl rfl hE hp (v := (.agg #[(.int .i64 p0.kind), (.string p0.text), (.int .i64 p0.at_), (.int .i64 p0.fin), vp0_kids])) (ex_load rfl hE rfl (fun w hw => run_ldN (cs := [(.int .i64 p0.kind), (.string p0.text), (.int .i64 p0.at_), (.int .i64 p0.fin), vp0_kids]) varty24 (Hp.cN 2 rfl 0 _ (sub_all rfl) w hw))) ?_
      intro a hE
      refine s_val (wk0 rfl) rfl rfl hE hp (v := (.agg #[(.int .i64 p1.kind), (.string p1.text), (.int .i64 p1.at_), (.int .i64 p1.fin), vp1_kids])) (ex_load rfl hE rfl (fun w hw => run_ldN (cs := [(.int .i64 p1.kind), (.string p1.text), (.int .i64 p1.at_), (.int .i64 p1.fin), vp1_kids]) varty24 (Hp.cN 1 rfl 0 _ (sub_all rfl) w hw))) ?_
      intro a hE
      obtain ⟨x5, ex5, hm⟩ := bnd hm
      refine s_call (wk0 rfl) rfl rfl hE rfl [(.agg #[(.int .i64 p0.kind), (.string p0.text), (.int .i64 p0.at_), (.int .i64 p0.fin), vp0_kids]), (.agg #[(.int .i64 p1.kind), (.string p1.text), (.int .i64 p1.at_), (.int .i64 p1.fin), vp1_kids])] ⟨rfl, rfl, trivial⟩ ent14 (c_assessorref37_Subtrees p0 vp0_kids hp0_kids p1 vp1_kids hp1_kids hp x5 ex5) Ret.ret ?_
      intro vr7 a w hR hE
      obtain ⟨u, usr7, rfl, hp⟩ := Ret.of hR
      have hp : Hp Z ρ (TblA 34 3 vr7 usr7 (x5 : (List (List Int))) :: _ :: _ :: _ :: L) w := hp
      refine s_val (wk0 rfl) rfl rfl hE hp (v := vr7) (ex_asn rfl hE rfl) ?_
      intro a hE
      refine s_nil ?_
      refine k_seq ?_
      refine k_seq ?_
      refine k_quiet (by kernel_rfl) (by kernel_rfl) hp ?_
      refine q_val (wk0 rfl) rfl rfl hE (v := (.int .i64 x3.2)) (ex_move rfl hE rfl) ?_
      intro a hE
      refine q_val (wk0 rfl) rfl rfl hE (v := (.bool (!decide (x3.2 = 0)))) (ex_neq rfl hE rfl rfl) ?_
      intro a hE
      refine q_val (wk0 rfl) rfl rfl hE (v := (.bool (!decide (x3.2 = 0)))) (ex_move rfl hE rfl) ?_
      intro a hE
      refine q_cut [_, _, _] (fun a => Env 105 [(38, (.bool ((!decide (x3.2 = 0)) || (!decide (x4.2 = 0))))), (2, (.pointer (some ⟨b1, 0, none⟩))), (3, (.pointer (some ⟨b2, 0, none⟩))), (5, (.int .i64 x3.1)), (7, vr5), (9, vr7)] a) ?_ ?_
      · rcases Bool.eq_false_or_eq_true (!decide (x3.2 = 0)) with hb3 | hb3
        ·
          refine q_skip (wk2 hE rfl rfl rfl hb3) rfl rfl hE ?_
          intro a hE
          refine q_skip (wk2 hE rfl rfl rfl hb3) rfl rfl hE ?_
          intro a hE
          refine q_val (wk0 rfl) rfl rfl hE (v := (.bool true)) (ex_pick1 rfl hE rfl hb3 rfl) ?_
          intro a hE
          have hE := hE.eqv (v' := (.bool ((!decide (x3.2 = 0)) || (!decide (x4.2 = 0))))) (by rw [hb3]; rfl)
          exact q_nil (hE.cut ⟨rfl, rfl, rfl, rfl, rfl, rfl, trivial⟩)
        ·
          refine q_val (wk1 hE rfl rfl rfl hb3) rfl rfl hE (v := (.int .i64 x4.2)) (ex_move rfl hE rfl) ?_
          intro a hE
          refine q_val (wk1 hE rfl rfl rfl hb3) rfl rfl hE (v := (.bool (!decide (x4.2 = 0)))) (ex_neq rfl hE rfl rfl) ?_
          intro a hE
          refine q_val (wk0 rfl) rfl rfl hE (v := (.bool (!decide (x4.2 = 0)))) (ex_pick0 rfl hE rfl hb3 rfl) ?_
          intro a hE
          have hE := hE.eqv (v' := (.bool ((!decide (x3.2 = 0)) || (!decide (x4.2 = 0))))) (by rw [hb3]; rfl)
          exact q_nil (hE.cut ⟨rfl, rfl, rfl, rfl, rfl, rfl, trivial⟩)
      · intro a hE
        refine q_val (wk0 rfl) rfl rfl hE (v := (.bool ((!decide (x3.2 = 0)) || (!decide (x4.2 = 0))))) (ex_move rfl hE rfl) ?_
        intro a hE
        obtain ⟨m1, hg1, hm⟩ := bnd hm
        refine q_cut [_, _, _, _, _, _, _, _] (fun a => Env 105 [(47, (.bool m1)), (2, (.pointer (some ⟨b1, 0, none⟩))), (3, (.pointer (some ⟨b2, 0, none⟩))), (7, vr5), (9, vr7)] a) ?_ ?_
        · rcases Bool.eq_false_or_eq_true ((!decide (x3.2 = 0)) || (!decide (x4.2 = 0))) with hb4 | hb4
          ·
            replace hg1 := (it hb4).symm.trans hg1
            refine q_skip (wk2 hE rfl rfl rfl hb4) rfl rfl hE ?_
            intro a hE
            refine q_skip (wk2 hE rfl rfl rfl hb4) rfl rfl hE ?_
            intro a hE
            refine q_skip (wk2 hE rfl rfl rfl hb4) rfl rfl hE ?_
            intro a hE
            refine q_skip (wk2 hE rfl rfl rfl hb4) rfl rfl hE ?_
            intro a hE
            refine q_skip (wk2 hE rfl rfl rfl hb4) rfl rfl hE ?_
            intro a hE
            refine q_skip (wk2 hE rfl rfl rfl hb4) rfl rfl hE ?_
            intro a hE
            refine q_skip (wk2 hE rfl rfl rfl hb4) rfl rfl hE ?_
            intro a hE
            refine q_val (wk0 rfl) rfl rfl hE (v := (.bool true)) (ex_pick1 rfl hE rfl hb4 rfl) ?_
            intro a hE
            obtain rfl := Option.some.inj hg1
            exact q_nil (hE.cut ⟨rfl, rfl, rfl, rfl, rfl, trivial⟩)
          ·
            replace hg1 := (ie hb4).symm.trans hg1
            refine q_val (wk1 hE rfl rfl rfl hb4) rfl rfl hE (v := (.int .i64 x3.1)) (ex_move rfl hE rfl) ?_
            intro a hE
            refine q_val (wk1 hE rfl rfl rfl hb4) rfl rfl hE (v := vr7) (ex_move rfl hE rfl) ?_
            intro a hE
            obtain ⟨x6, ex6, hg1⟩ := bnd hg1
            obtain ⟨b3u, b3, b3o, b3h, b3r, b3v, b3f⟩ := TblA.hdr hp 0 rfl slty30 ex6
            have b3f : ∀ (j : Nat) (u : Value), ([(Sl.v b3u)] : List Value)[j]? = some u → ∀ ρ' L' w, Hp Z ρ' (TblA 34 3 vr7 usr7 (x5 : (List (List Int))) :: L') w → w.cell? ⟨b3, b3o + j, none⟩ = some u := b3f
            refine q_val (wk1 hE rfl rfl rfl hb4) rfl rfl hE (v := (.pointer (some ⟨b3, b3o, none⟩))) (ex_index rfl hE rfl rfl b3r) ?_
            intro a hE
            refine q_val (wk1 hE rfl rfl rfl hb4) rfl rfl hE (v := (Sl.v b3u)) (ex_load rfl hE rfl (fun w hw => run_ld1 varty34 (b3f 0 _ rfl _ _ w (hw.get 0 rfl)))) ?_
            intro a hE
            obtain ⟨x7, ex7, hg1⟩ := bnd hg1
            obtain ⟨b4, b4o, b4r, b4v, b4f⟩ := TblA.at hp 0 rfl slty34 b3h ex6 ex7
            have b4f : ∀ (j : Nat) (u : Value), ([(.int .i64 x7)] : List Value)[j]? = some u → ∀ ρ' L' w, Hp Z ρ' (TblA 34 3 vr7 usr7 (x5 : (List (List Int))) :: L') w → w.cell? ⟨b4, b4o + j, none⟩ = some u := b4f
            refine q_val (wk1 hE rfl rfl rfl hb4) rfl rfl hE (v := (.pointer (some ⟨b4, b4o, none⟩))) (ex_index rfl hE rfl rfl b4r) ?_
            intro a hE
            refine q_val (wk1 hE rfl rfl rfl hb4) rfl rfl hE (v := (.int .i64 x7)) (ex_load rfl hE rfl (fun w hw => run_ld1 varty3 (b4f 0 _ rfl _ _ w (hw.get 0 rfl)))) ?_
            intro a hE
            refine q_val (wk1 hE rfl rfl rfl hb4) rfl rfl hE (v := (.bool (!decide (x3.1 = x7)))) (ex_neq rfl hE rfl rfl) ?_
            intro a hE
            refine q_val (wk0 rfl) rfl rfl hE (v := (.bool (!decide (x3.1 = x7)))) (ex_pick0 rfl hE rfl hb4 rfl) ?_
            intro a hE
            obtain rfl := Option.some.inj hg1
            exact q_nil (hE.cut ⟨rfl, rfl, rfl, rfl, rfl, trivial⟩)
        · intro a hE
          refine q_val (wk0 rfl) rfl rfl hE (v := (.bool m1)) (ex_move rfl hE rfl) ?_
          intro a hE
          obtain ⟨m2, hg2, hm⟩ := bnd hm
          refine q_cut [_, _, _, _, _, _, _, _] (fun a => Env 105 [(56, (.bool m2)), (7, vr5), (9, vr7)] a) ?_ ?_
          · rcases Bool.eq_false_or_eq_true m1 with hb5 | hb5
            ·
              replace hg2 := (it hb5).symm.trans hg2
              refine q_skip (wk2 hE rfl rfl rfl hb5) rfl rfl hE ?_
              intro a hE
              refine q_skip (wk2 hE rfl rfl rfl hb5) rfl rfl hE ?_
              intro a hE
              refine q_skip (wk2 hE rfl rfl rfl hb5) rfl rfl hE ?_
              intro a hE
              refine q_skip (wk2 hE rfl rfl rfl hb5) rfl rfl hE ?_
              intro a hE
              refine q_skip (wk2 hE rfl rfl rfl hb5) rfl rfl hE ?_
              intro a hE
              refine q_skip (wk2 hE rfl rfl rfl hb5) rfl rfl hE ?_
              intro a hE
              refine q_skip (wk2 hE rfl rfl rfl hb5) rfl rfl hE ?_
              intro a hE
              refine q_val (wk0 rfl) rfl rfl hE (v := (.bool true)) (ex_pick1 rfl hE rfl hb5 rfl) ?_
              intro a hE
              obtain rfl := Option.some.inj hg2
              exact q_nil (hE.cut ⟨rfl, rfl, rfl, trivial⟩)
            ·
              replace hg2 := (ie hb5).symm.trans hg2
              refine q_val (wk1 hE rfl rfl rfl hb5) rfl rfl hE (v := (.agg #[(.int .i64 p0.kind), (.string p0.text), (.int .i64 p0.at_), (.int .i64 p0.fin), vp0_kids])) (ex_load rfl hE rfl (fun w hw => run_ldN (cs := [(.int .i64 p0.kind), (.string p0.text), (.int .i64 p0.at_), (.int .i64 p0.fin), vp0_kids]) varty24 (Hp.cN 3 rfl 0 _ (sub_all rfl) w hw))) ?_
              intro a hE
              refine q_val (wk1 hE rfl rfl rfl hb5) rfl rfl hE (v := (.agg #[(.int .i64 p1.kind), (.string p1.text), (.int .i64 p1.at_), (.int .i64 p1.fin), vp1_kids])) (ex_load rfl hE rfl (fun w hw => run_ldN (cs := [(.int .i64 p1.kind), (.string p1.text), (.int .i64 p1.at_), (.int .i64 p1.fin), vp1_kids]) varty24 (Hp.cN 2 rfl 0 _ (sub_all rfl) w hw))) ?_
              intro a hE
              obtain ⟨x8, ex8, hg2⟩ := bnd hg2
              refine q_call (wk1 hE rfl rfl rfl hb5) rfl rfl hE rfl [(.agg #[(.int .i64 p0.kind), (.string p0.text), (.int .i64 p0.at_), (.int .i64 p0.fin), vp0_kids]), (.agg #[(.int .i64 p1.kind), (.string p1.text), (.int .i64 p1.at_), (.int .i64 p1.fin), vp1_kids])] ⟨rfl, rfl, trivial⟩ ent15 (v := (.int .i64 x8)) (fun w hw => Calls.mono (c_distance_Bound p0 vp0_kids hp0_kids p1 vp1_kids hp1_kids hw x8 ex8) fun e w' ⟨v, he, hv, hh⟩ => ⟨by rw [he, hv], hh⟩) ?_
              intro a hE
              refine q_val (wk1 hE rfl rfl rfl hb5) rfl rfl hE (v := (.agg #[(.int .i64 p0.kind), (.string p0.text), (.int .i64 p0.at_), (.int .i64 p0.fin), vp0_kids])) (ex_load rfl hE rfl (fun w hw => run_ldN (cs := [(.int .i64 p0.kind), (.string p0.text), (.int .i64 p0.at_), (.int .i64 p0.fin), vp0_kids]) varty24 (Hp.cN 3 rfl 0 _ (sub_all rfl) w hw))) ?_
              intro a hE
              refine q_val (wk1 hE rfl rfl rfl hb5) rfl rfl hE (v := (.agg #[(.int .i64 p1.kind), (.string p1.text), (.int .i64 p1.at_), (.int .i64 p1.fin), vp1_kids])) (ex_load rfl hE rfl (fun w hw => run_ldN (cs := [(.int .i64 p1.kind), (.string p1.text), (.int .i64 p1.at_), (.int .i64 p1.fin), vp1_kids]) varty24 (Hp.cN 2 rfl 0 _ (sub_all rfl) w hw))) ?_
              intro a hE
              obtain ⟨x9, ex9, hg2⟩ := bnd hg2
              refine q_call (wk1 hE rfl rfl rfl hb5) rfl rfl hE rfl [(.agg #[(.int .i64 p0.kind), (.string p0.text), (.int .i64 p0.at_), (.int .i64 p0.fin), vp0_kids]), (.agg #[(.int .i64 p1.kind), (.string p1.text), (.int .i64 p1.at_), (.int .i64 p1.fin), vp1_kids])] ⟨rfl, rfl, trivial⟩ ent16 (v := (.int .i64 x9)) (fun w hw => Calls.mono (c_assessorref37_Bound p0 vp0_kids hp0_kids p1 vp1_kids hp1_kids hw x9 ex9) fun e w' ⟨v, he, hv, hh⟩ => ⟨by rw [he, hv], hh⟩) ?_
              intro a hE
              refine q_val (wk1 hE rfl rfl rfl hb5) rfl rfl hE (v := (.bool (!decide (x8 = x9)))) (ex_neq rfl hE rfl rfl) ?_
              intro a hE
              refine q_val (wk0 rfl) rfl rfl hE (v := (.bool (!decide (x8 = x9)))) (ex_pick0 rfl hE rfl hb5 rfl) ?_
              intro a hE
              obtain rfl := Option.some.inj hg2
              exact q_nil (hE.cut ⟨rfl, rfl, rfl, trivial⟩)
          · intro a hE
            refine q_val (wk0 rfl) rfl rfl hE (v := (.bool m2)) (ex_move rfl hE rfl) ?_
            intro a hE
            refine q_cut [_, _, _, _, _, _] (fun a => Env 105 [(63, (.bool (m2 || (!decide ((x4.1.length : Int) = (x5.length : Int)))))), (7, vr5), (9, vr7)] a) ?_ ?_
            · rcases Bool.eq_false_or_eq_true m2 with hb6 | hb6
              ·
                refine q_skip (wk2 hE rfl rfl rfl hb6) rfl rfl hE ?_
                intro a hE
                refine q_skip (wk2 hE rfl rfl rfl hb6) rfl rfl hE ?_
                intro a hE
                refine q_skip (wk2 hE rfl rfl rfl hb6) rfl rfl hE ?_
                intro a hE
                refine q_skip (wk2 hE rfl rfl rfl hb6) rfl rfl hE ?_
                intro a hE
                refine q_skip (wk2 hE rfl rfl rfl hb6) rfl rfl hE ?_
                intro a hE
                refine q_val (wk0 rfl) rfl rfl hE (v := (.bool true)) (ex_pick1 rfl hE rfl hb6 rfl) ?_
                intro a hE
                have hE := hE.eqv (v' := (.bool (m2 || (!decide ((x4.1.length : Int) = (x5.length : Int)))))) (by rw [hb6]; rfl)
                exact q_nil (hE.cut ⟨rfl, rfl, rfl, trivial⟩)
              ·
                refine q_val (wk1 hE rfl rfl rfl hb6) rfl rfl hE (v := vr5) (ex_move rfl hE rfl) ?_
                intro a hE
                refine q_val (wk1 hE rfl rfl rfl hb6) rfl rfl hE (v := (.int .i64 (x4.1.length : Int))) (ex_len rfl hE rfl (TblA.len hp 1 rfl slty30)) ?_
                intro a hE
                refine q_val (wk1 hE rfl rfl rfl hb6) rfl rfl hE (v := vr7) (ex_move rfl hE rfl) ?_
                intro a hE
                refine q_val (wk1 hE rfl rfl rfl hb6) rfl rfl hE (v := (.int .i64 (x5.length : Int))) (ex_len rfl hE rfl (TblA.len hp 0 rfl slty30)) ?_
                intro a hE
                refine q_val (wk1 hE rfl rfl rfl hb6) rfl rfl hE (v := (.bool (!decide ((x4.1.length : Int) = (x5.length : Int))))) (ex_neq rfl hE rfl rfl) ?_
                intro a hE
                refine q_val (wk0 rfl) rfl rfl hE (v := (.bool (!decide ((x4.1.length : Int) = (x5.length : Int))))) (ex_pick0 rfl hE rfl hb6 rfl) ?_
                intro a hE
                have hE := hE.eqv (v' := (.bool (m2 || (!decide ((x4.1.length : Int) = (x5.length : Int)))))) (by rw [hb6]; rfl)
                exact q_nil (hE.cut ⟨rfl, rfl, rfl, trivial⟩)
            · intro a hE
              refine q_nil fun w hp => ?_
              have hp : Hp Z ρ (_ :: _ :: _ :: _ :: L) w := hp
              refine k_if hE rfl (fun hb7 => ?_) (fun hb7 => ?_)
              · replace hm := (it hb7).symm.trans hm
                refine k_seq ?_
                refine k_region ?_
                refine s_val (wk0 rfl) rfl rfl hE hp (v := (.bool false)) (ex_asn rfl hE rfl) ?_
                intro a hE
                refine s_nil ?_
                refine k_ret ?_
                obtain rfl := Option.some.inj hm
                exact ret1 hE rfl rfl ⟨_, rfl, rfl, (((((((hp.get 3 rfl).drop).get 2 rfl).drop).get 1 rfl).drop).drop)⟩
              · replace hm := (ie hb7).symm.trans hm
                refine k_skip ?_
                refine k_seq ?_
                refine k_seq ?_
                refine k_region ?_
                refine s_val (wk0 rfl) rfl rfl hE hp (v := vr7) (ex_move rfl hE rfl) ?_
                intro a hE
                refine s_val (wk0 rfl) rfl rfl hE hp (v := (.int .i64 (x5.length : Int))) (ex_len rfl hE rfl (TblA.len hp 0 rfl slty30)) ?_
                intro a hE
                refine s_val (wk0 rfl) rfl rfl hE hp (v := (.int .i64 0)) (ex_move rfl hE rfl) ?_
                intro a hE
                refine s_nil ?_
                obtain ⟨b5, hb8, hm⟩ := bnd hm
                refine k_block (fun a w => ∃ s : Unit, b5 = .brk s ∧ (Env 105 [] a ∧ Hp Z ρ (TblA 34 3 vr7 usr7 (x5 : (List (List Int))) :: TblA 34 3 vr5 usr5 (x4.1 : (List (List Int))) :: Pt b2 (.cells #[(.int .i64 p1.kind), (.string p1.text), (.int .i64 p1.at_), (.int .i64 p1.fin), vp1_kids] 24 (0, 0)) :: Pt b1 (.cells #[(.int .i64 p0.kind), (.string p0.text), (.int .i64 p0.at_), (.int .i64 p0.fin), vp0_kids] 24 (0, 0)) :: L) w)) ?_ ?_
                · refine k_loop hb8 (fun s a w => Env 105 [(7, vr5), (9, vr7), (65, (.int .i64 (x5.length : Int))), (66, (.int .i64 s))] a ∧ Hp Z ρ (TblA 34 3 vr7 usr7 (x5 : (List (List Int))) :: TblA 34 3 vr5 usr5 (x4.1 : (List (List Int))) :: Pt b2 (.cells #[(.int .i64 p1.kind), (.string p1.text), (.int .i64 p1.at_), (.int .i64 p1.fin), vp1_kids] 24 (0, 0)) :: Pt b1 (.cells #[(.int .i64 p0.kind), (.string p0.text), (.int .i64 p0.at_), (.int .i64 p0.fin), vp0_kids] 24 (0, 0)) :: L) w) ?_ ?_
                  · exact ⟨hE.cut ⟨rfl, rfl, rfl, rfl, trivial⟩, hp⟩
                  · rintro lp1_0 st a w ⟨hE, hp⟩ hl1
                    have hE : Env 105 [(7, vr5), (9, vr7), (65, (.int .i64 (x5.length : Int))), (66, (.int .i64 lp1_0))] a := hE
                    have hp : Hp Z ρ (_ :: _ :: _ :: _ :: L) w := hp
                    replace hl1 : m_assessorlaw37_DistanceForm_lp1 x4 x5 lp1_0 = some st := hl1
                    unfold m_assessorlaw37_DistanceForm_lp1 at hl1
                    refine k_seq ?_
                    refine k_region ?_
                    refine s_val (wk0 rfl) rfl rfl hE hp (v := (.bool (decide (lp1_0 < (x5.length : Int))))) (ex_lss rfl hE rfl rfl) ?_
                    intro a hE
                    refine s_nil ?_
                    refine k_seq ?_
                    refine k_if hE rfl (fun hb9 => ?_) (fun hb9 => ?_)
                    · replace hl1 := (it hb9).symm.trans hl1
                      refine k_skip ?_
                      refine k_seq ?_
                      refine k_plain ?_
                      refine k_seq ?_
                      refine k_region ?_
                      refine s_val (wk0 rfl) rfl rfl hE hp (v := (.int .i64 lp1_0)) (ex_move rfl hE rfl) ?_
                      intro a hE
                      refine s_val (wk0 rfl) rfl rfl hE hp (v := (.int .i64 lp1_0)) (ex_asn rfl hE rfl) ?_
                      intro a hE
                      refine s_nil ?_
                      refine k_seq ?_
                      refine k_seq ?_
                      refine k_quiet (by kernel_rfl) (by kernel_rfl) hp ?_
                      refine q_val (wk0 rfl) rfl rfl hE (v := vr5) (ex_move rfl hE rfl) ?_
                      intro a hE
                      refine q_val (wk0 rfl) rfl rfl hE (v := (.int .i64 lp1_0)) (ex_move rfl hE rfl) ?_
                      intro a hE
                      obtain ⟨x10, ex10, hl1⟩ := bnd hl1
                      obtain ⟨b6u, b6, b6o, b6h, b6r, b6v, b6f⟩ := TblA.hdr hp 1 rfl slty30 ex10
                      have b6f : ∀ (j : Nat) (u : Value), ([(Sl.v b6u)] : List Value)[j]? = some u → ∀ ρ' L' w, Hp Z ρ' (TblA 34 3 vr5 usr5 (x4.1 : (List (List Int))) :: L') w → w.cell? ⟨b6, b6o + j, none⟩ = some u := b6f
                      refine q_val (wk0 rfl) rfl rfl hE (v := (.pointer (some ⟨b6, b6o, none⟩))) (ex_index rfl hE rfl rfl b6r) ?_
                      intro a hE
                      refine q_val (wk0 rfl) rfl rfl hE (v := (Sl.v b6u)) (ex_load rfl hE rfl (fun w hw => run_ld1 varty34 (b6f 0 _ rfl _ _ w (hw.get 1 rfl)))) ?_
                      intro a hE
                      refine q_val (wk0 rfl) rfl rfl hE (v := (.int .i64 (x10.length : Int))) (ex_len rfl hE rfl (TblA.rlen hp 1 rfl slty34 b6h ex10)) ?_
                      intro a hE
                      refine q_val (wk0 rfl) rfl rfl hE (v := vr7) (ex_move rfl hE rfl) ?_
                      intro a hE
                      refine q_val (wk0 rfl) rfl rfl hE (v := (.int .i64 lp1_0)) (ex_move rfl hE rfl) ?_
                      intro a hE
                      obtain ⟨x11, ex11, hl1⟩ := bnd hl1
                      obtain ⟨b7u, b7, b7o, b7h, b7r, b7v, b7f⟩ := TblA.hdr hp 0 rfl slty30 ex11
                      have b7f : ∀ (j : Nat) (u : Value), ([(Sl.v b7u)] : List Value)[j]? = some u → ∀ ρ' L' w, Hp Z ρ' (TblA 34 3 vr7 usr7 (x5 : (List (List Int))) :: L') w → w.cell? ⟨b7, b7o + j, none⟩ = some u := b7f
                      refine q_val (wk0 rfl) rfl rfl hE (v := (.pointer (some ⟨b7, b7o, none⟩))) (ex_index rfl hE rfl rfl b7r) ?_
                      intro a hE
                      refine q_val (wk0 rfl) rfl rfl hE (v := (Sl.v b7u)) (ex_load rfl hE rfl (fun w hw => run_ld1 varty34 (b7f 0 _ rfl _ _ w (hw.get 0 rfl)))) ?_
                      intro a hE
                      refine q_val (wk0 rfl) rfl rfl hE (v := (.int .i64 (x11.length : Int))) (ex_len rfl hE rfl (TblA.rlen hp 0 rfl slty34 b7h ex11)) ?_
                      intro a hE
                      refine q_val (wk0 rfl) rfl rfl hE (v := (.bool (!decide ((x10.length : Int) = (x11.length : Int))))) (ex_neq rfl hE rfl rfl) ?_
                      intro a hE
                      refine q_nil fun w hp => ?_
                      have hp : Hp Z ρ (_ :: _ :: _ :: _ :: L) w := hp
                      have hE := hE.cut (E' := [(7, vr5), (9, vr7), (10, (.int .i64 lp1_0)), (65, (.int .i64 (x5.length : Int))), (66, (.int .i64 lp1_0)), (79, (.bool (!decide ((x10.length : Int) = (x11.length : Int)))))]) ⟨rfl, rfl, rfl, rfl, rfl, rfl, trivial⟩
                      refine k_if hE rfl (fun hb10 => ?_) (fun hb10 => ?_)
                      · replace hl1 := (it hb10).symm.trans hl1
                        refine k_seq ?_
                        refine k_region ?_
                        refine s_val (wk0 rfl) rfl rfl hE hp (v := (.bool false)) (ex_asn rfl hE rfl) ?_
                        intro a hE
                        refine s_nil ?_
                        refine k_ret ?_
                        refine ⟨_, (Option.some.inj hl1).symm, fun hb => ?_⟩
                        subst hb
                        obtain rfl := Option.some.inj hm
                        exact ret1 hE rfl rfl ⟨_, rfl, rfl, (((((((hp.get 3 rfl).drop).get 2 rfl).drop).get 1 rfl).drop).drop)⟩
                      · replace hl1 := (ie hb10).symm.trans hl1
                        refine k_skip ?_
                        refine k_seq ?_
                        refine k_region ?_
                        refine s_val (wk0 rfl) rfl rfl hE hp (v := vr7) (ex_move rfl hE rfl) ?_
                        intro a hE
                        refine s_val (wk0 rfl) rfl rfl hE hp (v := (.int .i64 lp1_0)) (ex_move rfl hE rfl) ?_
                        intro a hE
                        obtain ⟨x12, ex12, hl1⟩ := bnd hl1
                        obtain ⟨b8u, b8, b8o, b8h, b8r, b8v, b8f⟩ := TblA.hdr hp 0 rfl slty30 ex12
                        have b8f : ∀ (j : Nat) (u : Value), ([(Sl.v b8u)] : List Value)[j]? = some u → ∀ ρ' L' w, Hp Z ρ' (TblA 34 3 vr7 usr7 (x5 : (List (List Int))) :: L') w → w.cell? ⟨b8, b8o + j, none⟩ = some u := b8f
                        refine s_val (wk0 rfl) rfl rfl hE hp (v := (.pointer (some ⟨b8, b8o, none⟩))) (ex_index rfl hE rfl rfl b8r) ?_
                        intro a hE
                        refine s_val (wk0 rfl) rfl rfl hE hp (v := (Sl.v b8u)) (ex_load rfl hE rfl (fun w hw => run_ld1 varty34 (b8f 0 _ rfl _ _ w (hw.get 0 rfl)))) ?_
                        intro a hE
                        refine s_val (wk0 rfl) rfl rfl hE hp (v := (.int .i64 (x12.length : Int))) (ex_len rfl hE rfl (TblA.rlen hp 0 rfl slty34 b8h ex12)) ?_
                        intro a hE
                        refine s_val (wk0 rfl) rfl rfl hE hp (v := (.int .i64 0)) (ex_move rfl hE rfl) ?_
                        intro a hE
                        refine s_nil ?_
                        obtain ⟨b9, hb11, hl1⟩ := bnd hl1
                        refine k_block (fun a w => ∃ s : Unit, b9 = .brk s ∧ (Env 105 [(7, vr5), (9, vr7), (65, (.int .i64 (x5.length : Int))), (66, (.int .i64 lp1_0))] a ∧ Hp Z ρ (TblA 34 3 vr7 usr7 (x5 : (List (List Int))) :: TblA 34 3 vr5 usr5 (x4.1 : (List (List Int))) :: Pt b2 (.cells #[(.int .i64 p1.kind), (.string p1.text), (.int .i64 p1.at_), (.int .i64 p1.fin), vp1_kids] 24 (0, 0)) :: Pt b1 (.cells #[(.int .i64 p0.kind), (.string p0.text), (.int .i64 p0.at_), (.int .i64 p0.fin), vp0_kids] 24 (0, 0)) :: L) w)) ?_ ?_
                        · refine k_loop hb11 (fun s a w => Env 105 [(7, vr5), (9, vr7), (10, (.int .i64 lp1_0)), (65, (.int .i64 (x5.length : Int))), (66, (.int .i64 lp1_0)), (84, (.int .i64 (x12.length : Int))), (85, (.int .i64 s))] a ∧ Hp Z ρ (TblA 34 3 vr7 usr7 (x5 : (List (List Int))) :: TblA 34 3 vr5 usr5 (x4.1 : (List (List Int))) :: Pt b2 (.cells #[(.int .i64 p1.kind), (.string p1.text), (.int .i64 p1.at_), (.int .i64 p1.fin), vp1_kids] 24 (0, 0)) :: Pt b1 (.cells #[(.int .i64 p0.kind), (.string p0.text), (.int .i64 p0.at_), (.int .i64 p0.fin), vp0_kids] 24 (0, 0)) :: L) w) ?_ ?_
                          · exact ⟨hE.cut ⟨rfl, rfl, rfl, rfl, rfl, rfl, rfl, trivial⟩, hp⟩
                          · rintro lp2_0 st a w ⟨hE, hp⟩ hl2
                            have hE : Env 105 [(7, vr5), (9, vr7), (10, (.int .i64 lp1_0)), (65, (.int .i64 (x5.length : Int))), (66, (.int .i64 lp1_0)), (84, (.int .i64 (x12.length : Int))), (85, (.int .i64 lp2_0))] a := hE
                            have hp : Hp Z ρ (_ :: _ :: _ :: _ :: L) w := hp
                            replace hl2 : m_assessorlaw37_DistanceForm_lp2 x4 x5 lp1_0 x12 lp2_0 = some st := hl2
                            unfold m_assessorlaw37_DistanceForm_lp2 at hl2
                            refine k_seq ?_
                            refine k_region ?_
                            refine s_val (wk0 rfl) rfl rfl hE hp (v := (.bool (decide (lp2_0 < (x12.length : Int))))) (ex_lss rfl hE rfl rfl) ?_
                            intro a hE
                            refine s_nil ?_
                            refine k_seq ?_
                            refine k_if hE rfl (fun hb12 => ?_) (fun hb12 => ?_)
                            · replace hl2 := (it hb12).symm.trans hl2
                              refine k_skip ?_
                              refine k_seq ?_
                              refine k_plain ?_
                              refine k_seq ?_
                              refine k_region ?_
                              refine s_val (wk0 rfl) rfl rfl hE hp (v := (.int .i64 lp2_0)) (ex_move rfl hE rfl) ?_
                              intro a hE
                              refine s_val (wk0 rfl) rfl rfl hE hp (v := (.int .i64 lp2_0)) (ex_asn rfl hE rfl) ?_
                              intro a hE
                              refine s_nil ?_
                              refine k_seq ?_
                              refine k_quiet (by kernel_rfl) (by kernel_rfl) hp ?_
                              refine q_val (wk0 rfl) rfl rfl hE (v := vr5) (ex_move rfl hE rfl) ?_
                              intro a hE
                              refine q_val (wk0 rfl) rfl rfl hE (v := (.int .i64 lp1_0)) (ex_move rfl hE rfl) ?_
                              intro a hE
                              obtain ⟨x13, ex13, hl2⟩ := bnd hl2
                              obtain ⟨b10u, b10, b10o, b10h, b10r, b10v, b10f⟩ := TblA.hdr hp 1 rfl slty30 ex13
                              have b10f : ∀ (j : Nat) (u : Value), ([(Sl.v b10u)] : List Value)[j]? = some u → ∀ ρ' L' w, Hp Z ρ' (TblA 34 3 vr5 usr5 (x4.1 : (List (List Int))) :: L') w → w.cell? ⟨b10, b10o + j, none⟩ = some u := b10f
                              refine q_val (wk0 rfl) rfl rfl hE (v := (.pointer (some ⟨b10, b10o, none⟩))) (ex_index rfl hE rfl rfl b10r) ?_
                              intro a hE
                              refine q_val (wk0 rfl) rfl rfl hE (v := (Sl.v b10u)) (ex_load rfl hE rfl (fun w hw => run_ld1 varty34 (b10f 0 _ rfl _ _ w (hw.get 1 rfl)))) ?_
                              intro a hE
                              refine q_val (wk0 rfl) rfl rfl hE (v := (.int .i64 lp2_0)) (ex_move rfl hE rfl) ?_
                              intro a hE
                              obtain ⟨x14, ex14, hl2⟩ := bnd hl2
                              obtain ⟨b11, b11o, b11r, b11v, b11f⟩ := TblA.at hp 1 rfl slty34 b10h ex13 ex14
                              have b11f : ∀ (j : Nat) (u : Value), ([(.int .i64 x14)] : List Value)[j]? = some u → ∀ ρ' L' w, Hp Z ρ' (TblA 34 3 vr5 usr5 (x4.1 : (List (List Int))) :: L') w → w.cell? ⟨b11, b11o + j, none⟩ = some u := b11f
                              refine q_val (wk0 rfl) rfl rfl hE (v := (.pointer (some ⟨b11, b11o, none⟩))) (ex_index rfl hE rfl rfl b11r) ?_
                              intro a hE
                              refine q_val (wk0 rfl) rfl rfl hE (v := (.int .i64 x14)) (ex_load rfl hE rfl (fun w hw => run_ld1 varty3 (b11f 0 _ rfl _ _ w (hw.get 1 rfl)))) ?_
                              intro a hE
                              refine q_val (wk0 rfl) rfl rfl hE (v := vr7) (ex_move rfl hE rfl) ?_
                              intro a hE
                              refine q_val (wk0 rfl) rfl rfl hE (v := (.int .i64 lp1_0)) (ex_move rfl hE rfl) ?_
                              intro a hE
                              obtain ⟨x15, ex15, hl2⟩ := bnd hl2
                              obtain ⟨b12u, b12, b12o, b12h, b12r, b12v, b12f⟩ := TblA.hdr hp 0 rfl slty30 ex15
                              have b12f : ∀ (j : Nat) (u : Value), ([(Sl.v b12u)] : List Value)[j]? = some u → ∀ ρ' L' w, Hp Z ρ' (TblA 34 3 vr7 usr7 (x5 : (List (List Int))) :: L') w → w.cell? ⟨b12, b12o + j, none⟩ = some u := b12f
                              refine q_val (wk0 rfl) rfl rfl hE (v := (.pointer (some ⟨b12, b12o, none⟩))) (ex_index rfl hE rfl rfl b12r) ?_
                              intro a hE
                              refine q_val (wk0 rfl) rfl rfl hE (v := (Sl.v b12u)) (ex_load rfl hE rfl (fun w hw => run_ld1 varty34 (b12f 0 _ rfl _ _ w (hw.get 0 rfl)))) ?_
                              intro a hE
                              refine q_val (wk0 rfl) rfl rfl hE (v := (.int .i64 lp2_0)) (ex_move rfl hE rfl) ?_
                              intro a hE
                              obtain ⟨x16, ex16, hl2⟩ := bnd hl2
                              obtain ⟨b13, b13o, b13r, b13v, b13f⟩ := TblA.at hp 0 rfl slty34 b12h ex15 ex16
                              have b13f : ∀ (j : Nat) (u : Value), ([(.int .i64 x16)] : List Value)[j]? = some u → ∀ ρ' L' w, Hp Z ρ' (TblA 34 3 vr7 usr7 (x5 : (List (List Int))) :: L') w → w.cell? ⟨b13, b13o + j, none⟩ = some u := b13f
                              refine q_val (wk0 rfl) rfl rfl hE (v := (.pointer (some ⟨b13, b13o, none⟩))) (ex_index rfl hE rfl rfl b13r) ?_
                              intro a hE
                              refine q_val (wk0 rfl) rfl rfl hE (v := (.int .i64 x16)) (ex_load rfl hE rfl (fun w hw => run_ld1 varty3 (b13f 0 _ rfl _ _ w (hw.get 0 rfl)))) ?_
                              intro a hE
                              refine q_val (wk0 rfl) rfl rfl hE (v := (.bool (!decide (x14 = x16)))) (ex_neq rfl hE rfl rfl) ?_
                              intro a hE
                              refine q_nil fun w hp => ?_
                              have hp : Hp Z ρ (_ :: _ :: _ :: _ :: L) w := hp
                              have hE := hE.cut (E' := [(7, vr5), (9, vr7), (10, (.int .i64 lp1_0)), (65, (.int .i64 (x5.length : Int))), (66, (.int .i64 lp1_0)), (84, (.int .i64 (x12.length : Int))), (85, (.int .i64 lp2_0)), (102, (.bool (!decide (x14 = x16))))]) ⟨rfl, rfl, rfl, rfl, rfl, rfl, rfl, rfl, trivial⟩
                              refine k_if hE rfl (fun hb13 => ?_) (fun hb13 => ?_)
                              · replace hl2 := (it hb13).symm.trans hl2
                                refine k_seq ?_
                                refine k_region ?_
                                refine s_val (wk0 rfl) rfl rfl hE hp (v := (.bool false)) (ex_asn rfl hE rfl) ?_
                                intro a hE
                                refine s_nil ?_
                                refine k_ret ?_
                                refine ⟨_, (Option.some.inj hl2).symm, fun hb => ?_⟩
                                subst hb
                                refine ⟨_, (Option.some.inj hl1).symm, fun hb => ?_⟩
                                subst hb
                                obtain rfl := Option.some.inj hm
                                exact ret1 hE rfl rfl ⟨_, rfl, rfl, (((((((hp.get 3 rfl).drop).get 2 rfl).drop).get 1 rfl).drop).drop)⟩
                              · replace hl2 := (ie hb13).symm.trans hl2
                                refine k_skip ?_
                                refine k_region ?_
                                obtain ⟨x17, ex17, hl2⟩ := bnd hl2
                                refine s_val (wk0 rfl) rfl rfl hE hp (v := (.int .i64 x17)) (ex_add rfl hE rfl rfl (inK_some ex17)) ?_
                                intro a hE
                                refine s_val (wk0 rfl) rfl rfl hE hp (v := (.int .i64 x17)) (ex_move rfl hE rfl) ?_
                                intro a hE
                                refine s_nil ?_
                                exact ⟨_, (Option.some.inj hl2).symm, hE.cut ⟨rfl, rfl, rfl, rfl, rfl, rfl, rfl, trivial⟩, hp⟩
                            · replace hl2 := (ie hb12).symm.trans hl2
                              refine k_exit ?_
                              refine ⟨_, (Option.some.inj hl2).symm, fun hbb => ?_⟩
                              exact ⟨_, hbb.symm, hE.cut ⟨rfl, rfl, rfl, rfl, trivial⟩, hp⟩
                        · rintro a w ⟨b9s, rfl, hE, hp⟩
                          dsimp only at hl1
                          refine k_region ?_
                          obtain ⟨x18, ex18, hl1⟩ := bnd hl1
                          refine s_val (wk0 rfl) rfl rfl hE hp (v := (.int .i64 x18)) (ex_add rfl hE rfl rfl (inK_some ex18)) ?_
                          intro a hE
                          refine s_val (wk0 rfl) rfl rfl hE hp (v := (.int .i64 x18)) (ex_move rfl hE rfl) ?_
                          intro a hE
                          refine s_nil ?_
                          exact ⟨_, (Option.some.inj hl1).symm, hE.cut ⟨rfl, rfl, rfl, rfl, trivial⟩, hp⟩
                    · replace hl1 := (ie hb9).symm.trans hl1
                      refine k_exit ?_
                      refine ⟨_, (Option.some.inj hl1).symm, fun hbb => ?_⟩
                      exact ⟨_, hbb.symm, hE.cut trivial, hp⟩
                · rintro a w ⟨b5s, rfl, hE, hp⟩
                  dsimp only at hm
                  refine k_seq ?_
                  refine k_region ?_
                  refine s_val (wk0 rfl) rfl rfl hE hp (v := (.bool true)) (ex_asn rfl hE rfl) ?_
                  intro a hE
                  refine s_nil ?_
                  refine k_ret ?_
                  obtain rfl := Option.some.inj hm
                  exact ret1 hE rfl rfl ⟨_, rfl, rfl, (((((((hp.get 3 rfl).drop).get 2 rfl).drop).get 1 rfl).drop).drop)⟩
end Go.Proofs.Ytnnccbagbgndpaa

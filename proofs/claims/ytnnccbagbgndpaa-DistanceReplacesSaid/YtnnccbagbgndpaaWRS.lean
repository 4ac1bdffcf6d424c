/-
  The code goes as its model: assessor/assessorlaw37.replace, assessor/assessorlaw37.DistanceReplaces. (Printed by wip/sp/gen.py.)
-/
import Derived.Test.YtnnccbagbgndpaaWRM
import Derived.Test.YtnnccbagbgndpaaFct
import Derived.Test.YtnnccbagbgndpaaWS
import Derived.Test.YtnnccbagbgndpaaTyR
set_option linter.unusedVariables false
set_option linter.unusedSimpArgs false
namespace Go.Proofs.Ytnnccbagbgndpaa
open Go.RowKit

/- assessor/assessorlaw37.replace -/
set_option maxRecDepth 100000 in
set_option maxHeartbeats 4000000 in
theorem c_assessorlaw37_replace_body (self : Node → Int → Node → Option (Node × Node)) (hself : ∀ {Z : World} {ρ : PH} {L : List Atom} {w : World} (p0 : Node) (vp0_kids : Value) (hp0_kids : RoSl ρ vp0_kids p0.kids) (p1 : Int) (p2 : Node) (vp2_kids : Value) (hp2_kids : RoSl ρ vp2_kids p2.kids) (hp : Hp Z ρ (L) w) (r : (Node × Node)) (hm : self p0 p1 p2 = some r), Calls Try.prog 22 #[(.agg #[(.int .i64 p0.kind), (.string p0.text), (.int .i64 p0.at_), (.int .i64 p0.fin), vp0_kids]), (.int .i64 p1), (.agg #[(.int .i64 p2.kind), (.string p2.text), (.int .i64 p2.at_), (.int .i64 p2.fin), vp2_kids])] w (Ret fun v w' => ∃ (ρ' : PH) (vr1_kids : Value) (vr2_kids : Value), ρ.le ρ' ∧ v = .tuple #[(.agg #[(.int .i64 r.1.kind), (.string r.1.text), (.int .i64 r.1.at_), (.int .i64 r.1.fin), vr1_kids]), (.agg #[(.int .i64 r.2.kind), (.string r.2.text), (.int .i64 r.2.at_), (.int .i64 r.2.fin), vr2_kids])] ∧ RoSl ρ' vr1_kids r.1.kids ∧ RoSl ρ' vr2_kids r.2.kids ∧ Hp Z ρ' (L) w')) {Z : World} {ρ : PH} {L : List Atom} {w : World} (p0 : Node) (vp0_kids : Value) (hp0_kids : RoSl ρ vp0_kids p0.kids) (p1 : Int) (p2 : Node) (vp2_kids : Value) (hp2_kids : RoSl ρ vp2_kids p2.kids) (hp : Hp Z ρ (L) w) (r : (Node × Node)) (hm : m_assessorlaw37_replace_body self p0 p1 p2 = some r) :
    Calls Try.prog 22 #[(.agg #[(.int .i64 p0.kind), (.string p0.text), (.int .i64 p0.at_), (.int .i64 p0.fin), vp0_kids]), (.int .i64 p1), (.agg #[(.int .i64 p2.kind), (.string p2.text), (.int .i64 p2.at_), (.int .i64 p2.fin), vp2_kids])] w (Ret fun v w' => ∃ (ρ' : PH) (vr1_kids : Value) (vr2_kids : Value), ρ.le ρ' ∧ v = .tuple #[(.agg #[(.int .i64 r.1.kind), (.string r.1.text), (.int .i64 r.1.at_), (.int .i64 r.1.fin), vr1_kids]), (.agg #[(.int .i64 r.2.kind), (.string r.2.text), (.int .i64 r.2.at_), (.int .i64 r.2.fin), vr2_kids])] ∧ RoSl ρ' vr1_kids r.1.kids ∧ RoSl ρ' vr2_kids r.2.kids ∧ Hp Z ρ' (L) w') := by
  refine enter (N := 54) Try.func22 rfl rfl [(0, (.agg #[(.int .i64 p0.kind), (.string p0.text), (.int .i64 p0.at_), (.int .i64 p0.fin), vp0_kids])), (1, (.int .i64 p1)), (2, (.agg #[(.int .i64 p2.kind), (.string p2.text), (.int .i64 p2.at_), (.int .i64 p2.fin), vp2_kids]))] rfl (argsIn_mem ⟨rfl, rfl, rfl, trivial⟩) fun a hE => ?_
  unfold m_assessorlaw37_replace_body at hm
  refine k_seq ?_
  refine k_region ?_
  refine s_box (wk0 rfl) rfl rfl hE hp rfl (v := (.agg #[(.int .i64 p0.kind), (.string p0.text), (.int .i64 p0.at_), (.int .i64 p0.fin), vp0_kids])) rfl ?_
  intro a w b1 hE hp
  have hp : Hp Z ρ (Pt b1 (.cells #[(.int .i64 p0.kind), (.string p0.text), (.int .i64 p0.at_), (.int .i64 p0.fin), vp0_kids] 24 (0, 0)) :: L) w := hp
  refine s_box (wk0 rfl) rfl rfl hE hp rfl (v := (.agg #[(.int .i64 p2.kind), (.string p2.text), (.int .i64 p2.at_), (.int .i64 p2.fin), vp2_kids])) rfl ?_
  intro a w b2 hE hp
  have hp : Hp Z ρ (Pt b2 (.cells #[(.int .i64 p2.kind), (.string p2.text), (.int .i64 p2.at_), (.int .i64 p2.fin), vp2_kids] 24 (0, 0)) :: _ :: L) w := hp
  refine s_new (wk0 rfl) rfl rfl hE hp rfl [(.int .i64 0), (.string ByteArray.empty), (.int .i64 0), (.int .i64 0), (.slice none 0 0)] (fun w => by simp [Instr.alloc, go_sem] <;> rfl) ?_
  intro a w b3 hE hp
  have hp : Hp Z ρ (Pt b3 (.cells #[(.int .i64 0), (.string ByteArray.empty), (.int .i64 0), (.int .i64 0), (.slice none 0 0)] 24 (0, 0)) :: _ :: _ :: L) w := hp
  refine s_new (wk0 rfl) rfl rfl hE hp rfl [(.int .i64 0), (.string ByteArray.empty), (.int .i64 0), (.int .i64 0), (.slice none 0 0)] (fun w => by simp [Instr.alloc, go_sem] <;> rfl) ?_
  intro a w b4 hE hp
  have hp : Hp Z ρ (Pt b4 (.cells #[(.int .i64 0), (.string ByteArray.empty), (.int .i64 0), (.int .i64 0), (.slice none 0 0)] 24 (0, 0)) :: _ :: _ :: _ :: L) w := hp
  refine s_nil ?_
  refine k_seq ?_
  refine k_seq ?_
  refine k_region ?_
  refine s_val (wk0 rfl) rfl rfl hE hp (v := (.int .i64 p1)) (ex_move rfl hE rfl) ?_
  intro a hE
  refine s_val (wk0 rfl) rfl rfl hE hp (v := (.bool (decide (p1 = 0)))) (ex_eql rfl hE rfl rfl) ?_
  intro a hE
  refine s_nil ?_
  refine k_if hE rfl (fun hb1 => ?_) (fun hb1 => ?_)
  · replace hm := (it hb1).symm.trans hm
    refine k_seq ?_
    have hp := hp.drew
    refine k_heldV ([([], At0 Z ρ), ([], At1 Z ρ (Pt b2 (.cells #[(.int .i64 p2.kind), (.string p2.text), (.int .i64 p2.at_), (.int .i64 p2.fin), vp2_kids] 24 (0, 0)))), ([], At1 Z ρ (Pt b1 (.cells #[(.int .i64 p0.kind), (.string p0.text), (.int .i64 p0.at_), (.int .i64 p0.fin), vp0_kids] 24 (0, 0))))] : Facts) (fun a w => Env 54 [(6, (.pointer (some ⟨b3, 0, none⟩))), (7, (.pointer (some ⟨b4, 0, none⟩)))] a ∧ Hp Z ρ (Pt b4 (.cells #[(.int .i64 p0.kind), (.string p0.text), (.int .i64 p0.at_), (.int .i64 p0.fin), vp0_kids] 24 (0, 0)) :: Pt b3 (.cells #[(.int .i64 p2.kind), (.string p2.text), (.int .i64 p2.at_), (.int .i64 p2.fin), vp2_kids] 24 (0, 0)) :: Pt b2 (.cells #[(.int .i64 p2.kind), (.string p2.text), (.int .i64 p2.at_), (.int .i64 p2.fin), vp2_kids] 24 (0, 0)) :: Pt b1 (.cells #[(.int .i64 p0.kind), (.string p0.text), (.int .i64 p0.at_), (.int .i64 p0.fin), vp0_kids] 24 (0, 0)) :: L) w) (by kernel_rfl) ⟨fun _ => ⟨_, hp⟩, fun _ => ⟨_, (hp.get 2 rfl)⟩, fun _ => ⟨_, (hp.get 3 rfl)⟩, trivial⟩ (fun hS => ?_) ?_
    ·
      generalize w.drew = w at hS hp ⊢
      refine v_take1 0 1 (wk0 rfl) rfl rfl rfl hE (by kernel_rfl) (by kernel_rfl) (by kernel_rfl) rfl (by kernel_rfl) hS (v := (.agg #[(.int .i64 p2.kind), (.string p2.text), (.int .i64 p2.at_), (.int .i64 p2.fin), vp2_kids])) (fun _ => ex_load rfl hE rfl (fun w hw => run_ldN (cs := [(.int .i64 p2.kind), (.string p2.text), (.int .i64 p2.at_), (.int .i64 p2.fin), vp2_kids]) varty24 (Hp.cN 0 rfl 0 _ (sub_all rfl) w hw))) ?_
      intro a hE hS
      refine v_take1 1 2 (wk0 rfl) rfl rfl rfl hE (by kernel_rfl) (by kernel_rfl) (by kernel_rfl) rfl (by kernel_rfl) hS (v := (.agg #[(.int .i64 p0.kind), (.string p0.text), (.int .i64 p0.at_), (.int .i64 p0.fin), vp0_kids])) (fun _ => ex_load rfl hE rfl (fun w hw => run_ldN (cs := [(.int .i64 p0.kind), (.string p0.text), (.int .i64 p0.at_), (.int .i64 p0.fin), vp0_kids]) varty24 (Hp.cN 0 rfl 0 _ (sub_all rfl) w hw))) ?_
      intro a hE hS
      refine v_all [2] (by kernel_rfl) rfl ?_
      refine List.forall_mem_cons.2 ⟨?_, fun _ h => absurd h (by simp)⟩
      ·
        refine h_op rfl ?_
        refine s_store (wk0 rfl) rfl hE hp rfl rfl rfl 1 rfl varty24.size_ rfl (allOne_mem ⟨rfl, rfl, rfl, rfl, (RoSl.one hp2_kids), trivial⟩) [(.int .i64 p2.kind), (.string p2.text), (.int .i64 p2.at_), (.int .i64 p2.fin), vp2_kids] rfl ?_
        intro w hp
        have hp : Hp Z ρ (_ :: Pt b3 (.cells #[(.int .i64 p2.kind), (.string p2.text), (.int .i64 p2.at_), (.int .i64 p2.fin), vp2_kids] 24 (0, 0)) :: _ :: _ :: L) w := hp
        refine s_nil (and_with ⟨fun _ => ⟨_, hp⟩, fun _ => ⟨_, (hp.get 2 rfl)⟩, fun _ => ⟨_, (hp.get 3 rfl)⟩, trivial⟩ fun hS => ?_)
        refine v_all [3] (by kernel_rfl) rfl ?_
        refine List.forall_mem_cons.2 ⟨?_, fun _ h => absurd h (by simp)⟩
        ·
          refine h_op rfl ?_
          refine s_store (wk0 rfl) rfl hE hp rfl rfl rfl 0 rfl varty24.size_ rfl (allOne_mem ⟨rfl, rfl, rfl, rfl, (RoSl.one hp0_kids), trivial⟩) [(.int .i64 p0.kind), (.string p0.text), (.int .i64 p0.at_), (.int .i64 p0.fin), vp0_kids] rfl ?_
          intro w hp
          have hp : Hp Z ρ (Pt b4 (.cells #[(.int .i64 p0.kind), (.string p0.text), (.int .i64 p0.at_), (.int .i64 p0.fin), vp0_kids] 24 (0, 0)) :: _ :: _ :: _ :: L) w := hp
          refine s_nil (and_with ⟨fun _ => ⟨_, hp⟩, fun _ => ⟨_, (hp.get 2 rfl)⟩, fun _ => ⟨_, (hp.get 3 rfl)⟩, trivial⟩ fun hS => ?_)
          exact v_done (by kernel_rfl) ⟨hE.cut ⟨rfl, rfl, trivial⟩, hp⟩
    · rintro a w ⟨hE, hp⟩
      refine k_ret ?_
      obtain rfl := Option.some.inj hm
      exact retc2 hE rfl rfl rfl (run_lvN (cs := [(.int .i64 p2.kind), (.string p2.text), (.int .i64 p2.at_), (.int .i64 p2.fin), vp2_kids]) varty24 (Hp.cN 1 rfl 0 _ (sub_all rfl) _ hp)) (run_lvN (cs := [(.int .i64 p0.kind), (.string p0.text), (.int .i64 p0.at_), (.int .i64 p0.fin), vp0_kids]) varty24 (Hp.cN 0 rfl 0 _ (sub_all rfl) _ hp)) ⟨_, rfl, _, _, _, (PH.le.rf _), rfl, hp2_kids, hp0_kids, (((((((hp.get 3 rfl).drop).get 2 rfl).drop).get 1 rfl).drop).drop)⟩
  · replace hm := (ie hb1).symm.trans hm
    refine k_skip ?_
    refine k_seq ?_
    refine k_region ?_
    refine s_val (wk0 rfl) rfl rfl hE hp (v := (.int .i64 p1)) (ex_move rfl hE rfl) ?_
    intro a hE
    obtain ⟨x1, ex1, hm⟩ := bnd hm
    refine s_val (wk0 rfl) rfl rfl hE hp (v := (.int .i64 x1)) (ex_sub rfl hE rfl rfl (inK_some ex1)) ?_
    intro a hE
    refine s_val (wk0 rfl) rfl rfl hE hp (v := (.int .i64 x1)) (ex_asn rfl hE rfl) ?_
    intro a hE
    refine s_nil ?_
    refine k_seq ?_
    refine k_region ?_
    refine s_lit (wk0 rfl) rfl rfl hE hp rfl [] trivial [] 24 (fun w => by simp [Instr.buildSlice, Instr.fill, Value.cells, go_sem]) ?_
    intro a w b5 hE hp
    have hp : Hp Z ρ (Pt b5 (.cells #[] 24 (0, 0)) :: _ :: _ :: _ :: _ :: L) w := hp
    refine s_val (wk0 rfl) rfl rfl hE hp (v := (.pointer (some ⟨b1, 4, none⟩))) (ex_field rfl hE rfl (fldty24_4 _ _)) ?_
    intro a hE
    refine s_val (wk0 rfl) rfl rfl hE hp (v := vp0_kids) (ex_load rfl hE rfl (fun w hw => run_ld1 varty22 (Hp.c 4 rfl 4 rfl w hw))) ?_
    intro a hE
    have hR1 : RepAll ρ ([] : List Node) [] := rfl
    have hp := (hp.get 0 rfl).imp (rowR_of_pt (l := ([] : List Node)) (n := 0) (cs := []) rfl (by decide) rfl)
    have hp : Hp Z ρ (RowR 24 (.slice (some ⟨b5, 0, none⟩) 0 0) (([] : List Node) : (List Node)) ([]) :: _ :: _ :: _ :: _ :: L) w := hp
    obtain ⟨x2, ex2, hm⟩ := bnd hm
    refine s_appsR (wk0 rfl) rfl rfl hE hp rfl slty22 rfl rfl 0 rfl rfl hp0_kids ex2 ?_
    intro v1 ys1 a w hR3 hE hp
    have hR2 : RepAll ρ x2 (([]) ++ ys1) := (app_some ex2).2 ▸ RepAll.app hR1 hR3
    have hp : Hp Z ρ (RowR 24 v1 (x2 : (List Node)) (([]) ++ ys1) :: _ :: _ :: _ :: _ :: L) w := hp
    refine s_val (wk0 rfl) rfl rfl hE hp (v := v1) (ex_asn rfl hE rfl) ?_
    intro a hE
    refine s_nil ?_
    refine k_seq ?_
    refine k_region ?_
    refine s_val (wk0 rfl) rfl rfl hE hp (v := (.agg #[(.int .i64 p0.kind), (.string p0.text), (.int .i64 p0.at_), (.int .i64 p0.fin), vp0_kids])) (ex_load rfl hE rfl (fun w hw => run_ldN (cs := [(.int .i64 p0.kind), (.string p0.text), (.int .i64 p0.at_), (.int .i64 p0.fin), vp0_kids]) varty24 (Hp.cN 4 rfl 0 _ (sub_all rfl) w hw))) ?_
    intro a hE
    refine s_new (wk0 rfl) rfl rfl hE hp rfl [(.int .i64 0), (.string ByteArray.empty), (.int .i64 0), (.int .i64 0), (.slice none 0 0)] (fun w => by simp [Instr.alloc, go_sem] <;> rfl) ?_
    intro a w b6 hE hp
    have hp : Hp Z ρ (Pt b6 (.cells #[(.int .i64 0), (.string ByteArray.empty), (.int .i64 0), (.int .i64 0), (.slice none 0 0)] 24 (0, 0)) :: _ :: _ :: _ :: _ :: _ :: L) w := hp
    refine s_store (wk0 rfl) rfl hE hp rfl rfl rfl 0 rfl varty24.size_ rfl (allOne_mem ⟨rfl, rfl, rfl, rfl, (RoSl.one hp0_kids), trivial⟩) [(.int .i64 p0.kind), (.string p0.text), (.int .i64 p0.at_), (.int .i64 p0.fin), vp0_kids] rfl ?_
    intro w hp
    have hp : Hp Z ρ (Pt b6 (.cells #[(.int .i64 p0.kind), (.string p0.text), (.int .i64 p0.at_), (.int .i64 p0.fin), vp0_kids] 24 (0, 0)) :: _ :: _ :: _ :: _ :: _ :: L) w := hp
    refine s_nil ?_
    refine k_seq ?_
    refine k_seq ?_
    refine k_region ?_
    refine s_val (wk0 rfl) rfl rfl hE hp (v := v1) (ex_move rfl hE rfl) ?_
    intro a hE
    refine s_val (wk0 rfl) rfl rfl hE hp (v := (.int .i64 (x2.length : Int))) (ex_len rfl hE rfl (RowR.len hp 1 rfl slty22)) ?_
    intro a hE
    refine s_val (wk0 rfl) rfl rfl hE hp (v := (.int .i64 0)) (ex_move rfl hE rfl) ?_
    intro a hE
    refine s_nil ?_
    obtain ⟨b7, hb2, hm⟩ := bnd hm
    refine k_block (fun a w => ∃ (ρ1 : PH) (vc6_4 : Value) (w5 : Value) (xs5 : List Value), ρ.le ρ1 ∧ RoSl ρ1 vc6_4 b7.2.2.2.2.1 ∧ RepAll ρ1 (b7.2.2.2.2.2 : (List Node)) xs5 ∧ Env 54 [(3, (.pointer (some ⟨b1, 0, none⟩))), (6, (.pointer (some ⟨b3, 0, none⟩))), (7, (.pointer (some ⟨b4, 0, none⟩))), (8, w5), (9, (.pointer (some ⟨b6, 0, none⟩)))] a ∧ Hp Z ρ1 (Pt b6 (.cells #[(.int .i64 b7.1), (.string b7.2.1), (.int .i64 b7.2.2.1), (.int .i64 b7.2.2.2.1), vc6_4] 24 (0, 0)) :: RowR 24 w5 (b7.2.2.2.2.2 : (List Node)) xs5 :: Pt b4 (.cells #[(.int .i64 0), (.string ByteArray.empty), (.int .i64 0), (.int .i64 0), (.slice none 0 0)] 24 (0, 0)) :: Pt b3 (.cells #[(.int .i64 0), (.string ByteArray.empty), (.int .i64 0), (.int .i64 0), (.slice none 0 0)] 24 (0, 0)) :: Pt b2 (.cells #[(.int .i64 p2.kind), (.string p2.text), (.int .i64 p2.at_), (.int .i64 p2.fin), vp2_kids] 24 (0, 0)) :: Pt b1 (.cells #[(.int .i64 p0.kind), (.string p0.text), (.int .i64 p0.at_), (.int .i64 p0.fin), vp0_kids] 24 (0, 0)) :: L) w) ?_ ?_
    · refine k_loop hb2 (fun s a w => ∃ (ρ1 : PH) (vc6_4 : Value) (w5 : Value) (xs5 : List Value), ρ.le ρ1 ∧ RoSl ρ1 vc6_4 s.2.2.2.2.2.2.1 ∧ RepAll ρ1 (s.2.2.2.2.2.2.2 : (List Node)) xs5 ∧ Env 54 [(1, (.int .i64 s.1)), (3, (.pointer (some ⟨b1, 0, none⟩))), (5, (.pointer (some ⟨b2, 0, none⟩))), (6, (.pointer (some ⟨b3, 0, none⟩))), (7, (.pointer (some ⟨b4, 0, none⟩))), (8, w5), (9, (.pointer (some ⟨b6, 0, none⟩))), (24, w5), (25, (.int .i64 (x2.length : Int))), (26, (.int .i64 s.2.1))] a ∧ Hp Z ρ1 (Pt b6 (.cells #[(.int .i64 s.2.2.1), (.string s.2.2.2.1), (.int .i64 s.2.2.2.2.1), (.int .i64 s.2.2.2.2.2.1), vc6_4] 24 (0, 0)) :: RowR 24 w5 (s.2.2.2.2.2.2.2 : (List Node)) xs5 :: Pt b4 (.cells #[(.int .i64 0), (.string ByteArray.empty), (.int .i64 0), (.int .i64 0), (.slice none 0 0)] 24 (0, 0)) :: Pt b3 (.cells #[(.int .i64 0), (.string ByteArray.empty), (.int .i64 0), (.int .i64 0), (.slice none 0 0)] 24 (0, 0)) :: Pt b2 (.cells #[(.int .i64 p2.kind), (.string p2.text), (.int .i64 p2.at_), (.int .i64 p2.fin), vp2_kids] 24 (0, 0)) :: Pt b1 (.cells #[(.int .i64 p0.kind), (.string p0.text), (.int .i64 p0.at_), (.int .i64 p0.fin), vp0_kids] 24 (0, 0)) :: L) w) ?_ ?_
      · exact ⟨ρ, _, _, _, (PH.le.rf _), hp0_kids, hR2, hE.cut ⟨rfl, rfl, rfl, rfl, rfl, rfl, rfl, rfl, rfl, rfl, trivial⟩, hp⟩
      · rintro ⟨lp1_0, lp1_1, lp1_2, lp1_3, lp1_4, lp1_5, lp1_6, lp1_7⟩ st a w ⟨ρ1, vc6_4, w5, xs5, hlg1, hc6_4, hR5w, hE, hp⟩ hl1
        have hE : Env 54 [(1, (.int .i64 lp1_0)), (3, (.pointer (some ⟨b1, 0, none⟩))), (5, (.pointer (some ⟨b2, 0, none⟩))), (6, (.pointer (some ⟨b3, 0, none⟩))), (7, (.pointer (some ⟨b4, 0, none⟩))), (8, w5), (9, (.pointer (some ⟨b6, 0, none⟩))), (24, w5), (25, (.int .i64 (x2.length : Int))), (26, (.int .i64 lp1_1))] a := hE
        have hp : Hp Z ρ1 (Pt b6 (.cells #[(.int .i64 lp1_2), (.string lp1_3), (.int .i64 lp1_4), (.int .i64 lp1_5), vc6_4] 24 (0, 0)) :: RowR 24 w5 (lp1_7 : (List Node)) xs5 :: _ :: _ :: _ :: _ :: L) w := hp
        have hlg1 : ρ.le ρ1 := hlg1
        have hc6_4 : RoSl ρ1 vc6_4 lp1_6 := hc6_4
        have hR5w : RepAll ρ1 (lp1_7 : (List Node)) xs5 := hR5w
        replace hl1 : m_assessorlaw37_replace_body_lp1 p2 self x2 lp1_0 lp1_1 lp1_2 lp1_3 lp1_4 lp1_5 lp1_6 lp1_7 = some st := hl1
        unfold m_assessorlaw37_replace_body_lp1 at hl1
        refine k_seq ?_
        refine k_region ?_
        refine s_val (wk0 rfl) rfl rfl hE hp (v := (.bool (decide (lp1_1 < (x2.length : Int))))) (ex_lss rfl hE rfl rfl) ?_
        intro a hE
        refine s_nil ?_
        refine k_seq ?_
        refine k_if hE rfl (fun hb3 => ?_) (fun hb3 => ?_)
        · replace hl1 := (it hb3).symm.trans hl1
          refine k_skip ?_
          refine k_seq ?_
          refine k_plain ?_
          refine k_seq ?_
          refine k_region ?_
          refine s_val (wk0 rfl) rfl rfl hE hp (v := (.int .i64 lp1_1)) (ex_move rfl hE rfl) ?_
          intro a hE
          obtain ⟨x3, ex3, hl1⟩ := bnd hl1
          obtain ⟨b8, b8o, b8c, b8r, b8v, b8k, b8f⟩ := RowR.at hp 1 rfl hR5w slty22 ex3
          obtain ⟨vb8_kids, rfl, hb8_kids⟩ := NodeAt.opens b8k
          have b8f : ∀ (j : Nat) (u : Value), ([(.int .i64 x3.kind), (.string x3.text), (.int .i64 x3.at_), (.int .i64 x3.fin), vb8_kids] : List Value)[j]? = some u → ∀ ρ' L' w, Hp Z ρ' (RowR 24 w5 (lp1_7 : (List Node)) xs5 :: L') w → w.cell? ⟨b8, b8o + j, none⟩ = some u := b8f
          refine s_val (wk0 rfl) rfl rfl hE hp (v := (.pointer (some ⟨b8, b8o, none⟩))) (ex_index rfl hE rfl rfl b8r) ?_
          intro a hE
          refine s_val (wk0 rfl) rfl rfl hE hp (v := (.agg #[(.int .i64 x3.kind), (.string x3.text), (.int .i64 x3.at_), (.int .i64 x3.fin), vb8_kids])) (ex_load rfl hE rfl (fun w hw => run_ldN (cs := [(.int .i64 x3.kind), (.string x3.text), (.int .i64 x3.at_), (.int .i64 x3.fin), vb8_kids]) varty24 (fun j u hj => b8f j u hj _ _ w (hw.get 1 rfl)))) ?_
          intro a hE
          refine s_new (wk0 rfl) rfl rfl hE hp rfl [(.int .i64 0), (.string ByteArray.empty), (.int .i64 0), (.int .i64 0), (.slice none 0 0)] (fun w => by simp [Instr.alloc, go_sem] <;> rfl) ?_
          intro a w b9 hE hp
          have hp : Hp Z ρ1 (Pt b9 (.cells #[(.int .i64 0), (.string ByteArray.empty), (.int .i64 0), (.int .i64 0), (.slice none 0 0)] 24 (0, 0)) :: _ :: _ :: _ :: _ :: _ :: _ :: L) w := hp
          refine s_val (wk0 rfl) rfl rfl hE hp (v := (.int .i64 lp1_1)) (ex_asn rfl hE rfl) ?_
          intro a hE
          refine s_store (wk0 rfl) rfl hE hp rfl rfl rfl 0 rfl varty24.size_ rfl (allOne_mem ⟨rfl, rfl, rfl, rfl, (RoSl.one hb8_kids), trivial⟩) [(.int .i64 x3.kind), (.string x3.text), (.int .i64 x3.at_), (.int .i64 x3.fin), vb8_kids] rfl ?_
          intro w hp
          have hp : Hp Z ρ1 (Pt b9 (.cells #[(.int .i64 x3.kind), (.string x3.text), (.int .i64 x3.at_), (.int .i64 x3.fin), vb8_kids] 24 (0, 0)) :: _ :: _ :: _ :: _ :: _ :: _ :: L) w := hp
          refine s_nil ?_
          refine k_seq ?_
          refine k_region ?_
          refine s_val (wk0 rfl) rfl rfl hE hp (v := (.agg #[(.int .i64 x3.kind), (.string x3.text), (.int .i64 x3.at_), (.int .i64 x3.fin), vb8_kids])) (ex_load rfl hE rfl (fun w hw => run_ldN (cs := [(.int .i64 x3.kind), (.string x3.text), (.int .i64 x3.at_), (.int .i64 x3.fin), vb8_kids]) varty24 (Hp.cN 0 rfl 0 _ (sub_all rfl) w hw))) ?_
          intro a hE
          obtain ⟨x4, ex4, hl1⟩ := bnd hl1
          refine s_call (wk0 rfl) rfl rfl hE rfl [(.agg #[(.int .i64 x3.kind), (.string x3.text), (.int .i64 x3.at_), (.int .i64 x3.fin), vb8_kids])] ⟨rfl, trivial⟩ ent21 (c_assessorref37_Count x3 vb8_kids hb8_kids hp x4 ex4) Ret.ret ?_
          intro v a w hR hE
          obtain ⟨rfl, hp⟩ := Ret.of hR
          have hp : Hp Z ρ1 (_ :: _ :: _ :: _ :: _ :: _ :: _ :: L) w := hp
          refine s_val (wk0 rfl) rfl rfl hE hp (v := (.int .i64 x4)) (ex_asn rfl hE rfl) ?_
          intro a hE
          refine s_nil ?_
          refine k_seq ?_
          refine k_seq ?_
          refine k_region ?_
          refine s_val (wk0 rfl) rfl rfl hE hp (v := (.int .i64 lp1_0)) (ex_move rfl hE rfl) ?_
          intro a hE
          refine s_val (wk0 rfl) rfl rfl hE hp (v := (.int .i64 x4)) (ex_move rfl hE rfl) ?_
          intro a hE
          refine s_val (wk0 rfl) rfl rfl hE hp (v := (.bool (decide (lp1_0 < x4)))) (ex_lss rfl hE rfl rfl) ?_
          intro a hE
          refine s_nil ?_
          refine k_if hE rfl (fun hb4 => ?_) (fun hb4 => ?_)
          · replace hl1 := (it hb4).symm.trans hl1
            refine k_seq ?_
            refine k_region ?_
            refine s_val (wk0 rfl) rfl rfl hE hp (v := w5) (ex_move rfl hE rfl) ?_
            intro a hE
            refine s_val (wk0 rfl) rfl rfl hE hp (v := (.int .i64 lp1_1)) (ex_move rfl hE rfl) ?_
            intro a hE
            refine s_val (wk0 rfl) rfl rfl hE hp (v := (.agg #[(.int .i64 x3.kind), (.string x3.text), (.int .i64 x3.at_), (.int .i64 x3.fin), vb8_kids])) (ex_load rfl hE rfl (fun w hw => run_ldN (cs := [(.int .i64 x3.kind), (.string x3.text), (.int .i64 x3.at_), (.int .i64 x3.fin), vb8_kids]) varty24 (Hp.cN 0 rfl 0 _ (sub_all rfl) w hw))) ?_
            intro a hE
            refine s_val (wk0 rfl) rfl rfl hE hp (v := (.int .i64 lp1_0)) (ex_move rfl hE rfl) ?_
            intro a hE
            refine s_val (wk0 rfl) rfl rfl hE hp (v := (.agg #[(.int .i64 p2.kind), (.string p2.text), (.int .i64 p2.at_), (.int .i64 p2.fin), vp2_kids])) (ex_load rfl hE rfl (fun w hw => run_ldN (cs := [(.int .i64 p2.kind), (.string p2.text), (.int .i64 p2.at_), (.int .i64 p2.fin), vp2_kids]) varty24 (Hp.cN 5 rfl 0 _ (sub_all rfl) w hw))) ?_
            intro a hE
            obtain ⟨x5, ex5, hl1⟩ := bnd hl1
            refine s_call (wk0 rfl) rfl rfl hE rfl [(.agg #[(.int .i64 x3.kind), (.string x3.text), (.int .i64 x3.at_), (.int .i64 x3.fin), vb8_kids]), (.int .i64 lp1_0), (.agg #[(.int .i64 p2.kind), (.string p2.text), (.int .i64 p2.at_), (.int .i64 p2.fin), vp2_kids])] ⟨rfl, rfl, rfl, trivial⟩ ent22 (hself x3 vb8_kids hb8_kids lp1_0 p2 vp2_kids (RoSl.mono hp2_kids hlg1) hp x5 ex5) Ret.ret ?_
            intro v a w hR hE
            obtain ⟨ρ2, vr2_kids, vr3_kids, hle1, rfl, hr2_kids, hr3_kids, hp⟩ := Ret.of hR
            have hp : Hp Z ρ2 (_ :: _ :: _ :: _ :: _ :: _ :: _ :: L) w := hp
            refine s_val (wk0 rfl) rfl rfl hE hp (v := (.tuple #[(.agg #[(.int .i64 x5.1.kind), (.string x5.1.text), (.int .i64 x5.1.at_), (.int .i64 x5.1.fin), vr2_kids]), (.agg #[(.int .i64 x5.2.kind), (.string x5.2.text), (.int .i64 x5.2.at_), (.int .i64 x5.2.fin), vr3_kids])])) (ex_move rfl hE rfl) ?_
            intro a hE
            refine s_val (wk0 rfl) rfl rfl hE hp (v := (.agg #[(.int .i64 x5.1.kind), (.string x5.1.text), (.int .i64 x5.1.at_), (.int .i64 x5.1.fin), vr2_kids])) (ex_extract rfl hE rfl rfl) ?_
            intro a hE
            refine s_val (wk0 rfl) rfl rfl hE hp (v := (.agg #[(.int .i64 x5.2.kind), (.string x5.2.text), (.int .i64 x5.2.at_), (.int .i64 x5.2.fin), vr3_kids])) (ex_extract rfl hE rfl rfl) ?_
            intro a hE
            obtain ⟨x6, ex6, hl1⟩ := bnd hl1
            obtain ⟨b10, b10o, b10c, b10r, b10v, b10k, b10f⟩ := RowR.at hp 2 rfl (RepAll.mono hle1 hR5w) slty22 ex6
            obtain ⟨vb10_kids, rfl, hb10_kids⟩ := NodeAt.opens b10k
            have b10f : ∀ (j : Nat) (u : Value), ([(.int .i64 x6.kind), (.string x6.text), (.int .i64 x6.at_), (.int .i64 x6.fin), vb10_kids] : List Value)[j]? = some u → ∀ ρ' L' w, Hp Z ρ' (RowR 24 w5 (lp1_7 : (List Node)) xs5 :: L') w → w.cell? ⟨b10, b10o + j, none⟩ = some u := b10f
            refine s_val (wk0 rfl) rfl rfl hE hp (v := (.pointer (some ⟨b10, b10o, none⟩))) (ex_index rfl hE rfl rfl b10r) ?_
            intro a hE
            refine s_stelR (wk0 rfl) rfl hE hp rfl rfl rfl 2 rfl (RepAll.mono hle1 hR5w) ex6 b10v 0 (e' := x5.1) (us := [(.int .i64 x5.1.kind), (.string x5.1.text), (.int .i64 x5.1.at_), (.int .i64 x5.1.fin), vr2_kids]) (cs := [(.int .i64 x6.kind), (.string x6.text), (.int .i64 x6.at_), (.int .i64 x6.fin), vb10_kids]) varty24.size_ rfl rfl (show NodeAt ρ2 x6 [(.int .i64 x6.kind), (.string x6.text), (.int .i64 x6.at_), (.int .i64 x6.fin), vb10_kids] from NodeAt.shutv (hb10_kids)) (fun q z hz => b10f q z hz _ _ w (hp.get 2 rfl)) (show NodeAt ρ2 x5.1 [(.int .i64 x5.1.kind), (.string x5.1.text), (.int .i64 x5.1.at_), (.int .i64 x5.1.fin), vr2_kids] from NodeAt.shutv (hr2_kids)) rfl ?_
            intro w xs1 hR4 hp
            have hp : Hp Z ρ2 (_ :: _ :: RowR 24 w5 (lp1_7.set lp1_1.toNat x5.1 : (List Node)) xs1 :: _ :: _ :: _ :: _ :: L) w := hp
            refine s_store (wk0 rfl) rfl hE hp rfl rfl rfl 1 rfl varty24.size_ rfl (allOne_mem ⟨rfl, rfl, rfl, rfl, (RoSl.one hr3_kids), trivial⟩) [(.int .i64 x5.2.kind), (.string x5.2.text), (.int .i64 x5.2.at_), (.int .i64 x5.2.fin), vr3_kids] rfl ?_
            intro w hp
            have hp : Hp Z ρ2 (_ :: Pt b6 (.cells #[(.int .i64 x5.2.kind), (.string x5.2.text), (.int .i64 x5.2.at_), (.int .i64 x5.2.fin), vr3_kids] 24 (0, 0)) :: _ :: _ :: _ :: _ :: _ :: L) w := hp
            refine s_nil ?_
            have hE := hE.cut (E' := [(3, (.pointer (some ⟨b1, 0, none⟩))), (6, (.pointer (some ⟨b3, 0, none⟩))), (7, (.pointer (some ⟨b4, 0, none⟩))), (8, w5), (9, (.pointer (some ⟨b6, 0, none⟩)))]) ⟨rfl, rfl, rfl, rfl, rfl, trivial⟩
            refine k_exit ?_
            refine ⟨_, (Option.some.inj hl1).symm, fun hbb => ?_⟩
            subst hbb
            exact ⟨ρ2, _, _, _, (PH.le.tr hlg1 hle1), hr3_kids, hR4, hE.cut ⟨rfl, rfl, rfl, rfl, rfl, trivial⟩, (hp.drop)⟩
          · replace hl1 := (ie hb4).symm.trans hl1
            refine k_skip ?_
            refine k_region ?_
            refine s_val (wk0 rfl) rfl rfl hE hp (v := (.int .i64 lp1_0)) (ex_move rfl hE rfl) ?_
            intro a hE
            refine s_val (wk0 rfl) rfl rfl hE hp (v := (.int .i64 x4)) (ex_move rfl hE rfl) ?_
            intro a hE
            obtain ⟨x7, ex7, hl1⟩ := bnd hl1
            refine s_val (wk0 rfl) rfl rfl hE hp (v := (.int .i64 x7)) (ex_sub rfl hE rfl rfl (inK_some ex7)) ?_
            intro a hE
            refine s_val (wk0 rfl) rfl rfl hE hp (v := (.int .i64 x7)) (ex_asn rfl hE rfl) ?_
            intro a hE
            refine s_nil ?_
            refine k_region ?_
            obtain ⟨x8, ex8, hl1⟩ := bnd hl1
            refine s_val (wk0 rfl) rfl rfl hE hp (v := (.int .i64 x8)) (ex_add rfl hE rfl rfl (inK_some ex8)) ?_
            intro a hE
            refine s_val (wk0 rfl) rfl rfl hE hp (v := (.int .i64 x8)) (ex_move rfl hE rfl) ?_
            intro a hE
            refine s_nil ?_
            exact ⟨_, (Option.some.inj hl1).symm, ρ1, _, _, _, hlg1, hc6_4, hR5w, hE.cut ⟨rfl, rfl, rfl, rfl, rfl, rfl, rfl, rfl, rfl, rfl, trivial⟩, (hp.drop)⟩
        · replace hl1 := (ie hb3).symm.trans hl1
          refine k_exit ?_
          refine ⟨_, (Option.some.inj hl1).symm, fun hbb => ?_⟩
          subst hbb
          exact ⟨ρ1, _, _, _, hlg1, hc6_4, hR5w, hE.cut ⟨rfl, rfl, rfl, rfl, rfl, trivial⟩, hp⟩
    · rintro a w ⟨ρ1, vc6_4, w5, xs5, hlg1, hc6_4, hR5w, hE, hp⟩
      refine k_seq ?_
      refine k_region ?_
      refine s_val (wk0 rfl) rfl rfl hE hp (v := w5) (ex_move rfl hE rfl) ?_
      intro a hE
      refine s_val (wk0 rfl) rfl rfl hE hp (v := (.pointer (some ⟨b1, 4, none⟩))) (ex_field rfl hE rfl (fldty24_4 _ _)) ?_
      intro a hE
      refine s_store1 (wk0 rfl) rfl hE hp rfl rfl rfl 5 rfl varty22.size_ (RowR.cells hp 1 rfl) (RowR.one hp 1 rfl) rfl [(.int .i64 p0.kind), (.string p0.text), (.int .i64 p0.at_), (.int .i64 p0.fin), w5] rfl ?_
      intro w hp
      have hp : Hp Z ρ1 (Pt b6 (.cells #[(.int .i64 b7.1), (.string b7.2.1), (.int .i64 b7.2.2.1), (.int .i64 b7.2.2.2.1), vc6_4] 24 (0, 0)) :: RowR 24 w5 (b7.2.2.2.2.2 : (List Node)) xs5 :: _ :: _ :: _ :: Pt b1 (.cells #[(.int .i64 p0.kind), (.string p0.text), (.int .i64 p0.at_), (.int .i64 p0.fin), w5] 24 (0, 0)) :: L) w := hp
      refine s_nil ?_
      refine k_seq ?_
      have hp := hp.drew
      refine k_heldV ([([], At0 Z ρ1), ([], At1 Z ρ1 (Pt b6 (.cells #[(.int .i64 b7.1), (.string b7.2.1), (.int .i64 b7.2.2.1), (.int .i64 b7.2.2.2.1), vc6_4] 24 (0, 0)))), ([], At1 Z ρ1 (Pt b1 (.cells #[(.int .i64 p0.kind), (.string p0.text), (.int .i64 p0.at_), (.int .i64 p0.fin), w5] 24 (0, 0))))] : Facts) (fun a w => Env 54 [(6, (.pointer (some ⟨b3, 0, none⟩))), (7, (.pointer (some ⟨b4, 0, none⟩)))] a ∧ Hp Z ρ1 (Pt b6 (.cells #[(.int .i64 b7.1), (.string b7.2.1), (.int .i64 b7.2.2.1), (.int .i64 b7.2.2.2.1), vc6_4] 24 (0, 0)) :: RowR 24 w5 (b7.2.2.2.2.2 : (List Node)) xs5 :: Pt b4 (.cells #[(.int .i64 b7.1), (.string b7.2.1), (.int .i64 b7.2.2.1), (.int .i64 b7.2.2.2.1), vc6_4] 24 (0, 0)) :: Pt b3 (.cells #[(.int .i64 p0.kind), (.string p0.text), (.int .i64 p0.at_), (.int .i64 p0.fin), w5] 24 (0, 0)) :: Pt b2 (.cells #[(.int .i64 p2.kind), (.string p2.text), (.int .i64 p2.at_), (.int .i64 p2.fin), vp2_kids] 24 (0, 0)) :: Pt b1 (.cells #[(.int .i64 p0.kind), (.string p0.text), (.int .i64 p0.at_), (.int .i64 p0.fin), w5] 24 (0, 0)) :: L) w) (by kernel_rfl) ⟨fun _ => ⟨_, hp⟩, fun _ => ⟨_, (hp.get 0 rfl)⟩, fun _ => ⟨_, (hp.get 5 rfl)⟩, trivial⟩ (fun hS => ?_) ?_
      ·
        generalize w.drew = w at hS hp ⊢
        refine v_take1 0 2 (wk0 rfl) rfl rfl rfl hE (by kernel_rfl) (by kernel_rfl) (by kernel_rfl) rfl (by kernel_rfl) hS (v := (.agg #[(.int .i64 p0.kind), (.string p0.text), (.int .i64 p0.at_), (.int .i64 p0.fin), w5])) (fun _ => ex_load rfl hE rfl (fun w hw => run_ldN (cs := [(.int .i64 p0.kind), (.string p0.text), (.int .i64 p0.at_), (.int .i64 p0.fin), w5]) varty24 (Hp.cN 0 rfl 0 _ (sub_all rfl) w hw))) ?_
        intro a hE hS
        refine v_take1 1 1 (wk0 rfl) rfl rfl rfl hE (by kernel_rfl) (by kernel_rfl) (by kernel_rfl) rfl (by kernel_rfl) hS (v := (.agg #[(.int .i64 b7.1), (.string b7.2.1), (.int .i64 b7.2.2.1), (.int .i64 b7.2.2.2.1), vc6_4])) (fun _ => ex_load rfl hE rfl (fun w hw => run_ldN (cs := [(.int .i64 b7.1), (.string b7.2.1), (.int .i64 b7.2.2.1), (.int .i64 b7.2.2.2.1), vc6_4]) varty24 (Hp.cN 0 rfl 0 _ (sub_all rfl) w hw))) ?_
        intro a hE hS
        refine v_all [2] (by kernel_rfl) rfl ?_
        refine List.forall_mem_cons.2 ⟨?_, fun _ h => absurd h (by simp)⟩
        ·
          refine h_op rfl ?_
          refine s_store (wk0 rfl) rfl hE hp rfl rfl rfl 3 rfl varty24.size_ rfl (allOne_mem ⟨rfl, rfl, rfl, rfl, (RowR.one hp 1 rfl), trivial⟩) [(.int .i64 p0.kind), (.string p0.text), (.int .i64 p0.at_), (.int .i64 p0.fin), w5] rfl ?_
          intro w hp
          have hp : Hp Z ρ1 (_ :: _ :: _ :: Pt b3 (.cells #[(.int .i64 p0.kind), (.string p0.text), (.int .i64 p0.at_), (.int .i64 p0.fin), w5] 24 (0, 0)) :: _ :: _ :: L) w := hp
          refine s_nil (and_with ⟨fun _ => ⟨_, hp⟩, fun _ => ⟨_, (hp.get 0 rfl)⟩, fun _ => ⟨_, (hp.get 5 rfl)⟩, trivial⟩ fun hS => ?_)
          refine v_all [3] (by kernel_rfl) rfl ?_
          refine List.forall_mem_cons.2 ⟨?_, fun _ h => absurd h (by simp)⟩
          ·
            refine h_op rfl ?_
            refine s_store (wk0 rfl) rfl hE hp rfl rfl rfl 2 rfl varty24.size_ rfl (allOne_mem ⟨rfl, rfl, rfl, rfl, (RoSl.one hc6_4), trivial⟩) [(.int .i64 b7.1), (.string b7.2.1), (.int .i64 b7.2.2.1), (.int .i64 b7.2.2.2.1), vc6_4] rfl ?_
            intro w hp
            have hp : Hp Z ρ1 (_ :: _ :: Pt b4 (.cells #[(.int .i64 b7.1), (.string b7.2.1), (.int .i64 b7.2.2.1), (.int .i64 b7.2.2.2.1), vc6_4] 24 (0, 0)) :: _ :: _ :: _ :: L) w := hp
            refine s_nil (and_with ⟨fun _ => ⟨_, hp⟩, fun _ => ⟨_, (hp.get 0 rfl)⟩, fun _ => ⟨_, (hp.get 5 rfl)⟩, trivial⟩ fun hS => ?_)
            exact v_done (by kernel_rfl) ⟨hE.cut ⟨rfl, rfl, trivial⟩, hp⟩
      · rintro a w ⟨hE, hp⟩
        refine k_ret ?_
        obtain ⟨k1, k1a, k1d, hp⟩ := (hp.get 1 rfl).lend
        have f1 : RoSl (ρ1.un k1) w5 b7.2.2.2.2.2 := RowR.ro k1d k1a hR5w
        have hp : Hp Z (ρ1.un k1) (_ :: _ :: _ :: _ :: _ :: L) w := hp
        obtain rfl := Option.some.inj hm
        exact retc2 hE rfl rfl rfl (run_lvN (cs := [(.int .i64 p0.kind), (.string p0.text), (.int .i64 p0.at_), (.int .i64 p0.fin), w5]) varty24 (Hp.cN 2 rfl 0 _ (sub_all rfl) _ hp)) (run_lvN (cs := [(.int .i64 b7.1), (.string b7.2.1), (.int .i64 b7.2.2.1), (.int .i64 b7.2.2.2.1), vc6_4]) varty24 (Hp.cN 1 rfl 0 _ (sub_all rfl) _ hp)) ⟨_, rfl, _, _, _, (PH.le.tr hlg1 (PH.le_un _ k1)), rfl, f1, (RoSl.mono hc6_4 (PH.le_un _ k1)), (((((((((hp.get 4 rfl).drop).get 3 rfl).drop).get 2 rfl).drop).get 1 rfl).drop).drop)⟩
theorem c_assessorlaw37_replace_r : ∀ (n : Nat), ∀ {Z : World} {ρ : PH} {L : List Atom} {w : World} (p0 : Node) (vp0_kids : Value) (hp0_kids : RoSl ρ vp0_kids p0.kids) (p1 : Int) (p2 : Node) (vp2_kids : Value) (hp2_kids : RoSl ρ vp2_kids p2.kids) (hp : Hp Z ρ (L) w) (r : (Node × Node)) (hm : m_assessorlaw37_replace_r n p0 p1 p2 = some r), Calls Try.prog 22 #[(.agg #[(.int .i64 p0.kind), (.string p0.text), (.int .i64 p0.at_), (.int .i64 p0.fin), vp0_kids]), (.int .i64 p1), (.agg #[(.int .i64 p2.kind), (.string p2.text), (.int .i64 p2.at_), (.int .i64 p2.fin), vp2_kids])] w (Ret fun v w' => ∃ (ρ' : PH) (vr1_kids : Value) (vr2_kids : Value), ρ.le ρ' ∧ v = .tuple #[(.agg #[(.int .i64 r.1.kind), (.string r.1.text), (.int .i64 r.1.at_), (.int .i64 r.1.fin), vr1_kids]), (.agg #[(.int .i64 r.2.kind), (.string r.2.text), (.int .i64 r.2.at_), (.int .i64 r.2.fin), vr2_kids])] ∧ RoSl ρ' vr1_kids r.1.kids ∧ RoSl ρ' vr2_kids r.2.kids ∧ Hp Z ρ' (L) w') := by
  intro n
  induction n with
  | zero => intro Z ρ L w p0 vp0_kids hp0_kids p1 p2 vp2_kids hp2_kids hp r hm; cases hm
  | succ n ih => intro Z ρ L w p0 vp0_kids hp0_kids p1 p2 vp2_kids hp2_kids hp r hm; exact c_assessorlaw37_replace_body (m_assessorlaw37_replace_r n) ih p0 vp0_kids hp0_kids p1 p2 vp2_kids hp2_kids hp r hm
theorem c_assessorlaw37_replace {Z : World} {ρ : PH} {L : List Atom} {w : World} (p0 : Node) (vp0_kids : Value) (hp0_kids : RoSl ρ vp0_kids p0.kids) (p1 : Int) (p2 : Node) (vp2_kids : Value) (hp2_kids : RoSl ρ vp2_kids p2.kids) (hp : Hp Z ρ (L) w) (r : (Node × Node)) (hm : m_assessorlaw37_replace p0 p1 p2 = some r) :
    Calls Try.prog 22 #[(.agg #[(.int .i64 p0.kind), (.string p0.text), (.int .i64 p0.at_), (.int .i64 p0.fin), vp0_kids]), (.int .i64 p1), (.agg #[(.int .i64 p2.kind), (.string p2.text), (.int .i64 p2.at_), (.int .i64 p2.fin), vp2_kids])] w (Ret fun v w' => ∃ (ρ' : PH) (vr1_kids : Value) (vr2_kids : Value), ρ.le ρ' ∧ v = .tuple #[(.agg #[(.int .i64 r.1.kind), (.string r.1.text), (.int .i64 r.1.at_), (.int .i64 r.1.fin), vr1_kids]), (.agg #[(.int .i64 r.2.kind), (.string r.2.text), (.int .i64 r.2.at_), (.int .i64 r.2.fin), vr2_kids])] ∧ RoSl ρ' vr1_kids r.1.kids ∧ RoSl ρ' vr2_kids r.2.kids ∧ Hp Z ρ' (L) w') := c_assessorlaw37_replace_r _ p0 vp0_kids hp0_kids p1 p2 vp2_kids hp2_kids hp r hm
/- assessor/assessorlaw37.DistanceReplaces -/
set_option maxRecDepth 100000 in
set_option maxHeartbeats 4000000 in
theorem c_assessorlaw37_DistanceReplaces {Z : World} {ρ : PH} {L : List Atom} {w : World} (p0 : Node) (vp0_kids : Value) (hp0_kids : RoSl ρ vp0_kids p0.kids) (p1 : Node) (vp1_kids : Value) (hp1_kids : RoSl ρ vp1_kids p1.kids) (p2 : Node) (vp2_kids : Value) (hp2_kids : RoSl ρ vp2_kids p2.kids) (p3 : Int) (hp : Hp Z ρ (L) w) (r : Bool) (hm : m_assessorlaw37_DistanceReplaces p0 p1 p2 p3 = some r) :
    Calls Try.prog 7 #[(.agg #[(.int .i64 p0.kind), (.string p0.text), (.int .i64 p0.at_), (.int .i64 p0.fin), vp0_kids]), (.agg #[(.int .i64 p1.kind), (.string p1.text), (.int .i64 p1.at_), (.int .i64 p1.fin), vp1_kids]), (.agg #[(.int .i64 p2.kind), (.string p2.text), (.int .i64 p2.at_), (.int .i64 p2.fin), vp2_kids]), (.int .u8 p3)] w (Ret fun v w' => v = (.bool r) ∧ Hp Z ρ (L) w') := by
  refine enter (N := 132) Try.func7 rfl rfl [(0, (.agg #[(.int .i64 p0.kind), (.string p0.text), (.int .i64 p0.at_), (.int .i64 p0.fin), vp0_kids])), (1, (.agg #[(.int .i64 p1.kind), (.string p1.text), (.int .i64 p1.at_), (.int .i64 p1.fin), vp1_kids])), (2, (.agg #[(.int .i64 p2.kind), (.string p2.text), (.int .i64 p2.at_), (.int .i64 p2.fin), vp2_kids])), (3, (.int .u8 p3))] rfl (argsIn_mem ⟨rfl, rfl, rfl, rfl, trivial⟩) fun a hE => ?_
  unfold m_assessorlaw37_DistanceReplaces at hm
  refine k_seq ?_
  refine k_region ?_
  refine s_box (wk0 rfl) rfl rfl hE hp rfl (v := (.agg #[(.int .i64 p0.kind), (.string p0.text), (.int .i64 p0.at_), (.int .i64 p0.fin), vp0_kids])) rfl ?_
  intro a w b1 hE hp
  have hp : Hp Z ρ (Pt b1 (.cells #[(.int .i64 p0.kind), (.string p0.text), (.int .i64 p0.at_), (.int .i64 p0.fin), vp0_kids] 24 (0, 0)) :: L) w := hp
  refine s_box (wk0 rfl) rfl rfl hE hp rfl (v := (.agg #[(.int .i64 p1.kind), (.string p1.text), (.int .i64 p1.at_), (.int .i64 p1.fin), vp1_kids])) rfl ?_
  intro a w b2 hE hp
  have hp : Hp Z ρ (Pt b2 (.cells #[(.int .i64 p1.kind), (.string p1.text), (.int .i64 p1.at_), (.int .i64 p1.fin), vp1_kids] 24 (0, 0)) :: _ :: L) w := hp
  refine s_box (wk0 rfl) rfl rfl hE hp rfl (v := (.agg #[(.int .i64 p2.kind), (.string p2.text), (.int .i64 p2.at_), (.int .i64 p2.fin), vp2_kids])) rfl ?_
  intro a w b3 hE hp
  have hp : Hp Z ρ (Pt b3 (.cells #[(.int .i64 p2.kind), (.string p2.text), (.int .i64 p2.at_), (.int .i64 p2.fin), vp2_kids] 24 (0, 0)) :: _ :: _ :: L) w := hp
  refine s_val (wk0 rfl) rfl rfl hE hp (v := (.bool false)) (ex_asn rfl hE rfl) ?_
  intro a hE
  refine s_nil ?_
  refine k_seq ?_
  refine k_seq ?_
  refine k_region ?_
  obtain ⟨x1, ex1, hm⟩ := bnd hm
  refine s_call (wk0 rfl) rfl rfl hE rfl [] trivial ent10 (c_assessorlaw37_awake  hp x1 ex1) Ret.ret ?_
  intro v a w hR hE
  obtain ⟨rfl, hp⟩ := Ret.of hR
  have hp : Hp Z ρ (_ :: _ :: _ :: L) w := hp
  refine s_val (wk0 rfl) rfl rfl hE hp (v := (.bool (!x1))) (ex_not rfl hE rfl) ?_
  intro a hE
  refine s_nil ?_
  refine k_if hE rfl (fun hb1 => ?_) (fun hb1 => ?_)
  · replace hm := (it hb1).symm.trans hm
    refine k_seq ?_
    refine k_region ?_
    refine s_val (wk0 rfl) rfl rfl hE hp (v := (.bool false)) (ex_asn rfl hE rfl) ?_
    intro a hE
    refine s_nil ?_
    refine k_ret ?_
    obtain rfl := Option.some.inj hm
    exact ret1 hE rfl rfl ⟨_, rfl, rfl, (((((hp.get 2 rfl).drop).get 1 rfl).drop).drop)⟩
  · replace hm := (ie hb1).symm.trans hm
    refine k_skip ?_
    refine k_seq ?_
    refine k_seq ?_
    refine k_region ?_
    refine s_val (wk0 rfl) rfl rfl hE hp (v := (.agg #[(.int .i64 p0.kind), (.string p0.text), (.int .i64 p0.at_), (.int .i64 p0.fin), vp0_kids])) (ex_load rfl hE rfl (fun w hw => run_ldN (cs := [(.int .i64 p0.kind), (.string p0.text), (.int .i64 p0.at_), (.int .i64 p0.fin), vp0_kids]) varty24 (Hp.cN 2 rfl 0 _ (sub_all rfl) w hw))) ?_
    intro a hE
    refine s_val (wk0 rfl) rfl rfl hE hp (v := (.agg #[(.int .i64 p1.kind), (.string p1.text), (.int .i64 p1.at_), (.int .i64 p1.fin), vp1_kids])) (ex_load rfl hE rfl (fun w hw => run_ldN (cs := [(.int .i64 p1.kind), (.string p1.text), (.int .i64 p1.at_), (.int .i64 p1.fin), vp1_kids]) varty24 (Hp.cN 1 rfl 0 _ (sub_all rfl) w hw))) ?_
    intro a hE
    obtain ⟨x2, ex2, hm⟩ := bnd hm
    refine s_call (wk0 rfl) rfl rfl hE rfl [(.agg #[(.int .i64 p0.kind), (.string p0.text), (.int .i64 p0.at_), (.int .i64 p0.fin), vp0_kids]), (.agg #[(.int .i64 p1.kind), (.string p1.text), (.int .i64 p1.at_), (.int .i64 p1.fin), vp1_kids]), (.int .i64 15)] ⟨rfl, rfl, rfl, trivial⟩ ent11 (c_assessorlaw37_few p0 vp0_kids hp0_kids p1 vp1_kids hp1_kids 15 hp x2 ex2) Ret.ret ?_
    intro v a w hR hE
    obtain ⟨rfl, hp⟩ := Ret.of hR
    have hp : Hp Z ρ (_ :: _ :: _ :: L) w := hp
    refine s_val (wk0 rfl) rfl rfl hE hp (v := (.bool (!x2))) (ex_not rfl hE rfl) ?_
    intro a hE
    refine s_val (wk0 rfl) rfl rfl hE hp (v := (.bool (!x2))) (ex_move rfl hE rfl) ?_
    intro a hE
    obtain ⟨m1, hg1, hm⟩ := bnd hm
    refine s_cut [_, _, _, _, _] (fun a w => Env 132 [(32, (.bool m1)), (3, (.int .u8 p3)), (4, (.pointer (some ⟨b1, 0, none⟩))), (5, (.pointer (some ⟨b2, 0, none⟩))), (6, (.pointer (some ⟨b3, 0, none⟩)))] a ∧ Hp Z ρ (Pt b3 (.cells #[(.int .i64 p2.kind), (.string p2.text), (.int .i64 p2.at_), (.int .i64 p2.fin), vp2_kids] 24 (0, 0)) :: Pt b2 (.cells #[(.int .i64 p1.kind), (.string p1.text), (.int .i64 p1.at_), (.int .i64 p1.fin), vp1_kids] 24 (0, 0)) :: Pt b1 (.cells #[(.int .i64 p0.kind), (.string p0.text), (.int .i64 p0.at_), (.int .i64 p0.fin), vp0_kids] 24 (0, 0)) :: L) w) ?_ ?_
    · rcases Bool.eq_false_or_eq_true (!x2) with hb2 | hb2
      ·
        replace hg1 := (it hb2).symm.trans hg1
        refine s_skip (wk2 hE rfl rfl rfl hb2) rfl rfl hE ?_
        intro a hE
        refine s_skip (wk2 hE rfl rfl rfl hb2) rfl rfl hE ?_
        intro a hE
        refine s_skip (wk2 hE rfl rfl rfl hb2) rfl rfl hE ?_
        intro a hE
        refine s_skip (wk2 hE rfl rfl rfl hb2) rfl rfl hE ?_
        intro a hE
        refine s_val (wk0 rfl) rfl rfl hE hp (v := (.bool true)) (ex_pick1 rfl hE rfl hb2 rfl) ?_
        intro a hE
        obtain rfl := Option.some.inj hg1
        exact s_nil ⟨hE.cut ⟨rfl, rfl, rfl, rfl, rfl, trivial⟩, hp⟩
      ·
        replace hg1 := (ie hb2).symm.trans hg1
        refine s_val (wk1 hE rfl rfl rfl hb2) rfl rfl hE hp (v := (.agg #[(.int .i64 p2.kind), (.string p2.text), (.int .i64 p2.at_), (.int .i64 p2.fin), vp2_kids])) (ex_load rfl hE rfl (fun w hw => run_ldN (cs := [(.int .i64 p2.kind), (.string p2.text), (.int .i64 p2.at_), (.int .i64 p2.fin), vp2_kids]) varty24 (Hp.cN 0 rfl 0 _ (sub_all rfl) w hw))) ?_
        intro a hE
        refine s_val (wk1 hE rfl rfl rfl hb2) rfl rfl hE hp (v := (.agg #[(.int .i64 p2.kind), (.string p2.text), (.int .i64 p2.at_), (.int .i64 p2.fin), vp2_kids])) (ex_load rfl hE rfl (fun w hw => run_ldN (cs := [(.int .i64 p2.kind), (.string p2.text), (.int .i64 p2.at_), (.int .i64 p2.fin), vp2_kids]) varty24 (Hp.cN 0 rfl 0 _ (sub_all rfl) w hw))) ?_
        intro a hE
        obtain ⟨x3, ex3, hg1⟩ := bnd hg1
        refine s_call (wk1 hE rfl rfl rfl hb2) rfl rfl hE rfl [(.agg #[(.int .i64 p2.kind), (.string p2.text), (.int .i64 p2.at_), (.int .i64 p2.fin), vp2_kids]), (.agg #[(.int .i64 p2.kind), (.string p2.text), (.int .i64 p2.at_), (.int .i64 p2.fin), vp2_kids]), (.int .i64 15)] ⟨rfl, rfl, rfl, trivial⟩ ent11 (c_assessorlaw37_few p2 vp2_kids hp2_kids p2 vp2_kids hp2_kids 15 hp x3 ex3) Ret.ret ?_
        intro v a w hR hE
        obtain ⟨rfl, hp⟩ := Ret.of hR
        have hp : Hp Z ρ (_ :: _ :: _ :: L) w := hp
        refine s_val (wk1 hE rfl rfl rfl hb2) rfl rfl hE hp (v := (.bool (!x3))) (ex_not rfl hE rfl) ?_
        intro a hE
        refine s_val (wk0 rfl) rfl rfl hE hp (v := (.bool (!x3))) (ex_pick0 rfl hE rfl hb2 rfl) ?_
        intro a hE
        obtain rfl := Option.some.inj hg1
        exact s_nil ⟨hE.cut ⟨rfl, rfl, rfl, rfl, rfl, trivial⟩, hp⟩
    · rintro a w ⟨hE, hp⟩
      refine s_nil ?_
      refine k_if hE rfl (fun hb3 => ?_) (fun hb3 => ?_)
      · replace hm := (it hb3).symm.trans hm
        refine k_seq ?_
        refine k_region ?_
        refine s_val (wk0 rfl) rfl rfl hE hp (v := (.bool true)) (ex_asn rfl hE rfl) ?_
        intro a hE
        refine s_nil ?_
        refine k_ret ?_
        obtain rfl := Option.some.inj hm
        exact ret1 hE rfl rfl ⟨_, rfl, rfl, (((((hp.get 2 rfl).drop).get 1 rfl).drop).drop)⟩
      · replace hm := (ie hb3).symm.trans hm
        refine k_skip ?_
        refine k_seq ?_
        obtain ⟨x4, ex4, hm⟩ := bnd hm
        obtain ⟨x5, ex5, hm⟩ := bnd hm
        obtain ⟨x6, ex6, hm⟩ := bnd hm
        obtain ⟨x7, ex7, hm⟩ := bnd hm
        have hp := hp.drew
        refine k_heldV ([([], At0 Z ρ), ([], At1 Z ρ (Pt b3 (.cells #[(.int .i64 p2.kind), (.string p2.text), (.int .i64 p2.at_), (.int .i64 p2.fin), vp2_kids] 24 (0, 0)))), ([], At1 Z ρ (Pt b1 (.cells #[(.int .i64 p0.kind), (.string p0.text), (.int .i64 p0.at_), (.int .i64 p0.fin), vp0_kids] 24 (0, 0))))] : Facts) (fun a w => ∃ ρy1 : PH, ∃ y5 : Nat, ∃ y4 : Nat, ∃ yv1 : Value, ∃ yv2 : Value, ρ.le ρy1 ∧ RoSl ρy1 yv1 x7.2.kids ∧ RoSl ρy1 yv2 x7.1.kids ∧ Env 132 [(4, (.pointer (some ⟨b1, 0, none⟩))), (5, (.pointer (some ⟨b2, 0, none⟩))), (6, (.pointer (some ⟨b3, 0, none⟩))), (9, (.pointer (some ⟨y4, 0, none⟩))), (10, (.pointer (some ⟨y5, 0, none⟩)))] a ∧ Hp Z ρy1 (Pt y5 (.cells #[(.int .i64 x7.2.kind), (.string x7.2.text), (.int .i64 x7.2.at_), (.int .i64 x7.2.fin), yv1] 24 (0, 0)) :: Pt y4 (.cells #[(.int .i64 x7.1.kind), (.string x7.1.text), (.int .i64 x7.1.at_), (.int .i64 x7.1.fin), yv2] 24 (0, 0)) :: Pt b3 (.cells #[(.int .i64 p2.kind), (.string p2.text), (.int .i64 p2.at_), (.int .i64 p2.fin), vp2_kids] 24 (0, 0)) :: Pt b2 (.cells #[(.int .i64 p1.kind), (.string p1.text), (.int .i64 p1.at_), (.int .i64 p1.fin), vp1_kids] 24 (0, 0)) :: Pt b1 (.cells #[(.int .i64 p0.kind), (.string p0.text), (.int .i64 p0.at_), (.int .i64 p0.fin), vp0_kids] 24 (0, 0)) :: L) w) (by kernel_rfl) ⟨fun _ => ⟨_, hp⟩, fun _ => ⟨_, (hp.get 0 rfl)⟩, fun _ => ⟨_, (hp.get 2 rfl)⟩, trivial⟩ (fun hS => ?_) ?_
        ·
          generalize w.drew = w at hS hp ⊢
          refine v_take1 0 2 (wk0 rfl) rfl rfl rfl hE (by kernel_rfl) (by kernel_rfl) (by kernel_rfl) rfl (by kernel_rfl) hS (v := (.agg #[(.int .i64 p0.kind), (.string p0.text), (.int .i64 p0.at_), (.int .i64 p0.fin), vp0_kids])) (fun _ => ex_load rfl hE rfl (fun w hw => run_ldN (cs := [(.int .i64 p0.kind), (.string p0.text), (.int .i64 p0.at_), (.int .i64 p0.fin), vp0_kids]) varty24 (Hp.cN 0 rfl 0 _ (sub_all rfl) w hw))) ?_
          intro a hE hS
          refine v_take0 1 (wk0 rfl) rfl rfl rfl hE (by kernel_rfl) (by kernel_rfl) (by kernel_rfl) rfl (by kernel_rfl) hS (v := (.int .u8 p3)) (fun _ => ex_move rfl hE rfl) ?_
          intro a hE hS
          refine v_take0 2 (wk0 rfl) rfl rfl rfl hE (by kernel_rfl) (by kernel_rfl) (by kernel_rfl) rfl (by kernel_rfl) hS (v := (.int .i64 x4)) (fun _ => ex_conv rfl hE rfl (fun w _ => by rw [← inK_some ex4]; simp [convert, Conv.intToInt, go_sem])) ?_
          intro a hE hS
          refine v_take1 3 2 (wk0 rfl) rfl rfl rfl hE (by kernel_rfl) (by kernel_rfl) (by kernel_rfl) rfl (by kernel_rfl) hS (v := (.agg #[(.int .i64 p0.kind), (.string p0.text), (.int .i64 p0.at_), (.int .i64 p0.fin), vp0_kids])) (fun _ => ex_load rfl hE rfl (fun w hw => run_ldN (cs := [(.int .i64 p0.kind), (.string p0.text), (.int .i64 p0.at_), (.int .i64 p0.fin), vp0_kids]) varty24 (Hp.cN 0 rfl 0 _ (sub_all rfl) w hw))) ?_
          intro a hE hS
          refine v_take1 6 1 (wk0 rfl) rfl rfl rfl hE (by kernel_rfl) (by kernel_rfl) (by kernel_rfl) rfl (by kernel_rfl) hS (v := (.agg #[(.int .i64 p2.kind), (.string p2.text), (.int .i64 p2.at_), (.int .i64 p2.fin), vp2_kids])) (fun _ => ex_load rfl hE rfl (fun w hw => run_ldN (cs := [(.int .i64 p2.kind), (.string p2.text), (.int .i64 p2.at_), (.int .i64 p2.fin), vp2_kids]) varty24 (Hp.cN 0 rfl 0 _ (sub_all rfl) w hw))) ?_
          intro a hE hS
          refine v_all [4, 11, 12] (by kernel_rfl) rfl ?_
          refine List.forall_mem_cons.2 ⟨?_, List.forall_mem_cons.2 ⟨?_, List.forall_mem_cons.2 ⟨?_, fun _ h => absurd h (by simp)⟩⟩⟩
          ·
            refine h_op rfl ?_
            refine s_call (wk0 rfl) rfl rfl hE rfl [(.agg #[(.int .i64 p0.kind), (.string p0.text), (.int .i64 p0.at_), (.int .i64 p0.fin), vp0_kids])] ⟨rfl, trivial⟩ ent21 (c_assessorref37_Count p0 vp0_kids hp0_kids hp x5 ex5) Ret.ret ?_
            intro v a w hR hE
            obtain ⟨rfl, hp⟩ := Ret.of hR
            have hp : Hp Z ρ (_ :: _ :: _ :: L) w := hp
            refine s_nil (and_with ⟨fun _ => ⟨_, hp⟩, fun _ => ⟨_, (hp.get 0 rfl)⟩, fun _ => ⟨_, (hp.get 2 rfl)⟩, trivial⟩ fun hS => ?_)
            refine v_take0 5 (wk0 rfl) rfl rfl rfl hE (by kernel_rfl) (by kernel_rfl) (by kernel_rfl) rfl (by kernel_rfl) hS (v := (.int .i64 x6)) (fun _ => ex_rem rfl hE rfl rfl (remK_some ex6).1 (remK_some ex6).2) ?_
            intro a hE hS
            refine v_all [7, 11, 12] (by kernel_rfl) rfl ?_
            refine List.forall_mem_cons.2 ⟨?_, List.forall_mem_cons.2 ⟨?_, List.forall_mem_cons.2 ⟨?_, fun _ h => absurd h (by simp)⟩⟩⟩
            ·
              refine h_op rfl ?_
              refine s_call (wk0 rfl) rfl rfl hE rfl [(.agg #[(.int .i64 p0.kind), (.string p0.text), (.int .i64 p0.at_), (.int .i64 p0.fin), vp0_kids]), (.int .i64 x6), (.agg #[(.int .i64 p2.kind), (.string p2.text), (.int .i64 p2.at_), (.int .i64 p2.fin), vp2_kids])] ⟨rfl, rfl, rfl, trivial⟩ ent22 (c_assessorlaw37_replace p0 vp0_kids hp0_kids x6 p2 vp2_kids hp2_kids hp x7 ex7) Ret.ret ?_
              intro v a w hR hE
              obtain ⟨ρ2, vr8_kids, vr9_kids, hle2, rfl, hr8_kids, hr9_kids, hp⟩ := Ret.of hR
              have hp : Hp Z ρ2 (_ :: _ :: _ :: L) w := hp
              refine s_nil (and_with ⟨fun _ => ⟨_, (hp.less hle2)⟩, fun _ => ⟨_, ((hp.get 0 rfl).less hle2)⟩, fun _ => ⟨_, ((hp.get 2 rfl).less hle2)⟩, trivial⟩ fun hS => ?_)
              refine v_take0 8 (wk0 rfl) rfl rfl rfl hE (by kernel_rfl) (by kernel_rfl) (by kernel_rfl) rfl (by kernel_rfl) hS (v := (.tuple #[(.agg #[(.int .i64 x7.1.kind), (.string x7.1.text), (.int .i64 x7.1.at_), (.int .i64 x7.1.fin), vr8_kids]), (.agg #[(.int .i64 x7.2.kind), (.string x7.2.text), (.int .i64 x7.2.at_), (.int .i64 x7.2.fin), vr9_kids])])) (fun _ => ex_move rfl hE rfl) ?_
              intro a hE hS
              refine v_take0 9 (wk0 rfl) rfl rfl rfl hE (by kernel_rfl) (by kernel_rfl) (by kernel_rfl) rfl (by kernel_rfl) hS (v := (.agg #[(.int .i64 x7.1.kind), (.string x7.1.text), (.int .i64 x7.1.at_), (.int .i64 x7.1.fin), vr8_kids])) (fun _ => ex_extract rfl hE rfl rfl) ?_
              intro a hE hS
              refine v_take0 10 (wk0 rfl) rfl rfl rfl hE (by kernel_rfl) (by kernel_rfl) (by kernel_rfl) rfl (by kernel_rfl) hS (v := (.agg #[(.int .i64 x7.2.kind), (.string x7.2.text), (.int .i64 x7.2.at_), (.int .i64 x7.2.fin), vr9_kids])) (fun _ => ex_extract rfl hE rfl rfl) ?_
              intro a hE hS
              refine v_all [11, 12] (by kernel_rfl) rfl ?_
              refine List.forall_mem_cons.2 ⟨?_, List.forall_mem_cons.2 ⟨?_, fun _ h => absurd h (by simp)⟩⟩
              ·
                refine h_op rfl ?_
                refine s_new (wk0 rfl) rfl rfl hE hp rfl [(.int .i64 0), (.string ByteArray.empty), (.int .i64 0), (.int .i64 0), (.slice none 0 0)] (fun w => by simp [Instr.alloc, go_sem] <;> rfl) ?_
                intro a w b6 hE hp
                have hp : Hp Z ρ2 (Pt b6 (.cells #[(.int .i64 0), (.string ByteArray.empty), (.int .i64 0), (.int .i64 0), (.slice none 0 0)] 24 (0, 0)) :: _ :: _ :: _ :: L) w := hp
                refine s_nil (and_with ⟨fun _ => ⟨_, (hp.less hle2)⟩, fun _ => ⟨_, ((hp.get 1 rfl).less hle2)⟩, fun _ => ⟨_, ((hp.get 3 rfl).less hle2)⟩, trivial⟩ fun hS => ?_)
                refine v_all [12] (by kernel_rfl) rfl ?_
                refine List.forall_mem_cons.2 ⟨?_, fun _ h => absurd h (by simp)⟩
                ·
                  refine h_op rfl ?_
                  refine s_new (wk0 rfl) rfl rfl hE hp rfl [(.int .i64 0), (.string ByteArray.empty), (.int .i64 0), (.int .i64 0), (.slice none 0 0)] (fun w => by simp [Instr.alloc, go_sem] <;> rfl) ?_
                  intro a w b7 hE hp
                  have hp : Hp Z ρ2 (Pt b7 (.cells #[(.int .i64 0), (.string ByteArray.empty), (.int .i64 0), (.int .i64 0), (.slice none 0 0)] 24 (0, 0)) :: _ :: _ :: _ :: _ :: L) w := hp
                  refine s_nil (and_with ⟨fun _ => ⟨_, (hp.less hle2)⟩, fun _ => ⟨_, ((hp.get 2 rfl).less hle2)⟩, fun _ => ⟨_, ((hp.get 4 rfl).less hle2)⟩, trivial⟩ fun hS => ?_)
                  refine v_all [13] (by kernel_rfl) rfl ?_
                  refine List.forall_mem_cons.2 ⟨?_, fun _ h => absurd h (by simp)⟩
                  ·
                    refine h_op rfl ?_
                    refine s_store (wk0 rfl) rfl hE hp rfl rfl rfl 1 rfl varty24.size_ rfl (allOne_mem ⟨rfl, rfl, rfl, rfl, (RoSl.one hr8_kids), trivial⟩) [(.int .i64 x7.1.kind), (.string x7.1.text), (.int .i64 x7.1.at_), (.int .i64 x7.1.fin), vr8_kids] rfl ?_
                    intro w hp
                    have hp : Hp Z ρ2 (_ :: Pt b6 (.cells #[(.int .i64 x7.1.kind), (.string x7.1.text), (.int .i64 x7.1.at_), (.int .i64 x7.1.fin), vr8_kids] 24 (0, 0)) :: _ :: _ :: _ :: L) w := hp
                    refine s_nil (and_with ⟨fun _ => ⟨_, (hp.less hle2)⟩, fun _ => ⟨_, ((hp.get 2 rfl).less hle2)⟩, fun _ => ⟨_, ((hp.get 4 rfl).less hle2)⟩, trivial⟩ fun hS => ?_)
                    refine v_all [14] (by kernel_rfl) rfl ?_
                    refine List.forall_mem_cons.2 ⟨?_, fun _ h => absurd h (by simp)⟩
                    ·
                      refine h_op rfl ?_
                      refine s_store (wk0 rfl) rfl hE hp rfl rfl rfl 0 rfl varty24.size_ rfl (allOne_mem ⟨rfl, rfl, rfl, rfl, (RoSl.one hr9_kids), trivial⟩) [(.int .i64 x7.2.kind), (.string x7.2.text), (.int .i64 x7.2.at_), (.int .i64 x7.2.fin), vr9_kids] rfl ?_
                      intro w hp
                      have hp : Hp Z ρ2 (Pt b7 (.cells #[(.int .i64 x7.2.kind), (.string x7.2.text), (.int .i64 x7.2.at_), (.int .i64 x7.2.fin), vr9_kids] 24 (0, 0)) :: _ :: _ :: _ :: _ :: L) w := hp
                      refine s_nil (and_with ⟨fun _ => ⟨_, (hp.less hle2)⟩, fun _ => ⟨_, ((hp.get 2 rfl).less hle2)⟩, fun _ => ⟨_, ((hp.get 4 rfl).less hle2)⟩, trivial⟩ fun hS => ?_)
                      exact v_done (by kernel_rfl) ⟨ρ2, _, _, _, _, hle2, hr9_kids, hr8_kids, hE.cut ⟨rfl, rfl, rfl, rfl, rfl, trivial⟩, hp⟩
              ·
                refine h_op rfl ?_
                refine s_new (wk0 rfl) rfl rfl hE hp rfl [(.int .i64 0), (.string ByteArray.empty), (.int .i64 0), (.int .i64 0), (.slice none 0 0)] (fun w => by simp [Instr.alloc, go_sem] <;> rfl) ?_
                intro a w b8 hE hp
                have hp : Hp Z ρ2 (Pt b8 (.cells #[(.int .i64 0), (.string ByteArray.empty), (.int .i64 0), (.int .i64 0), (.slice none 0 0)] 24 (0, 0)) :: _ :: _ :: _ :: L) w := hp
                refine s_nil (and_with ⟨fun _ => ⟨_, (hp.less hle2)⟩, fun _ => ⟨_, ((hp.get 1 rfl).less hle2)⟩, fun _ => ⟨_, ((hp.get 3 rfl).less hle2)⟩, trivial⟩ fun hS => ?_)
                refine v_all [11] (by kernel_rfl) rfl ?_
                refine List.forall_mem_cons.2 ⟨?_, fun _ h => absurd h (by simp)⟩
                ·
                  refine h_op rfl ?_
                  refine s_new (wk0 rfl) rfl rfl hE hp rfl [(.int .i64 0), (.string ByteArray.empty), (.int .i64 0), (.int .i64 0), (.slice none 0 0)] (fun w => by simp [Instr.alloc, go_sem] <;> rfl) ?_
                  intro a w b9 hE hp
                  have hp : Hp Z ρ2 (Pt b9 (.cells #[(.int .i64 0), (.string ByteArray.empty), (.int .i64 0), (.int .i64 0), (.slice none 0 0)] 24 (0, 0)) :: _ :: _ :: _ :: _ :: L) w := hp
                  refine s_nil (and_with ⟨fun _ => ⟨_, (hp.less hle2)⟩, fun _ => ⟨_, ((hp.get 2 rfl).less hle2)⟩, fun _ => ⟨_, ((hp.get 4 rfl).less hle2)⟩, trivial⟩ fun hS => ?_)
                  refine v_all [13] (by kernel_rfl) rfl ?_
                  refine List.forall_mem_cons.2 ⟨?_, fun _ h => absurd h (by simp)⟩
                  ·
                    refine h_op rfl ?_
                    refine s_store (wk0 rfl) rfl hE hp rfl rfl rfl 0 rfl varty24.size_ rfl (allOne_mem ⟨rfl, rfl, rfl, rfl, (RoSl.one hr8_kids), trivial⟩) [(.int .i64 x7.1.kind), (.string x7.1.text), (.int .i64 x7.1.at_), (.int .i64 x7.1.fin), vr8_kids] rfl ?_
                    intro w hp
                    have hp : Hp Z ρ2 (Pt b9 (.cells #[(.int .i64 x7.1.kind), (.string x7.1.text), (.int .i64 x7.1.at_), (.int .i64 x7.1.fin), vr8_kids] 24 (0, 0)) :: _ :: _ :: _ :: _ :: L) w := hp
                    refine s_nil (and_with ⟨fun _ => ⟨_, (hp.less hle2)⟩, fun _ => ⟨_, ((hp.get 2 rfl).less hle2)⟩, fun _ => ⟨_, ((hp.get 4 rfl).less hle2)⟩, trivial⟩ fun hS => ?_)
                    refine v_all [14] (by kernel_rfl) rfl ?_
                    refine List.forall_mem_cons.2 ⟨?_, fun _ h => absurd h (by simp)⟩
                    ·
                      refine h_op rfl ?_
                      refine s_store (wk0 rfl) rfl hE hp rfl rfl rfl 1 rfl varty24.size_ rfl (allOne_mem ⟨rfl, rfl, rfl, rfl, (RoSl.one hr9_kids), trivial⟩) [(.int .i64 x7.2.kind), (.string x7.2.text), (.int .i64 x7.2.at_), (.int .i64 x7.2.fin), vr9_kids] rfl ?_
                      intro w hp
                      have hp : Hp Z ρ2 (_ :: Pt b8 (.cells #[(.int .i64 x7.2.kind), (.string x7.2.text), (.int .i64 x7.2.at_), (.int .i64 x7.2.fin), vr9_kids] 24 (0, 0)) :: _ :: _ :: _ :: L) w := hp
                      refine s_nil (and_with ⟨fun _ => ⟨_, (hp.less hle2)⟩, fun _ => ⟨_, ((hp.get 2 rfl).less hle2)⟩, fun _ => ⟨_, ((hp.get 4 rfl).less hle2)⟩, trivial⟩ fun hS => ?_)
                      exact v_done (by kernel_rfl) ⟨ρ2, _, _, _, _, hle2, hr9_kids, hr8_kids, hE.cut ⟨rfl, rfl, rfl, rfl, rfl, trivial⟩, (((((hp.get 4 rfl).get 4 rfl).get 4 rfl).get 3 rfl).get 4 rfl)⟩
            ·
              refine h_op rfl ?_
              refine s_new (wk0 rfl) rfl rfl hE hp rfl [(.int .i64 0), (.string ByteArray.empty), (.int .i64 0), (.int .i64 0), (.slice none 0 0)] (fun w => by simp [Instr.alloc, go_sem] <;> rfl) ?_
              intro a w b10 hE hp
              have hp : Hp Z ρ (Pt b10 (.cells #[(.int .i64 0), (.string ByteArray.empty), (.int .i64 0), (.int .i64 0), (.slice none 0 0)] 24 (0, 0)) :: _ :: _ :: _ :: L) w := hp
              refine s_nil (and_with ⟨fun _ => ⟨_, hp⟩, fun _ => ⟨_, (hp.get 1 rfl)⟩, fun _ => ⟨_, (hp.get 3 rfl)⟩, trivial⟩ fun hS => ?_)
              refine v_all [7, 12] (by kernel_rfl) rfl ?_
              refine List.forall_mem_cons.2 ⟨?_, List.forall_mem_cons.2 ⟨?_, fun _ h => absurd h (by simp)⟩⟩
              ·
                refine h_op rfl ?_
                refine s_call (wk0 rfl) rfl rfl hE rfl [(.agg #[(.int .i64 p0.kind), (.string p0.text), (.int .i64 p0.at_), (.int .i64 p0.fin), vp0_kids]), (.int .i64 x6), (.agg #[(.int .i64 p2.kind), (.string p2.text), (.int .i64 p2.at_), (.int .i64 p2.fin), vp2_kids])] ⟨rfl, rfl, rfl, trivial⟩ ent22 (c_assessorlaw37_replace p0 vp0_kids hp0_kids x6 p2 vp2_kids hp2_kids hp x7 ex7) Ret.ret ?_
                intro v a w hR hE
                obtain ⟨ρ3, vr10_kids, vr11_kids, hle3, rfl, hr10_kids, hr11_kids, hp⟩ := Ret.of hR
                have hp : Hp Z ρ3 (_ :: _ :: _ :: _ :: L) w := hp
                refine s_nil (and_with ⟨fun _ => ⟨_, (hp.less hle3)⟩, fun _ => ⟨_, ((hp.get 1 rfl).less hle3)⟩, fun _ => ⟨_, ((hp.get 3 rfl).less hle3)⟩, trivial⟩ fun hS => ?_)
                refine v_take0 8 (wk0 rfl) rfl rfl rfl hE (by kernel_rfl) (by kernel_rfl) (by kernel_rfl) rfl (by kernel_rfl) hS (v := (.tuple #[(.agg #[(.int .i64 x7.1.kind), (.string x7.1.text), (.int .i64 x7.1.at_), (.int .i64 x7.1.fin), vr10_kids]), (.agg #[(.int .i64 x7.2.kind), (.string x7.2.text), (.int .i64 x7.2.at_), (.int .i64 x7.2.fin), vr11_kids])])) (fun _ => ex_move rfl hE rfl) ?_
                intro a hE hS
                refine v_take0 9 (wk0 rfl) rfl rfl rfl hE (by kernel_rfl) (by kernel_rfl) (by kernel_rfl) rfl (by kernel_rfl) hS (v := (.agg #[(.int .i64 x7.1.kind), (.string x7.1.text), (.int .i64 x7.1.at_), (.int .i64 x7.1.fin), vr10_kids])) (fun _ => ex_extract rfl hE rfl rfl) ?_
                intro a hE hS
                refine v_take0 10 (wk0 rfl) rfl rfl rfl hE (by kernel_rfl) (by kernel_rfl) (by kernel_rfl) rfl (by kernel_rfl) hS (v := (.agg #[(.int .i64 x7.2.kind), (.string x7.2.text), (.int .i64 x7.2.at_), (.int .i64 x7.2.fin), vr11_kids])) (fun _ => ex_extract rfl hE rfl rfl) ?_
                intro a hE hS
                refine v_all [12] (by kernel_rfl) rfl ?_
                refine List.forall_mem_cons.2 ⟨?_, fun _ h => absurd h (by simp)⟩
                ·
                  refine h_op rfl ?_
                  refine s_new (wk0 rfl) rfl rfl hE hp rfl [(.int .i64 0), (.string ByteArray.empty), (.int .i64 0), (.int .i64 0), (.slice none 0 0)] (fun w => by simp [Instr.alloc, go_sem] <;> rfl) ?_
                  intro a w b11 hE hp
                  have hp : Hp Z ρ3 (Pt b11 (.cells #[(.int .i64 0), (.string ByteArray.empty), (.int .i64 0), (.int .i64 0), (.slice none 0 0)] 24 (0, 0)) :: _ :: _ :: _ :: _ :: L) w := hp
                  refine s_nil (and_with ⟨fun _ => ⟨_, (hp.less hle3)⟩, fun _ => ⟨_, ((hp.get 2 rfl).less hle3)⟩, fun _ => ⟨_, ((hp.get 4 rfl).less hle3)⟩, trivial⟩ fun hS => ?_)
                  refine v_all [13] (by kernel_rfl) rfl ?_
                  refine List.forall_mem_cons.2 ⟨?_, fun _ h => absurd h (by simp)⟩
                  ·
                    refine h_op rfl ?_
                    refine s_store (wk0 rfl) rfl hE hp rfl rfl rfl 1 rfl varty24.size_ rfl (allOne_mem ⟨rfl, rfl, rfl, rfl, (RoSl.one hr10_kids), trivial⟩) [(.int .i64 x7.1.kind), (.string x7.1.text), (.int .i64 x7.1.at_), (.int .i64 x7.1.fin), vr10_kids] rfl ?_
                    intro w hp
                    have hp : Hp Z ρ3 (_ :: Pt b10 (.cells #[(.int .i64 x7.1.kind), (.string x7.1.text), (.int .i64 x7.1.at_), (.int .i64 x7.1.fin), vr10_kids] 24 (0, 0)) :: _ :: _ :: _ :: L) w := hp
                    refine s_nil (and_with ⟨fun _ => ⟨_, (hp.less hle3)⟩, fun _ => ⟨_, ((hp.get 2 rfl).less hle3)⟩, fun _ => ⟨_, ((hp.get 4 rfl).less hle3)⟩, trivial⟩ fun hS => ?_)
                    refine v_all [14] (by kernel_rfl) rfl ?_
                    refine List.forall_mem_cons.2 ⟨?_, fun _ h => absurd h (by simp)⟩
                    ·
                      refine h_op rfl ?_
                      refine s_store (wk0 rfl) rfl hE hp rfl rfl rfl 0 rfl varty24.size_ rfl (allOne_mem ⟨rfl, rfl, rfl, rfl, (RoSl.one hr11_kids), trivial⟩) [(.int .i64 x7.2.kind), (.string x7.2.text), (.int .i64 x7.2.at_), (.int .i64 x7.2.fin), vr11_kids] rfl ?_
                      intro w hp
                      have hp : Hp Z ρ3 (Pt b11 (.cells #[(.int .i64 x7.2.kind), (.string x7.2.text), (.int .i64 x7.2.at_), (.int .i64 x7.2.fin), vr11_kids] 24 (0, 0)) :: _ :: _ :: _ :: _ :: L) w := hp
                      refine s_nil (and_with ⟨fun _ => ⟨_, (hp.less hle3)⟩, fun _ => ⟨_, ((hp.get 2 rfl).less hle3)⟩, fun _ => ⟨_, ((hp.get 4 rfl).less hle3)⟩, trivial⟩ fun hS => ?_)
                      exact v_done (by kernel_rfl) ⟨ρ3, _, _, _, _, hle3, hr11_kids, hr10_kids, hE.cut ⟨rfl, rfl, rfl, rfl, rfl, trivial⟩, hp⟩
              ·
                refine h_op rfl ?_
                refine s_new (wk0 rfl) rfl rfl hE hp rfl [(.int .i64 0), (.string ByteArray.empty), (.int .i64 0), (.int .i64 0), (.slice none 0 0)] (fun w => by simp [Instr.alloc, go_sem] <;> rfl) ?_
                intro a w b12 hE hp
                have hp : Hp Z ρ (Pt b12 (.cells #[(.int .i64 0), (.string ByteArray.empty), (.int .i64 0), (.int .i64 0), (.slice none 0 0)] 24 (0, 0)) :: _ :: _ :: _ :: _ :: L) w := hp
                refine s_nil (and_with ⟨fun _ => ⟨_, hp⟩, fun _ => ⟨_, (hp.get 2 rfl)⟩, fun _ => ⟨_, (hp.get 4 rfl)⟩, trivial⟩ fun hS => ?_)
                refine v_all [7] (by kernel_rfl) rfl ?_
                refine List.forall_mem_cons.2 ⟨?_, fun _ h => absurd h (by simp)⟩
                ·
                  refine h_op rfl ?_
                  refine s_call (wk0 rfl) rfl rfl hE rfl [(.agg #[(.int .i64 p0.kind), (.string p0.text), (.int .i64 p0.at_), (.int .i64 p0.fin), vp0_kids]), (.int .i64 x6), (.agg #[(.int .i64 p2.kind), (.string p2.text), (.int .i64 p2.at_), (.int .i64 p2.fin), vp2_kids])] ⟨rfl, rfl, rfl, trivial⟩ ent22 (c_assessorlaw37_replace p0 vp0_kids hp0_kids x6 p2 vp2_kids hp2_kids hp x7 ex7) Ret.ret ?_
                  intro v a w hR hE
                  obtain ⟨ρ4, vr12_kids, vr13_kids, hle4, rfl, hr12_kids, hr13_kids, hp⟩ := Ret.of hR
                  have hp : Hp Z ρ4 (_ :: _ :: _ :: _ :: _ :: L) w := hp
                  refine s_nil (and_with ⟨fun _ => ⟨_, (hp.less hle4)⟩, fun _ => ⟨_, ((hp.get 2 rfl).less hle4)⟩, fun _ => ⟨_, ((hp.get 4 rfl).less hle4)⟩, trivial⟩ fun hS => ?_)
                  refine v_take0 8 (wk0 rfl) rfl rfl rfl hE (by kernel_rfl) (by kernel_rfl) (by kernel_rfl) rfl (by kernel_rfl) hS (v := (.tuple #[(.agg #[(.int .i64 x7.1.kind), (.string x7.1.text), (.int .i64 x7.1.at_), (.int .i64 x7.1.fin), vr12_kids]), (.agg #[(.int .i64 x7.2.kind), (.string x7.2.text), (.int .i64 x7.2.at_), (.int .i64 x7.2.fin), vr13_kids])])) (fun _ => ex_move rfl hE rfl) ?_
                  intro a hE hS
                  refine v_take0 9 (wk0 rfl) rfl rfl rfl hE (by kernel_rfl) (by kernel_rfl) (by kernel_rfl) rfl (by kernel_rfl) hS (v := (.agg #[(.int .i64 x7.1.kind), (.string x7.1.text), (.int .i64 x7.1.at_), (.int .i64 x7.1.fin), vr12_kids])) (fun _ => ex_extract rfl hE rfl rfl) ?_
                  intro a hE hS
                  refine v_take0 10 (wk0 rfl) rfl rfl rfl hE (by kernel_rfl) (by kernel_rfl) (by kernel_rfl) rfl (by kernel_rfl) hS (v := (.agg #[(.int .i64 x7.2.kind), (.string x7.2.text), (.int .i64 x7.2.at_), (.int .i64 x7.2.fin), vr13_kids])) (fun _ => ex_extract rfl hE rfl rfl) ?_
                  intro a hE hS
                  refine v_all [13] (by kernel_rfl) rfl ?_
                  refine List.forall_mem_cons.2 ⟨?_, fun _ h => absurd h (by simp)⟩
                  ·
                    refine h_op rfl ?_
                    refine s_store (wk0 rfl) rfl hE hp rfl rfl rfl 1 rfl varty24.size_ rfl (allOne_mem ⟨rfl, rfl, rfl, rfl, (RoSl.one hr12_kids), trivial⟩) [(.int .i64 x7.1.kind), (.string x7.1.text), (.int .i64 x7.1.at_), (.int .i64 x7.1.fin), vr12_kids] rfl ?_
                    intro w hp
                    have hp : Hp Z ρ4 (_ :: Pt b10 (.cells #[(.int .i64 x7.1.kind), (.string x7.1.text), (.int .i64 x7.1.at_), (.int .i64 x7.1.fin), vr12_kids] 24 (0, 0)) :: _ :: _ :: _ :: L) w := hp
                    refine s_nil (and_with ⟨fun _ => ⟨_, (hp.less hle4)⟩, fun _ => ⟨_, ((hp.get 2 rfl).less hle4)⟩, fun _ => ⟨_, ((hp.get 4 rfl).less hle4)⟩, trivial⟩ fun hS => ?_)
                    refine v_all [14] (by kernel_rfl) rfl ?_
                    refine List.forall_mem_cons.2 ⟨?_, fun _ h => absurd h (by simp)⟩
                    ·
                      refine h_op rfl ?_
                      refine s_store (wk0 rfl) rfl hE hp rfl rfl rfl 0 rfl varty24.size_ rfl (allOne_mem ⟨rfl, rfl, rfl, rfl, (RoSl.one hr13_kids), trivial⟩) [(.int .i64 x7.2.kind), (.string x7.2.text), (.int .i64 x7.2.at_), (.int .i64 x7.2.fin), vr13_kids] rfl ?_
                      intro w hp
                      have hp : Hp Z ρ4 (Pt b12 (.cells #[(.int .i64 x7.2.kind), (.string x7.2.text), (.int .i64 x7.2.at_), (.int .i64 x7.2.fin), vr13_kids] 24 (0, 0)) :: _ :: _ :: _ :: _ :: L) w := hp
                      refine s_nil (and_with ⟨fun _ => ⟨_, (hp.less hle4)⟩, fun _ => ⟨_, ((hp.get 2 rfl).less hle4)⟩, fun _ => ⟨_, ((hp.get 4 rfl).less hle4)⟩, trivial⟩ fun hS => ?_)
                      exact v_done (by kernel_rfl) ⟨ρ4, _, _, _, _, hle4, hr13_kids, hr12_kids, hE.cut ⟨rfl, rfl, rfl, rfl, rfl, trivial⟩, hp⟩
            ·
              refine h_op rfl ?_
              refine s_new (wk0 rfl) rfl rfl hE hp rfl [(.int .i64 0), (.string ByteArray.empty), (.int .i64 0), (.int .i64 0), (.slice none 0 0)] (fun w => by simp [Instr.alloc, go_sem] <;> rfl) ?_
              intro a w b13 hE hp
              have hp : Hp Z ρ (Pt b13 (.cells #[(.int .i64 0), (.string ByteArray.empty), (.int .i64 0), (.int .i64 0), (.slice none 0 0)] 24 (0, 0)) :: _ :: _ :: _ :: L) w := hp
              refine s_nil (and_with ⟨fun _ => ⟨_, hp⟩, fun _ => ⟨_, (hp.get 1 rfl)⟩, fun _ => ⟨_, (hp.get 3 rfl)⟩, trivial⟩ fun hS => ?_)
              refine v_all [7, 11] (by kernel_rfl) rfl ?_
              refine List.forall_mem_cons.2 ⟨?_, List.forall_mem_cons.2 ⟨?_, fun _ h => absurd h (by simp)⟩⟩
              ·
                refine h_op rfl ?_
                refine s_call (wk0 rfl) rfl rfl hE rfl [(.agg #[(.int .i64 p0.kind), (.string p0.text), (.int .i64 p0.at_), (.int .i64 p0.fin), vp0_kids]), (.int .i64 x6), (.agg #[(.int .i64 p2.kind), (.string p2.text), (.int .i64 p2.at_), (.int .i64 p2.fin), vp2_kids])] ⟨rfl, rfl, rfl, trivial⟩ ent22 (c_assessorlaw37_replace p0 vp0_kids hp0_kids x6 p2 vp2_kids hp2_kids hp x7 ex7) Ret.ret ?_
                intro v a w hR hE
                obtain ⟨ρ5, vr14_kids, vr15_kids, hle5, rfl, hr14_kids, hr15_kids, hp⟩ := Ret.of hR
                have hp : Hp Z ρ5 (_ :: _ :: _ :: _ :: L) w := hp
                refine s_nil (and_with ⟨fun _ => ⟨_, (hp.less hle5)⟩, fun _ => ⟨_, ((hp.get 1 rfl).less hle5)⟩, fun _ => ⟨_, ((hp.get 3 rfl).less hle5)⟩, trivial⟩ fun hS => ?_)
                refine v_take0 8 (wk0 rfl) rfl rfl rfl hE (by kernel_rfl) (by kernel_rfl) (by kernel_rfl) rfl (by kernel_rfl) hS (v := (.tuple #[(.agg #[(.int .i64 x7.1.kind), (.string x7.1.text), (.int .i64 x7.1.at_), (.int .i64 x7.1.fin), vr14_kids]), (.agg #[(.int .i64 x7.2.kind), (.string x7.2.text), (.int .i64 x7.2.at_), (.int .i64 x7.2.fin), vr15_kids])])) (fun _ => ex_move rfl hE rfl) ?_
                intro a hE hS
                refine v_take0 9 (wk0 rfl) rfl rfl rfl hE (by kernel_rfl) (by kernel_rfl) (by kernel_rfl) rfl (by kernel_rfl) hS (v := (.agg #[(.int .i64 x7.1.kind), (.string x7.1.text), (.int .i64 x7.1.at_), (.int .i64 x7.1.fin), vr14_kids])) (fun _ => ex_extract rfl hE rfl rfl) ?_
                intro a hE hS
                refine v_take0 10 (wk0 rfl) rfl rfl rfl hE (by kernel_rfl) (by kernel_rfl) (by kernel_rfl) rfl (by kernel_rfl) hS (v := (.agg #[(.int .i64 x7.2.kind), (.string x7.2.text), (.int .i64 x7.2.at_), (.int .i64 x7.2.fin), vr15_kids])) (fun _ => ex_extract rfl hE rfl rfl) ?_
                intro a hE hS
                refine v_all [11] (by kernel_rfl) rfl ?_
                refine List.forall_mem_cons.2 ⟨?_, fun _ h => absurd h (by simp)⟩
                ·
                  refine h_op rfl ?_
                  refine s_new (wk0 rfl) rfl rfl hE hp rfl [(.int .i64 0), (.string ByteArray.empty), (.int .i64 0), (.int .i64 0), (.slice none 0 0)] (fun w => by simp [Instr.alloc, go_sem] <;> rfl) ?_
                  intro a w b14 hE hp
                  have hp : Hp Z ρ5 (Pt b14 (.cells #[(.int .i64 0), (.string ByteArray.empty), (.int .i64 0), (.int .i64 0), (.slice none 0 0)] 24 (0, 0)) :: _ :: _ :: _ :: _ :: L) w := hp
                  refine s_nil (and_with ⟨fun _ => ⟨_, (hp.less hle5)⟩, fun _ => ⟨_, ((hp.get 2 rfl).less hle5)⟩, fun _ => ⟨_, ((hp.get 4 rfl).less hle5)⟩, trivial⟩ fun hS => ?_)
                  refine v_all [13] (by kernel_rfl) rfl ?_
                  refine List.forall_mem_cons.2 ⟨?_, fun _ h => absurd h (by simp)⟩
                  ·
                    refine h_op rfl ?_
                    refine s_store (wk0 rfl) rfl hE hp rfl rfl rfl 0 rfl varty24.size_ rfl (allOne_mem ⟨rfl, rfl, rfl, rfl, (RoSl.one hr14_kids), trivial⟩) [(.int .i64 x7.1.kind), (.string x7.1.text), (.int .i64 x7.1.at_), (.int .i64 x7.1.fin), vr14_kids] rfl ?_
                    intro w hp
                    have hp : Hp Z ρ5 (Pt b14 (.cells #[(.int .i64 x7.1.kind), (.string x7.1.text), (.int .i64 x7.1.at_), (.int .i64 x7.1.fin), vr14_kids] 24 (0, 0)) :: _ :: _ :: _ :: _ :: L) w := hp
                    refine s_nil (and_with ⟨fun _ => ⟨_, (hp.less hle5)⟩, fun _ => ⟨_, ((hp.get 2 rfl).less hle5)⟩, fun _ => ⟨_, ((hp.get 4 rfl).less hle5)⟩, trivial⟩ fun hS => ?_)
                    refine v_all [14] (by kernel_rfl) rfl ?_
                    refine List.forall_mem_cons.2 ⟨?_, fun _ h => absurd h (by simp)⟩
                    ·
                      refine h_op rfl ?_
                      refine s_store (wk0 rfl) rfl hE hp rfl rfl rfl 1 rfl varty24.size_ rfl (allOne_mem ⟨rfl, rfl, rfl, rfl, (RoSl.one hr15_kids), trivial⟩) [(.int .i64 x7.2.kind), (.string x7.2.text), (.int .i64 x7.2.at_), (.int .i64 x7.2.fin), vr15_kids] rfl ?_
                      intro w hp
                      have hp : Hp Z ρ5 (_ :: Pt b13 (.cells #[(.int .i64 x7.2.kind), (.string x7.2.text), (.int .i64 x7.2.at_), (.int .i64 x7.2.fin), vr15_kids] 24 (0, 0)) :: _ :: _ :: _ :: L) w := hp
                      refine s_nil (and_with ⟨fun _ => ⟨_, (hp.less hle5)⟩, fun _ => ⟨_, ((hp.get 2 rfl).less hle5)⟩, fun _ => ⟨_, ((hp.get 4 rfl).less hle5)⟩, trivial⟩ fun hS => ?_)
                      exact v_done (by kernel_rfl) ⟨ρ5, _, _, _, _, hle5, hr15_kids, hr14_kids, hE.cut ⟨rfl, rfl, rfl, rfl, rfl, trivial⟩, (((((hp.get 4 rfl).get 4 rfl).get 4 rfl).get 3 rfl).get 4 rfl)⟩
              ·
                refine h_op rfl ?_
                refine s_new (wk0 rfl) rfl rfl hE hp rfl [(.int .i64 0), (.string ByteArray.empty), (.int .i64 0), (.int .i64 0), (.slice none 0 0)] (fun w => by simp [Instr.alloc, go_sem] <;> rfl) ?_
                intro a w b15 hE hp
                have hp : Hp Z ρ (Pt b15 (.cells #[(.int .i64 0), (.string ByteArray.empty), (.int .i64 0), (.int .i64 0), (.slice none 0 0)] 24 (0, 0)) :: _ :: _ :: _ :: _ :: L) w := hp
                refine s_nil (and_with ⟨fun _ => ⟨_, hp⟩, fun _ => ⟨_, (hp.get 2 rfl)⟩, fun _ => ⟨_, (hp.get 4 rfl)⟩, trivial⟩ fun hS => ?_)
                refine v_all [7] (by kernel_rfl) rfl ?_
                refine List.forall_mem_cons.2 ⟨?_, fun _ h => absurd h (by simp)⟩
                ·
                  refine h_op rfl ?_
                  refine s_call (wk0 rfl) rfl rfl hE rfl [(.agg #[(.int .i64 p0.kind), (.string p0.text), (.int .i64 p0.at_), (.int .i64 p0.fin), vp0_kids]), (.int .i64 x6), (.agg #[(.int .i64 p2.kind), (.string p2.text), (.int .i64 p2.at_), (.int .i64 p2.fin), vp2_kids])] ⟨rfl, rfl, rfl, trivial⟩ ent22 (c_assessorlaw37_replace p0 vp0_kids hp0_kids x6 p2 vp2_kids hp2_kids hp x7 ex7) Ret.ret ?_
                  intro v a w hR hE
                  obtain ⟨ρ6, vr16_kids, vr17_kids, hle6, rfl, hr16_kids, hr17_kids, hp⟩ := Ret.of hR
                  have hp : Hp Z ρ6 (_ :: _ :: _ :: _ :: _ :: L) w := hp
                  refine s_nil (and_with ⟨fun _ => ⟨_, (hp.less hle6)⟩, fun _ => ⟨_, ((hp.get 2 rfl).less hle6)⟩, fun _ => ⟨_, ((hp.get 4 rfl).less hle6)⟩, trivial⟩ fun hS => ?_)
                  refine v_take0 8 (wk0 rfl) rfl rfl rfl hE (by kernel_rfl) (by kernel_rfl) (by kernel_rfl) rfl (by kernel_rfl) hS (v := (.tuple #[(.agg #[(.int .i64 x7.1.kind), (.string x7.1.text), (.int .i64 x7.1.at_), (.int .i64 x7.1.fin), vr16_kids]), (.agg #[(.int .i64 x7.2.kind), (.string x7.2.text), (.int .i64 x7.2.at_), (.int .i64 x7.2.fin), vr17_kids])])) (fun _ => ex_move rfl hE rfl) ?_
                  intro a hE hS
                  refine v_take0 9 (wk0 rfl) rfl rfl rfl hE (by kernel_rfl) (by kernel_rfl) (by kernel_rfl) rfl (by kernel_rfl) hS (v := (.agg #[(.int .i64 x7.1.kind), (.string x7.1.text), (.int .i64 x7.1.at_), (.int .i64 x7.1.fin), vr16_kids])) (fun _ => ex_extract rfl hE rfl rfl) ?_
                  intro a hE hS
                  refine v_take0 10 (wk0 rfl) rfl rfl rfl hE (by kernel_rfl) (by kernel_rfl) (by kernel_rfl) rfl (by kernel_rfl) hS (v := (.agg #[(.int .i64 x7.2.kind), (.string x7.2.text), (.int .i64 x7.2.at_), (.int .i64 x7.2.fin), vr17_kids])) (fun _ => ex_extract rfl hE rfl rfl) ?_
                  intro a hE hS
                  refine v_all [13] (by kernel_rfl) rfl ?_
                  refine List.forall_mem_cons.2 ⟨?_, fun _ h => absurd h (by simp)⟩
                  ·
                    refine h_op rfl ?_
                    refine s_store (wk0 rfl) rfl hE hp rfl rfl rfl 0 rfl varty24.size_ rfl (allOne_mem ⟨rfl, rfl, rfl, rfl, (RoSl.one hr16_kids), trivial⟩) [(.int .i64 x7.1.kind), (.string x7.1.text), (.int .i64 x7.1.at_), (.int .i64 x7.1.fin), vr16_kids] rfl ?_
                    intro w hp
                    have hp : Hp Z ρ6 (Pt b15 (.cells #[(.int .i64 x7.1.kind), (.string x7.1.text), (.int .i64 x7.1.at_), (.int .i64 x7.1.fin), vr16_kids] 24 (0, 0)) :: _ :: _ :: _ :: _ :: L) w := hp
                    refine s_nil (and_with ⟨fun _ => ⟨_, (hp.less hle6)⟩, fun _ => ⟨_, ((hp.get 2 rfl).less hle6)⟩, fun _ => ⟨_, ((hp.get 4 rfl).less hle6)⟩, trivial⟩ fun hS => ?_)
                    refine v_all [14] (by kernel_rfl) rfl ?_
                    refine List.forall_mem_cons.2 ⟨?_, fun _ h => absurd h (by simp)⟩
                    ·
                      refine h_op rfl ?_
                      refine s_store (wk0 rfl) rfl hE hp rfl rfl rfl 1 rfl varty24.size_ rfl (allOne_mem ⟨rfl, rfl, rfl, rfl, (RoSl.one hr17_kids), trivial⟩) [(.int .i64 x7.2.kind), (.string x7.2.text), (.int .i64 x7.2.at_), (.int .i64 x7.2.fin), vr17_kids] rfl ?_
                      intro w hp
                      have hp : Hp Z ρ6 (_ :: Pt b13 (.cells #[(.int .i64 x7.2.kind), (.string x7.2.text), (.int .i64 x7.2.at_), (.int .i64 x7.2.fin), vr17_kids] 24 (0, 0)) :: _ :: _ :: _ :: L) w := hp
                      refine s_nil (and_with ⟨fun _ => ⟨_, (hp.less hle6)⟩, fun _ => ⟨_, ((hp.get 2 rfl).less hle6)⟩, fun _ => ⟨_, ((hp.get 4 rfl).less hle6)⟩, trivial⟩ fun hS => ?_)
                      exact v_done (by kernel_rfl) ⟨ρ6, _, _, _, _, hle6, hr17_kids, hr16_kids, hE.cut ⟨rfl, rfl, rfl, rfl, rfl, trivial⟩, (((((hp.get 4 rfl).get 4 rfl).get 4 rfl).get 3 rfl).get 4 rfl)⟩
          ·
            refine h_op rfl ?_
            refine s_new (wk0 rfl) rfl rfl hE hp rfl [(.int .i64 0), (.string ByteArray.empty), (.int .i64 0), (.int .i64 0), (.slice none 0 0)] (fun w => by simp [Instr.alloc, go_sem] <;> rfl) ?_
            intro a w b16 hE hp
            have hp : Hp Z ρ (Pt b16 (.cells #[(.int .i64 0), (.string ByteArray.empty), (.int .i64 0), (.int .i64 0), (.slice none 0 0)] 24 (0, 0)) :: _ :: _ :: _ :: L) w := hp
            refine s_nil (and_with ⟨fun _ => ⟨_, hp⟩, fun _ => ⟨_, (hp.get 1 rfl)⟩, fun _ => ⟨_, (hp.get 3 rfl)⟩, trivial⟩ fun hS => ?_)
            refine v_all [4, 12] (by kernel_rfl) rfl ?_
            refine List.forall_mem_cons.2 ⟨?_, List.forall_mem_cons.2 ⟨?_, fun _ h => absurd h (by simp)⟩⟩
            ·
              refine h_op rfl ?_
              refine s_call (wk0 rfl) rfl rfl hE rfl [(.agg #[(.int .i64 p0.kind), (.string p0.text), (.int .i64 p0.at_), (.int .i64 p0.fin), vp0_kids])] ⟨rfl, trivial⟩ ent21 (c_assessorref37_Count p0 vp0_kids hp0_kids hp x5 ex5) Ret.ret ?_
              intro v a w hR hE
              obtain ⟨rfl, hp⟩ := Ret.of hR
              have hp : Hp Z ρ (_ :: _ :: _ :: _ :: L) w := hp
              refine s_nil (and_with ⟨fun _ => ⟨_, hp⟩, fun _ => ⟨_, (hp.get 1 rfl)⟩, fun _ => ⟨_, (hp.get 3 rfl)⟩, trivial⟩ fun hS => ?_)
              refine v_take0 5 (wk0 rfl) rfl rfl rfl hE (by kernel_rfl) (by kernel_rfl) (by kernel_rfl) rfl (by kernel_rfl) hS (v := (.int .i64 x6)) (fun _ => ex_rem rfl hE rfl rfl (remK_some ex6).1 (remK_some ex6).2) ?_
              intro a hE hS
              refine v_all [7, 12] (by kernel_rfl) rfl ?_
              refine List.forall_mem_cons.2 ⟨?_, List.forall_mem_cons.2 ⟨?_, fun _ h => absurd h (by simp)⟩⟩
              ·
                refine h_op rfl ?_
                refine s_call (wk0 rfl) rfl rfl hE rfl [(.agg #[(.int .i64 p0.kind), (.string p0.text), (.int .i64 p0.at_), (.int .i64 p0.fin), vp0_kids]), (.int .i64 x6), (.agg #[(.int .i64 p2.kind), (.string p2.text), (.int .i64 p2.at_), (.int .i64 p2.fin), vp2_kids])] ⟨rfl, rfl, rfl, trivial⟩ ent22 (c_assessorlaw37_replace p0 vp0_kids hp0_kids x6 p2 vp2_kids hp2_kids hp x7 ex7) Ret.ret ?_
                intro v a w hR hE
                obtain ⟨ρ7, vr19_kids, vr20_kids, hle7, rfl, hr19_kids, hr20_kids, hp⟩ := Ret.of hR
                have hp : Hp Z ρ7 (_ :: _ :: _ :: _ :: L) w := hp
                refine s_nil (and_with ⟨fun _ => ⟨_, (hp.less hle7)⟩, fun _ => ⟨_, ((hp.get 1 rfl).less hle7)⟩, fun _ => ⟨_, ((hp.get 3 rfl).less hle7)⟩, trivial⟩ fun hS => ?_)
                refine v_take0 8 (wk0 rfl) rfl rfl rfl hE (by kernel_rfl) (by kernel_rfl) (by kernel_rfl) rfl (by kernel_rfl) hS (v := (.tuple #[(.agg #[(.int .i64 x7.1.kind), (.string x7.1.text), (.int .i64 x7.1.at_), (.int .i64 x7.1.fin), vr19_kids]), (.agg #[(.int .i64 x7.2.kind), (.string x7.2.text), (.int .i64 x7.2.at_), (.int .i64 x7.2.fin), vr20_kids])])) (fun _ => ex_move rfl hE rfl) ?_
                intro a hE hS
                refine v_take0 9 (wk0 rfl) rfl rfl rfl hE (by kernel_rfl) (by kernel_rfl) (by kernel_rfl) rfl (by kernel_rfl) hS (v := (.agg #[(.int .i64 x7.1.kind), (.string x7.1.text), (.int .i64 x7.1.at_), (.int .i64 x7.1.fin), vr19_kids])) (fun _ => ex_extract rfl hE rfl rfl) ?_
                intro a hE hS
                refine v_take0 10 (wk0 rfl) rfl rfl rfl hE (by kernel_rfl) (by kernel_rfl) (by kernel_rfl) rfl (by kernel_rfl) hS (v := (.agg #[(.int .i64 x7.2.kind), (.string x7.2.text), (.int .i64 x7.2.at_), (.int .i64 x7.2.fin), vr20_kids])) (fun _ => ex_extract rfl hE rfl rfl) ?_
                intro a hE hS
                refine v_all [12] (by kernel_rfl) rfl ?_
                refine List.forall_mem_cons.2 ⟨?_, fun _ h => absurd h (by simp)⟩
                ·
                  refine h_op rfl ?_
                  refine s_new (wk0 rfl) rfl rfl hE hp rfl [(.int .i64 0), (.string ByteArray.empty), (.int .i64 0), (.int .i64 0), (.slice none 0 0)] (fun w => by simp [Instr.alloc, go_sem] <;> rfl) ?_
                  intro a w b17 hE hp
                  have hp : Hp Z ρ7 (Pt b17 (.cells #[(.int .i64 0), (.string ByteArray.empty), (.int .i64 0), (.int .i64 0), (.slice none 0 0)] 24 (0, 0)) :: _ :: _ :: _ :: _ :: L) w := hp
                  refine s_nil (and_with ⟨fun _ => ⟨_, (hp.less hle7)⟩, fun _ => ⟨_, ((hp.get 2 rfl).less hle7)⟩, fun _ => ⟨_, ((hp.get 4 rfl).less hle7)⟩, trivial⟩ fun hS => ?_)
                  refine v_all [13] (by kernel_rfl) rfl ?_
                  refine List.forall_mem_cons.2 ⟨?_, fun _ h => absurd h (by simp)⟩
                  ·
                    refine h_op rfl ?_
                    refine s_store (wk0 rfl) rfl hE hp rfl rfl rfl 1 rfl varty24.size_ rfl (allOne_mem ⟨rfl, rfl, rfl, rfl, (RoSl.one hr19_kids), trivial⟩) [(.int .i64 x7.1.kind), (.string x7.1.text), (.int .i64 x7.1.at_), (.int .i64 x7.1.fin), vr19_kids] rfl ?_
                    intro w hp
                    have hp : Hp Z ρ7 (_ :: Pt b16 (.cells #[(.int .i64 x7.1.kind), (.string x7.1.text), (.int .i64 x7.1.at_), (.int .i64 x7.1.fin), vr19_kids] 24 (0, 0)) :: _ :: _ :: _ :: L) w := hp
                    refine s_nil (and_with ⟨fun _ => ⟨_, (hp.less hle7)⟩, fun _ => ⟨_, ((hp.get 2 rfl).less hle7)⟩, fun _ => ⟨_, ((hp.get 4 rfl).less hle7)⟩, trivial⟩ fun hS => ?_)
                    refine v_all [14] (by kernel_rfl) rfl ?_
                    refine List.forall_mem_cons.2 ⟨?_, fun _ h => absurd h (by simp)⟩
                    ·
                      refine h_op rfl ?_
                      refine s_store (wk0 rfl) rfl hE hp rfl rfl rfl 0 rfl varty24.size_ rfl (allOne_mem ⟨rfl, rfl, rfl, rfl, (RoSl.one hr20_kids), trivial⟩) [(.int .i64 x7.2.kind), (.string x7.2.text), (.int .i64 x7.2.at_), (.int .i64 x7.2.fin), vr20_kids] rfl ?_
                      intro w hp
                      have hp : Hp Z ρ7 (Pt b17 (.cells #[(.int .i64 x7.2.kind), (.string x7.2.text), (.int .i64 x7.2.at_), (.int .i64 x7.2.fin), vr20_kids] 24 (0, 0)) :: _ :: _ :: _ :: _ :: L) w := hp
                      refine s_nil (and_with ⟨fun _ => ⟨_, (hp.less hle7)⟩, fun _ => ⟨_, ((hp.get 2 rfl).less hle7)⟩, fun _ => ⟨_, ((hp.get 4 rfl).less hle7)⟩, trivial⟩ fun hS => ?_)
                      exact v_done (by kernel_rfl) ⟨ρ7, _, _, _, _, hle7, hr20_kids, hr19_kids, hE.cut ⟨rfl, rfl, rfl, rfl, rfl, trivial⟩, hp⟩
              ·
                refine h_op rfl ?_
                refine s_new (wk0 rfl) rfl rfl hE hp rfl [(.int .i64 0), (.string ByteArray.empty), (.int .i64 0), (.int .i64 0), (.slice none 0 0)] (fun w => by simp [Instr.alloc, go_sem] <;> rfl) ?_
                intro a w b18 hE hp
                have hp : Hp Z ρ (Pt b18 (.cells #[(.int .i64 0), (.string ByteArray.empty), (.int .i64 0), (.int .i64 0), (.slice none 0 0)] 24 (0, 0)) :: _ :: _ :: _ :: _ :: L) w := hp
                refine s_nil (and_with ⟨fun _ => ⟨_, hp⟩, fun _ => ⟨_, (hp.get 2 rfl)⟩, fun _ => ⟨_, (hp.get 4 rfl)⟩, trivial⟩ fun hS => ?_)
                refine v_all [7] (by kernel_rfl) rfl ?_
                refine List.forall_mem_cons.2 ⟨?_, fun _ h => absurd h (by simp)⟩
                ·
                  refine h_op rfl ?_
                  refine s_call (wk0 rfl) rfl rfl hE rfl [(.agg #[(.int .i64 p0.kind), (.string p0.text), (.int .i64 p0.at_), (.int .i64 p0.fin), vp0_kids]), (.int .i64 x6), (.agg #[(.int .i64 p2.kind), (.string p2.text), (.int .i64 p2.at_), (.int .i64 p2.fin), vp2_kids])] ⟨rfl, rfl, rfl, trivial⟩ ent22 (c_assessorlaw37_replace p0 vp0_kids hp0_kids x6 p2 vp2_kids hp2_kids hp x7 ex7) Ret.ret ?_
                  intro v a w hR hE
                  obtain ⟨ρ8, vr21_kids, vr22_kids, hle8, rfl, hr21_kids, hr22_kids, hp⟩ := Ret.of hR
                  have hp : Hp Z ρ8 (_ :: _ :: _ :: _ :: _ :: L) w := hp
                  refine s_nil (and_with ⟨fun _ => ⟨_, (hp.less hle8)⟩, fun _ => ⟨_, ((hp.get 2 rfl).less hle8)⟩, fun _ => ⟨_, ((hp.get 4 rfl).less hle8)⟩, trivial⟩ fun hS => ?_)
                  refine v_take0 8 (wk0 rfl) rfl rfl rfl hE (by kernel_rfl) (by kernel_rfl) (by kernel_rfl) rfl (by kernel_rfl) hS (v := (.tuple #[(.agg #[(.int .i64 x7.1.kind), (.string x7.1.text), (.int .i64 x7.1.at_), (.int .i64 x7.1.fin), vr21_kids]), (.agg #[(.int .i64 x7.2.kind), (.string x7.2.text), (.int .i64 x7.2.at_), (.int .i64 x7.2.fin), vr22_kids])])) (fun _ => ex_move rfl hE rfl) ?_
                  intro a hE hS
                  refine v_take0 9 (wk0 rfl) rfl rfl rfl hE (by kernel_rfl) (by kernel_rfl) (by kernel_rfl) rfl (by kernel_rfl) hS (v := (.agg #[(.int .i64 x7.1.kind), (.string x7.1.text), (.int .i64 x7.1.at_), (.int .i64 x7.1.fin), vr21_kids])) (fun _ => ex_extract rfl hE rfl rfl) ?_
                  intro a hE hS
                  refine v_take0 10 (wk0 rfl) rfl rfl rfl hE (by kernel_rfl) (by kernel_rfl) (by kernel_rfl) rfl (by kernel_rfl) hS (v := (.agg #[(.int .i64 x7.2.kind), (.string x7.2.text), (.int .i64 x7.2.at_), (.int .i64 x7.2.fin), vr22_kids])) (fun _ => ex_extract rfl hE rfl rfl) ?_
                  intro a hE hS
                  refine v_all [13] (by kernel_rfl) rfl ?_
                  refine List.forall_mem_cons.2 ⟨?_, fun _ h => absurd h (by simp)⟩
                  ·
                    refine h_op rfl ?_
                    refine s_store (wk0 rfl) rfl hE hp rfl rfl rfl 1 rfl varty24.size_ rfl (allOne_mem ⟨rfl, rfl, rfl, rfl, (RoSl.one hr21_kids), trivial⟩) [(.int .i64 x7.1.kind), (.string x7.1.text), (.int .i64 x7.1.at_), (.int .i64 x7.1.fin), vr21_kids] rfl ?_
                    intro w hp
                    have hp : Hp Z ρ8 (_ :: Pt b16 (.cells #[(.int .i64 x7.1.kind), (.string x7.1.text), (.int .i64 x7.1.at_), (.int .i64 x7.1.fin), vr21_kids] 24 (0, 0)) :: _ :: _ :: _ :: L) w := hp
                    refine s_nil (and_with ⟨fun _ => ⟨_, (hp.less hle8)⟩, fun _ => ⟨_, ((hp.get 2 rfl).less hle8)⟩, fun _ => ⟨_, ((hp.get 4 rfl).less hle8)⟩, trivial⟩ fun hS => ?_)
                    refine v_all [14] (by kernel_rfl) rfl ?_
                    refine List.forall_mem_cons.2 ⟨?_, fun _ h => absurd h (by simp)⟩
                    ·
                      refine h_op rfl ?_
                      refine s_store (wk0 rfl) rfl hE hp rfl rfl rfl 0 rfl varty24.size_ rfl (allOne_mem ⟨rfl, rfl, rfl, rfl, (RoSl.one hr22_kids), trivial⟩) [(.int .i64 x7.2.kind), (.string x7.2.text), (.int .i64 x7.2.at_), (.int .i64 x7.2.fin), vr22_kids] rfl ?_
                      intro w hp
                      have hp : Hp Z ρ8 (Pt b18 (.cells #[(.int .i64 x7.2.kind), (.string x7.2.text), (.int .i64 x7.2.at_), (.int .i64 x7.2.fin), vr22_kids] 24 (0, 0)) :: _ :: _ :: _ :: _ :: L) w := hp
                      refine s_nil (and_with ⟨fun _ => ⟨_, (hp.less hle8)⟩, fun _ => ⟨_, ((hp.get 2 rfl).less hle8)⟩, fun _ => ⟨_, ((hp.get 4 rfl).less hle8)⟩, trivial⟩ fun hS => ?_)
                      exact v_done (by kernel_rfl) ⟨ρ8, _, _, _, _, hle8, hr22_kids, hr21_kids, hE.cut ⟨rfl, rfl, rfl, rfl, rfl, trivial⟩, hp⟩
            ·
              refine h_op rfl ?_
              refine s_new (wk0 rfl) rfl rfl hE hp rfl [(.int .i64 0), (.string ByteArray.empty), (.int .i64 0), (.int .i64 0), (.slice none 0 0)] (fun w => by simp [Instr.alloc, go_sem] <;> rfl) ?_
              intro a w b19 hE hp
              have hp : Hp Z ρ (Pt b19 (.cells #[(.int .i64 0), (.string ByteArray.empty), (.int .i64 0), (.int .i64 0), (.slice none 0 0)] 24 (0, 0)) :: _ :: _ :: _ :: _ :: L) w := hp
              refine s_nil (and_with ⟨fun _ => ⟨_, hp⟩, fun _ => ⟨_, (hp.get 2 rfl)⟩, fun _ => ⟨_, (hp.get 4 rfl)⟩, trivial⟩ fun hS => ?_)
              refine v_all [4] (by kernel_rfl) rfl ?_
              refine List.forall_mem_cons.2 ⟨?_, fun _ h => absurd h (by simp)⟩
              ·
                refine h_op rfl ?_
                refine s_call (wk0 rfl) rfl rfl hE rfl [(.agg #[(.int .i64 p0.kind), (.string p0.text), (.int .i64 p0.at_), (.int .i64 p0.fin), vp0_kids])] ⟨rfl, trivial⟩ ent21 (c_assessorref37_Count p0 vp0_kids hp0_kids hp x5 ex5) Ret.ret ?_
                intro v a w hR hE
                obtain ⟨rfl, hp⟩ := Ret.of hR
                have hp : Hp Z ρ (_ :: _ :: _ :: _ :: _ :: L) w := hp
                refine s_nil (and_with ⟨fun _ => ⟨_, hp⟩, fun _ => ⟨_, (hp.get 2 rfl)⟩, fun _ => ⟨_, (hp.get 4 rfl)⟩, trivial⟩ fun hS => ?_)
                refine v_take0 5 (wk0 rfl) rfl rfl rfl hE (by kernel_rfl) (by kernel_rfl) (by kernel_rfl) rfl (by kernel_rfl) hS (v := (.int .i64 x6)) (fun _ => ex_rem rfl hE rfl rfl (remK_some ex6).1 (remK_some ex6).2) ?_
                intro a hE hS
                refine v_all [7] (by kernel_rfl) rfl ?_
                refine List.forall_mem_cons.2 ⟨?_, fun _ h => absurd h (by simp)⟩
                ·
                  refine h_op rfl ?_
                  refine s_call (wk0 rfl) rfl rfl hE rfl [(.agg #[(.int .i64 p0.kind), (.string p0.text), (.int .i64 p0.at_), (.int .i64 p0.fin), vp0_kids]), (.int .i64 x6), (.agg #[(.int .i64 p2.kind), (.string p2.text), (.int .i64 p2.at_), (.int .i64 p2.fin), vp2_kids])] ⟨rfl, rfl, rfl, trivial⟩ ent22 (c_assessorlaw37_replace p0 vp0_kids hp0_kids x6 p2 vp2_kids hp2_kids hp x7 ex7) Ret.ret ?_
                  intro v a w hR hE
                  obtain ⟨ρ9, vr24_kids, vr25_kids, hle9, rfl, hr24_kids, hr25_kids, hp⟩ := Ret.of hR
                  have hp : Hp Z ρ9 (_ :: _ :: _ :: _ :: _ :: L) w := hp
                  refine s_nil (and_with ⟨fun _ => ⟨_, (hp.less hle9)⟩, fun _ => ⟨_, ((hp.get 2 rfl).less hle9)⟩, fun _ => ⟨_, ((hp.get 4 rfl).less hle9)⟩, trivial⟩ fun hS => ?_)
                  refine v_take0 8 (wk0 rfl) rfl rfl rfl hE (by kernel_rfl) (by kernel_rfl) (by kernel_rfl) rfl (by kernel_rfl) hS (v := (.tuple #[(.agg #[(.int .i64 x7.1.kind), (.string x7.1.text), (.int .i64 x7.1.at_), (.int .i64 x7.1.fin), vr24_kids]), (.agg #[(.int .i64 x7.2.kind), (.string x7.2.text), (.int .i64 x7.2.at_), (.int .i64 x7.2.fin), vr25_kids])])) (fun _ => ex_move rfl hE rfl) ?_
                  intro a hE hS
                  refine v_take0 9 (wk0 rfl) rfl rfl rfl hE (by kernel_rfl) (by kernel_rfl) (by kernel_rfl) rfl (by kernel_rfl) hS (v := (.agg #[(.int .i64 x7.1.kind), (.string x7.1.text), (.int .i64 x7.1.at_), (.int .i64 x7.1.fin), vr24_kids])) (fun _ => ex_extract rfl hE rfl rfl) ?_
                  intro a hE hS
                  refine v_take0 10 (wk0 rfl) rfl rfl rfl hE (by kernel_rfl) (by kernel_rfl) (by kernel_rfl) rfl (by kernel_rfl) hS (v := (.agg #[(.int .i64 x7.2.kind), (.string x7.2.text), (.int .i64 x7.2.at_), (.int .i64 x7.2.fin), vr25_kids])) (fun _ => ex_extract rfl hE rfl rfl) ?_
                  intro a hE hS
                  refine v_all [13] (by kernel_rfl) rfl ?_
                  refine List.forall_mem_cons.2 ⟨?_, fun _ h => absurd h (by simp)⟩
                  ·
                    refine h_op rfl ?_
                    refine s_store (wk0 rfl) rfl hE hp rfl rfl rfl 1 rfl varty24.size_ rfl (allOne_mem ⟨rfl, rfl, rfl, rfl, (RoSl.one hr24_kids), trivial⟩) [(.int .i64 x7.1.kind), (.string x7.1.text), (.int .i64 x7.1.at_), (.int .i64 x7.1.fin), vr24_kids] rfl ?_
                    intro w hp
                    have hp : Hp Z ρ9 (_ :: Pt b16 (.cells #[(.int .i64 x7.1.kind), (.string x7.1.text), (.int .i64 x7.1.at_), (.int .i64 x7.1.fin), vr24_kids] 24 (0, 0)) :: _ :: _ :: _ :: L) w := hp
                    refine s_nil (and_with ⟨fun _ => ⟨_, (hp.less hle9)⟩, fun _ => ⟨_, ((hp.get 2 rfl).less hle9)⟩, fun _ => ⟨_, ((hp.get 4 rfl).less hle9)⟩, trivial⟩ fun hS => ?_)
                    refine v_all [14] (by kernel_rfl) rfl ?_
                    refine List.forall_mem_cons.2 ⟨?_, fun _ h => absurd h (by simp)⟩
                    ·
                      refine h_op rfl ?_
                      refine s_store (wk0 rfl) rfl hE hp rfl rfl rfl 0 rfl varty24.size_ rfl (allOne_mem ⟨rfl, rfl, rfl, rfl, (RoSl.one hr25_kids), trivial⟩) [(.int .i64 x7.2.kind), (.string x7.2.text), (.int .i64 x7.2.at_), (.int .i64 x7.2.fin), vr25_kids] rfl ?_
                      intro w hp
                      have hp : Hp Z ρ9 (Pt b19 (.cells #[(.int .i64 x7.2.kind), (.string x7.2.text), (.int .i64 x7.2.at_), (.int .i64 x7.2.fin), vr25_kids] 24 (0, 0)) :: _ :: _ :: _ :: _ :: L) w := hp
                      refine s_nil (and_with ⟨fun _ => ⟨_, (hp.less hle9)⟩, fun _ => ⟨_, ((hp.get 2 rfl).less hle9)⟩, fun _ => ⟨_, ((hp.get 4 rfl).less hle9)⟩, trivial⟩ fun hS => ?_)
                      exact v_done (by kernel_rfl) ⟨ρ9, _, _, _, _, hle9, hr25_kids, hr24_kids, hE.cut ⟨rfl, rfl, rfl, rfl, rfl, trivial⟩, hp⟩
          ·
            refine h_op rfl ?_
            refine s_new (wk0 rfl) rfl rfl hE hp rfl [(.int .i64 0), (.string ByteArray.empty), (.int .i64 0), (.int .i64 0), (.slice none 0 0)] (fun w => by simp [Instr.alloc, go_sem] <;> rfl) ?_
            intro a w b20 hE hp
            have hp : Hp Z ρ (Pt b20 (.cells #[(.int .i64 0), (.string ByteArray.empty), (.int .i64 0), (.int .i64 0), (.slice none 0 0)] 24 (0, 0)) :: _ :: _ :: _ :: L) w := hp
            refine s_nil (and_with ⟨fun _ => ⟨_, hp⟩, fun _ => ⟨_, (hp.get 1 rfl)⟩, fun _ => ⟨_, (hp.get 3 rfl)⟩, trivial⟩ fun hS => ?_)
            refine v_all [4, 11] (by kernel_rfl) rfl ?_
            refine List.forall_mem_cons.2 ⟨?_, List.forall_mem_cons.2 ⟨?_, fun _ h => absurd h (by simp)⟩⟩
            ·
              refine h_op rfl ?_
              refine s_call (wk0 rfl) rfl rfl hE rfl [(.agg #[(.int .i64 p0.kind), (.string p0.text), (.int .i64 p0.at_), (.int .i64 p0.fin), vp0_kids])] ⟨rfl, trivial⟩ ent21 (c_assessorref37_Count p0 vp0_kids hp0_kids hp x5 ex5) Ret.ret ?_
              intro v a w hR hE
              obtain ⟨rfl, hp⟩ := Ret.of hR
              have hp : Hp Z ρ (_ :: _ :: _ :: _ :: L) w := hp
              refine s_nil (and_with ⟨fun _ => ⟨_, hp⟩, fun _ => ⟨_, (hp.get 1 rfl)⟩, fun _ => ⟨_, (hp.get 3 rfl)⟩, trivial⟩ fun hS => ?_)
              refine v_take0 5 (wk0 rfl) rfl rfl rfl hE (by kernel_rfl) (by kernel_rfl) (by kernel_rfl) rfl (by kernel_rfl) hS (v := (.int .i64 x6)) (fun _ => ex_rem rfl hE rfl rfl (remK_some ex6).1 (remK_some ex6).2) ?_
              intro a hE hS
              refine v_all [7, 11] (by kernel_rfl) rfl ?_
              refine List.forall_mem_cons.2 ⟨?_, List.forall_mem_cons.2 ⟨?_, fun _ h => absurd h (by simp)⟩⟩
              ·
                refine h_op rfl ?_
                refine s_call (wk0 rfl) rfl rfl hE rfl [(.agg #[(.int .i64 p0.kind), (.string p0.text), (.int .i64 p0.at_), (.int .i64 p0.fin), vp0_kids]), (.int .i64 x6), (.agg #[(.int .i64 p2.kind), (.string p2.text), (.int .i64 p2.at_), (.int .i64 p2.fin), vp2_kids])] ⟨rfl, rfl, rfl, trivial⟩ ent22 (c_assessorlaw37_replace p0 vp0_kids hp0_kids x6 p2 vp2_kids hp2_kids hp x7 ex7) Ret.ret ?_
                intro v a w hR hE
                obtain ⟨ρ10, vr27_kids, vr28_kids, hle10, rfl, hr27_kids, hr28_kids, hp⟩ := Ret.of hR
                have hp : Hp Z ρ10 (_ :: _ :: _ :: _ :: L) w := hp
                refine s_nil (and_with ⟨fun _ => ⟨_, (hp.less hle10)⟩, fun _ => ⟨_, ((hp.get 1 rfl).less hle10)⟩, fun _ => ⟨_, ((hp.get 3 rfl).less hle10)⟩, trivial⟩ fun hS => ?_)
                refine v_take0 8 (wk0 rfl) rfl rfl rfl hE (by kernel_rfl) (by kernel_rfl) (by kernel_rfl) rfl (by kernel_rfl) hS (v := (.tuple #[(.agg #[(.int .i64 x7.1.kind), (.string x7.1.text), (.int .i64 x7.1.at_), (.int .i64 x7.1.fin), vr27_kids]), (.agg #[(.int .i64 x7.2.kind), (.string x7.2.text), (.int .i64 x7.2.at_), (.int .i64 x7.2.fin), vr28_kids])])) (fun _ => ex_move rfl hE rfl) ?_
                intro a hE hS
                refine v_take0 9 (wk0 rfl) rfl rfl rfl hE (by kernel_rfl) (by kernel_rfl) (by kernel_rfl) rfl (by kernel_rfl) hS (v := (.agg #[(.int .i64 x7.1.kind), (.string x7.1.text), (.int .i64 x7.1.at_), (.int .i64 x7.1.fin), vr27_kids])) (fun _ => ex_extract rfl hE rfl rfl) ?_
                intro a hE hS
                refine v_take0 10 (wk0 rfl) rfl rfl rfl hE (by kernel_rfl) (by kernel_rfl) (by kernel_rfl) rfl (by kernel_rfl) hS (v := (.agg #[(.int .i64 x7.2.kind), (.string x7.2.text), (.int .i64 x7.2.at_), (.int .i64 x7.2.fin), vr28_kids])) (fun _ => ex_extract rfl hE rfl rfl) ?_
                intro a hE hS
                refine v_all [11] (by kernel_rfl) rfl ?_
                refine List.forall_mem_cons.2 ⟨?_, fun _ h => absurd h (by simp)⟩
                ·
                  refine h_op rfl ?_
                  refine s_new (wk0 rfl) rfl rfl hE hp rfl [(.int .i64 0), (.string ByteArray.empty), (.int .i64 0), (.int .i64 0), (.slice none 0 0)] (fun w => by simp [Instr.alloc, go_sem] <;> rfl) ?_
                  intro a w b21 hE hp
                  have hp : Hp Z ρ10 (Pt b21 (.cells #[(.int .i64 0), (.string ByteArray.empty), (.int .i64 0), (.int .i64 0), (.slice none 0 0)] 24 (0, 0)) :: _ :: _ :: _ :: _ :: L) w := hp
                  refine s_nil (and_with ⟨fun _ => ⟨_, (hp.less hle10)⟩, fun _ => ⟨_, ((hp.get 2 rfl).less hle10)⟩, fun _ => ⟨_, ((hp.get 4 rfl).less hle10)⟩, trivial⟩ fun hS => ?_)
                  refine v_all [13] (by kernel_rfl) rfl ?_
                  refine List.forall_mem_cons.2 ⟨?_, fun _ h => absurd h (by simp)⟩
                  ·
                    refine h_op rfl ?_
                    refine s_store (wk0 rfl) rfl hE hp rfl rfl rfl 0 rfl varty24.size_ rfl (allOne_mem ⟨rfl, rfl, rfl, rfl, (RoSl.one hr27_kids), trivial⟩) [(.int .i64 x7.1.kind), (.string x7.1.text), (.int .i64 x7.1.at_), (.int .i64 x7.1.fin), vr27_kids] rfl ?_
                    intro w hp
                    have hp : Hp Z ρ10 (Pt b21 (.cells #[(.int .i64 x7.1.kind), (.string x7.1.text), (.int .i64 x7.1.at_), (.int .i64 x7.1.fin), vr27_kids] 24 (0, 0)) :: _ :: _ :: _ :: _ :: L) w := hp
                    refine s_nil (and_with ⟨fun _ => ⟨_, (hp.less hle10)⟩, fun _ => ⟨_, ((hp.get 2 rfl).less hle10)⟩, fun _ => ⟨_, ((hp.get 4 rfl).less hle10)⟩, trivial⟩ fun hS => ?_)
                    refine v_all [14] (by kernel_rfl) rfl ?_
                    refine List.forall_mem_cons.2 ⟨?_, fun _ h => absurd h (by simp)⟩
                    ·
                      refine h_op rfl ?_
                      refine s_store (wk0 rfl) rfl hE hp rfl rfl rfl 1 rfl varty24.size_ rfl (allOne_mem ⟨rfl, rfl, rfl, rfl, (RoSl.one hr28_kids), trivial⟩) [(.int .i64 x7.2.kind), (.string x7.2.text), (.int .i64 x7.2.at_), (.int .i64 x7.2.fin), vr28_kids] rfl ?_
                      intro w hp
                      have hp : Hp Z ρ10 (_ :: Pt b20 (.cells #[(.int .i64 x7.2.kind), (.string x7.2.text), (.int .i64 x7.2.at_), (.int .i64 x7.2.fin), vr28_kids] 24 (0, 0)) :: _ :: _ :: _ :: L) w := hp
                      refine s_nil (and_with ⟨fun _ => ⟨_, (hp.less hle10)⟩, fun _ => ⟨_, ((hp.get 2 rfl).less hle10)⟩, fun _ => ⟨_, ((hp.get 4 rfl).less hle10)⟩, trivial⟩ fun hS => ?_)
                      exact v_done (by kernel_rfl) ⟨ρ10, _, _, _, _, hle10, hr28_kids, hr27_kids, hE.cut ⟨rfl, rfl, rfl, rfl, rfl, trivial⟩, (((((hp.get 4 rfl).get 4 rfl).get 4 rfl).get 3 rfl).get 4 rfl)⟩
              ·
                refine h_op rfl ?_
                refine s_new (wk0 rfl) rfl rfl hE hp rfl [(.int .i64 0), (.string ByteArray.empty), (.int .i64 0), (.int .i64 0), (.slice none 0 0)] (fun w => by simp [Instr.alloc, go_sem] <;> rfl) ?_
                intro a w b22 hE hp
                have hp : Hp Z ρ (Pt b22 (.cells #[(.int .i64 0), (.string ByteArray.empty), (.int .i64 0), (.int .i64 0), (.slice none 0 0)] 24 (0, 0)) :: _ :: _ :: _ :: _ :: L) w := hp
                refine s_nil (and_with ⟨fun _ => ⟨_, hp⟩, fun _ => ⟨_, (hp.get 2 rfl)⟩, fun _ => ⟨_, (hp.get 4 rfl)⟩, trivial⟩ fun hS => ?_)
                refine v_all [7] (by kernel_rfl) rfl ?_
                refine List.forall_mem_cons.2 ⟨?_, fun _ h => absurd h (by simp)⟩
                ·
                  refine h_op rfl ?_
                  refine s_call (wk0 rfl) rfl rfl hE rfl [(.agg #[(.int .i64 p0.kind), (.string p0.text), (.int .i64 p0.at_), (.int .i64 p0.fin), vp0_kids]), (.int .i64 x6), (.agg #[(.int .i64 p2.kind), (.string p2.text), (.int .i64 p2.at_), (.int .i64 p2.fin), vp2_kids])] ⟨rfl, rfl, rfl, trivial⟩ ent22 (c_assessorlaw37_replace p0 vp0_kids hp0_kids x6 p2 vp2_kids hp2_kids hp x7 ex7) Ret.ret ?_
                  intro v a w hR hE
                  obtain ⟨ρ11, vr29_kids, vr30_kids, hle11, rfl, hr29_kids, hr30_kids, hp⟩ := Ret.of hR
                  have hp : Hp Z ρ11 (_ :: _ :: _ :: _ :: _ :: L) w := hp
                  refine s_nil (and_with ⟨fun _ => ⟨_, (hp.less hle11)⟩, fun _ => ⟨_, ((hp.get 2 rfl).less hle11)⟩, fun _ => ⟨_, ((hp.get 4 rfl).less hle11)⟩, trivial⟩ fun hS => ?_)
                  refine v_take0 8 (wk0 rfl) rfl rfl rfl hE (by kernel_rfl) (by kernel_rfl) (by kernel_rfl) rfl (by kernel_rfl) hS (v := (.tuple #[(.agg #[(.int .i64 x7.1.kind), (.string x7.1.text), (.int .i64 x7.1.at_), (.int .i64 x7.1.fin), vr29_kids]), (.agg #[(.int .i64 x7.2.kind), (.string x7.2.text), (.int .i64 x7.2.at_), (.int .i64 x7.2.fin), vr30_kids])])) (fun _ => ex_move rfl hE rfl) ?_
                  intro a hE hS
                  refine v_take0 9 (wk0 rfl) rfl rfl rfl hE (by kernel_rfl) (by kernel_rfl) (by kernel_rfl) rfl (by kernel_rfl) hS (v := (.agg #[(.int .i64 x7.1.kind), (.string x7.1.text), (.int .i64 x7.1.at_), (.int .i64 x7.1.fin), vr29_kids])) (fun _ => ex_extract rfl hE rfl rfl) ?_
                  intro a hE hS
                  refine v_take0 10 (wk0 rfl) rfl rfl rfl hE (by kernel_rfl) (by kernel_rfl) (by kernel_rfl) rfl (by kernel_rfl) hS (v := (.agg #[(.int .i64 x7.2.kind), (.string x7.2.text), (.int .i64 x7.2.at_), (.int .i64 x7.2.fin), vr30_kids])) (fun _ => ex_extract rfl hE rfl rfl) ?_
                  intro a hE hS
                  refine v_all [13] (by kernel_rfl) rfl ?_
                  refine List.forall_mem_cons.2 ⟨?_, fun _ h => absurd h (by simp)⟩
                  ·
                    refine h_op rfl ?_
                    refine s_store (wk0 rfl) rfl hE hp rfl rfl rfl 0 rfl varty24.size_ rfl (allOne_mem ⟨rfl, rfl, rfl, rfl, (RoSl.one hr29_kids), trivial⟩) [(.int .i64 x7.1.kind), (.string x7.1.text), (.int .i64 x7.1.at_), (.int .i64 x7.1.fin), vr29_kids] rfl ?_
                    intro w hp
                    have hp : Hp Z ρ11 (Pt b22 (.cells #[(.int .i64 x7.1.kind), (.string x7.1.text), (.int .i64 x7.1.at_), (.int .i64 x7.1.fin), vr29_kids] 24 (0, 0)) :: _ :: _ :: _ :: _ :: L) w := hp
                    refine s_nil (and_with ⟨fun _ => ⟨_, (hp.less hle11)⟩, fun _ => ⟨_, ((hp.get 2 rfl).less hle11)⟩, fun _ => ⟨_, ((hp.get 4 rfl).less hle11)⟩, trivial⟩ fun hS => ?_)
                    refine v_all [14] (by kernel_rfl) rfl ?_
                    refine List.forall_mem_cons.2 ⟨?_, fun _ h => absurd h (by simp)⟩
                    ·
                      refine h_op rfl ?_
                      refine s_store (wk0 rfl) rfl hE hp rfl rfl rfl 1 rfl varty24.size_ rfl (allOne_mem ⟨rfl, rfl, rfl, rfl, (RoSl.one hr30_kids), trivial⟩) [(.int .i64 x7.2.kind), (.string x7.2.text), (.int .i64 x7.2.at_), (.int .i64 x7.2.fin), vr30_kids] rfl ?_
                      intro w hp
                      have hp : Hp Z ρ11 (_ :: Pt b20 (.cells #[(.int .i64 x7.2.kind), (.string x7.2.text), (.int .i64 x7.2.at_), (.int .i64 x7.2.fin), vr30_kids] 24 (0, 0)) :: _ :: _ :: _ :: L) w := hp
                      refine s_nil (and_with ⟨fun _ => ⟨_, (hp.less hle11)⟩, fun _ => ⟨_, ((hp.get 2 rfl).less hle11)⟩, fun _ => ⟨_, ((hp.get 4 rfl).less hle11)⟩, trivial⟩ fun hS => ?_)
                      exact v_done (by kernel_rfl) ⟨ρ11, _, _, _, _, hle11, hr30_kids, hr29_kids, hE.cut ⟨rfl, rfl, rfl, rfl, rfl, trivial⟩, (((((hp.get 4 rfl).get 4 rfl).get 4 rfl).get 3 rfl).get 4 rfl)⟩
            ·
              refine h_op rfl ?_
              refine s_new (wk0 rfl) rfl rfl hE hp rfl [(.int .i64 0), (.string ByteArray.empty), (.int .i64 0), (.int .i64 0), (.slice none 0 0)] (fun w => by simp [Instr.alloc, go_sem] <;> rfl) ?_
              intro a w b23 hE hp
              have hp : Hp Z ρ (Pt b23 (.cells #[(.int .i64 0), (.string ByteArray.empty), (.int .i64 0), (.int .i64 0), (.slice none 0 0)] 24 (0, 0)) :: _ :: _ :: _ :: _ :: L) w := hp
              refine s_nil (and_with ⟨fun _ => ⟨_, hp⟩, fun _ => ⟨_, (hp.get 2 rfl)⟩, fun _ => ⟨_, (hp.get 4 rfl)⟩, trivial⟩ fun hS => ?_)
              refine v_all [4] (by kernel_rfl) rfl ?_
              refine List.forall_mem_cons.2 ⟨?_, fun _ h => absurd h (by simp)⟩
              ·
                refine h_op rfl ?_
                refine s_call (wk0 rfl) rfl rfl hE rfl [(.agg #[(.int .i64 p0.kind), (.string p0.text), (.int .i64 p0.at_), (.int .i64 p0.fin), vp0_kids])] ⟨rfl, trivial⟩ ent21 (c_assessorref37_Count p0 vp0_kids hp0_kids hp x5 ex5) Ret.ret ?_
                intro v a w hR hE
                obtain ⟨rfl, hp⟩ := Ret.of hR
                have hp : Hp Z ρ (_ :: _ :: _ :: _ :: _ :: L) w := hp
                refine s_nil (and_with ⟨fun _ => ⟨_, hp⟩, fun _ => ⟨_, (hp.get 2 rfl)⟩, fun _ => ⟨_, (hp.get 4 rfl)⟩, trivial⟩ fun hS => ?_)
                refine v_take0 5 (wk0 rfl) rfl rfl rfl hE (by kernel_rfl) (by kernel_rfl) (by kernel_rfl) rfl (by kernel_rfl) hS (v := (.int .i64 x6)) (fun _ => ex_rem rfl hE rfl rfl (remK_some ex6).1 (remK_some ex6).2) ?_
                intro a hE hS
                refine v_all [7] (by kernel_rfl) rfl ?_
                refine List.forall_mem_cons.2 ⟨?_, fun _ h => absurd h (by simp)⟩
                ·
                  refine h_op rfl ?_
                  refine s_call (wk0 rfl) rfl rfl hE rfl [(.agg #[(.int .i64 p0.kind), (.string p0.text), (.int .i64 p0.at_), (.int .i64 p0.fin), vp0_kids]), (.int .i64 x6), (.agg #[(.int .i64 p2.kind), (.string p2.text), (.int .i64 p2.at_), (.int .i64 p2.fin), vp2_kids])] ⟨rfl, rfl, rfl, trivial⟩ ent22 (c_assessorlaw37_replace p0 vp0_kids hp0_kids x6 p2 vp2_kids hp2_kids hp x7 ex7) Ret.ret ?_
                  intro v a w hR hE
                  obtain ⟨ρ12, vr32_kids, vr33_kids, hle12, rfl, hr32_kids, hr33_kids, hp⟩ := Ret.of hR
                  have hp : Hp Z ρ12 (_ :: _ :: _ :: _ :: _ :: L) w := hp
                  refine s_nil (and_with ⟨fun _ => ⟨_, (hp.less hle12)⟩, fun _ => ⟨_, ((hp.get 2 rfl).less hle12)⟩, fun _ => ⟨_, ((hp.get 4 rfl).less hle12)⟩, trivial⟩ fun hS => ?_)
                  refine v_take0 8 (wk0 rfl) rfl rfl rfl hE (by kernel_rfl) (by kernel_rfl) (by kernel_rfl) rfl (by kernel_rfl) hS (v := (.tuple #[(.agg #[(.int .i64 x7.1.kind), (.string x7.1.text), (.int .i64 x7.1.at_), (.int .i64 x7.1.fin), vr32_kids]), (.agg #[(.int .i64 x7.2.kind), (.string x7.2.text), (.int .i64 x7.2.at_), (.int .i64 x7.2.fin), vr33_kids])])) (fun _ => ex_move rfl hE rfl) ?_
                  intro a hE hS
                  refine v_take0 9 (wk0 rfl) rfl rfl rfl hE (by kernel_rfl) (by kernel_rfl) (by kernel_rfl) rfl (by kernel_rfl) hS (v := (.agg #[(.int .i64 x7.1.kind), (.string x7.1.text), (.int .i64 x7.1.at_), (.int .i64 x7.1.fin), vr32_kids])) (fun _ => ex_extract rfl hE rfl rfl) ?_
                  intro a hE hS
                  refine v_take0 10 (wk0 rfl) rfl rfl rfl hE (by kernel_rfl) (by kernel_rfl) (by kernel_rfl) rfl (by kernel_rfl) hS (v := (.agg #[(.int .i64 x7.2.kind), (.string x7.2.text), (.int .i64 x7.2.at_), (.int .i64 x7.2.fin), vr33_kids])) (fun _ => ex_extract rfl hE rfl rfl) ?_
                  intro a hE hS
                  refine v_all [13] (by kernel_rfl) rfl ?_
                  refine List.forall_mem_cons.2 ⟨?_, fun _ h => absurd h (by simp)⟩
                  ·
                    refine h_op rfl ?_
                    refine s_store (wk0 rfl) rfl hE hp rfl rfl rfl 0 rfl varty24.size_ rfl (allOne_mem ⟨rfl, rfl, rfl, rfl, (RoSl.one hr32_kids), trivial⟩) [(.int .i64 x7.1.kind), (.string x7.1.text), (.int .i64 x7.1.at_), (.int .i64 x7.1.fin), vr32_kids] rfl ?_
                    intro w hp
                    have hp : Hp Z ρ12 (Pt b23 (.cells #[(.int .i64 x7.1.kind), (.string x7.1.text), (.int .i64 x7.1.at_), (.int .i64 x7.1.fin), vr32_kids] 24 (0, 0)) :: _ :: _ :: _ :: _ :: L) w := hp
                    refine s_nil (and_with ⟨fun _ => ⟨_, (hp.less hle12)⟩, fun _ => ⟨_, ((hp.get 2 rfl).less hle12)⟩, fun _ => ⟨_, ((hp.get 4 rfl).less hle12)⟩, trivial⟩ fun hS => ?_)
                    refine v_all [14] (by kernel_rfl) rfl ?_
                    refine List.forall_mem_cons.2 ⟨?_, fun _ h => absurd h (by simp)⟩
                    ·
                      refine h_op rfl ?_
                      refine s_store (wk0 rfl) rfl hE hp rfl rfl rfl 1 rfl varty24.size_ rfl (allOne_mem ⟨rfl, rfl, rfl, rfl, (RoSl.one hr33_kids), trivial⟩) [(.int .i64 x7.2.kind), (.string x7.2.text), (.int .i64 x7.2.at_), (.int .i64 x7.2.fin), vr33_kids] rfl ?_
                      intro w hp
                      have hp : Hp Z ρ12 (_ :: Pt b20 (.cells #[(.int .i64 x7.2.kind), (.string x7.2.text), (.int .i64 x7.2.at_), (.int .i64 x7.2.fin), vr33_kids] 24 (0, 0)) :: _ :: _ :: _ :: L) w := hp
                      refine s_nil (and_with ⟨fun _ => ⟨_, (hp.less hle12)⟩, fun _ => ⟨_, ((hp.get 2 rfl).less hle12)⟩, fun _ => ⟨_, ((hp.get 4 rfl).less hle12)⟩, trivial⟩ fun hS => ?_)
                      exact v_done (by kernel_rfl) ⟨ρ12, _, _, _, _, hle12, hr33_kids, hr32_kids, hE.cut ⟨rfl, rfl, rfl, rfl, rfl, trivial⟩, (((((hp.get 4 rfl).get 4 rfl).get 4 rfl).get 3 rfl).get 4 rfl)⟩
        · rintro a w ⟨ρy1, y5, y4, yv1, yv2, hley1, yh1, yh2, hE, hp⟩
          refine k_seq ?_
          refine k_region ?_
          refine s_val (wk0 rfl) rfl rfl hE hp (v := (.agg #[(.int .i64 p0.kind), (.string p0.text), (.int .i64 p0.at_), (.int .i64 p0.fin), vp0_kids])) (ex_load rfl hE rfl (fun w hw => run_ldN (cs := [(.int .i64 p0.kind), (.string p0.text), (.int .i64 p0.at_), (.int .i64 p0.fin), vp0_kids]) varty24 (Hp.cN 4 rfl 0 _ (sub_all rfl) w hw))) ?_
          intro a hE
          refine s_val (wk0 rfl) rfl rfl hE hp (v := (.agg #[(.int .i64 p1.kind), (.string p1.text), (.int .i64 p1.at_), (.int .i64 p1.fin), vp1_kids])) (ex_load rfl hE rfl (fun w hw => run_ldN (cs := [(.int .i64 p1.kind), (.string p1.text), (.int .i64 p1.at_), (.int .i64 p1.fin), vp1_kids]) varty24 (Hp.cN 3 rfl 0 _ (sub_all rfl) w hw))) ?_
          intro a hE
          obtain ⟨x8, ex8, hm⟩ := bnd hm
          refine s_call (wk0 rfl) rfl rfl hE rfl [(.agg #[(.int .i64 p0.kind), (.string p0.text), (.int .i64 p0.at_), (.int .i64 p0.fin), vp0_kids]), (.agg #[(.int .i64 p1.kind), (.string p1.text), (.int .i64 p1.at_), (.int .i64 p1.fin), vp1_kids])] ⟨rfl, rfl, trivial⟩ ent12 (c_distance_Distance p0 vp0_kids (RoSl.mono hp0_kids hley1) p1 vp1_kids (RoSl.mono hp1_kids hley1) hp x8 ex8) Ret.ret ?_
          intro v a w hR hE
          obtain ⟨rfl, hp⟩ := Ret.of hR
          have hp : Hp Z ρy1 (Pt y5 (.cells #[(.int .i64 x7.2.kind), (.string x7.2.text), (.int .i64 x7.2.at_), (.int .i64 x7.2.fin), yv1] 24 (0, 0)) :: Pt y4 (.cells #[(.int .i64 x7.1.kind), (.string x7.1.text), (.int .i64 x7.1.at_), (.int .i64 x7.1.fin), yv2] 24 (0, 0)) :: _ :: _ :: _ :: L) w := hp
          refine s_val (wk0 rfl) rfl rfl hE hp (v := (.tuple #[(.int .i64 x8.1), (.int .i64 x8.2)])) (ex_move rfl hE rfl) ?_
          intro a hE
          refine s_val (wk0 rfl) rfl rfl hE hp (v := (.int .i64 x8.1)) (ex_extract rfl hE rfl rfl) ?_
          intro a hE
          refine s_val (wk0 rfl) rfl rfl hE hp (v := (.int .i64 x8.2)) (ex_extract rfl hE rfl rfl) ?_
          intro a hE
          refine s_val (wk0 rfl) rfl rfl hE hp (v := (.int .i64 x8.1)) (ex_asn rfl hE rfl) ?_
          intro a hE
          refine s_val (wk0 rfl) rfl rfl hE hp (v := (.int .i64 x8.2)) (ex_asn rfl hE rfl) ?_
          intro a hE
          refine s_nil ?_
          refine k_seq ?_
          refine k_region ?_
          refine s_val (wk0 rfl) rfl rfl hE hp (v := (.agg #[(.int .i64 x7.1.kind), (.string x7.1.text), (.int .i64 x7.1.at_), (.int .i64 x7.1.fin), yv2])) (ex_load rfl hE rfl (fun w hw => run_ldN (cs := [(.int .i64 x7.1.kind), (.string x7.1.text), (.int .i64 x7.1.at_), (.int .i64 x7.1.fin), yv2]) varty24 (Hp.cN 1 rfl 0 _ (sub_all rfl) w hw))) ?_
          intro a hE
          refine s_val (wk0 rfl) rfl rfl hE hp (v := (.agg #[(.int .i64 p1.kind), (.string p1.text), (.int .i64 p1.at_), (.int .i64 p1.fin), vp1_kids])) (ex_load rfl hE rfl (fun w hw => run_ldN (cs := [(.int .i64 p1.kind), (.string p1.text), (.int .i64 p1.at_), (.int .i64 p1.fin), vp1_kids]) varty24 (Hp.cN 3 rfl 0 _ (sub_all rfl) w hw))) ?_
          intro a hE
          obtain ⟨x9, ex9, hm⟩ := bnd hm
          refine s_call (wk0 rfl) rfl rfl hE rfl [(.agg #[(.int .i64 x7.1.kind), (.string x7.1.text), (.int .i64 x7.1.at_), (.int .i64 x7.1.fin), yv2]), (.agg #[(.int .i64 p1.kind), (.string p1.text), (.int .i64 p1.at_), (.int .i64 p1.fin), vp1_kids])] ⟨rfl, rfl, trivial⟩ ent12 (c_distance_Distance x7.1 yv2 yh2 p1 vp1_kids (RoSl.mono hp1_kids hley1) hp x9 ex9) Ret.ret ?_
          intro v a w hR hE
          obtain ⟨rfl, hp⟩ := Ret.of hR
          have hp : Hp Z ρy1 (_ :: _ :: _ :: _ :: _ :: L) w := hp
          refine s_val (wk0 rfl) rfl rfl hE hp (v := (.tuple #[(.int .i64 x9.1), (.int .i64 x9.2)])) (ex_move rfl hE rfl) ?_
          intro a hE
          refine s_val (wk0 rfl) rfl rfl hE hp (v := (.int .i64 x9.1)) (ex_extract rfl hE rfl rfl) ?_
          intro a hE
          refine s_val (wk0 rfl) rfl rfl hE hp (v := (.int .i64 x9.2)) (ex_extract rfl hE rfl rfl) ?_
          intro a hE
          refine s_val (wk0 rfl) rfl rfl hE hp (v := (.int .i64 x9.1)) (ex_asn rfl hE rfl) ?_
          intro a hE
          refine s_val (wk0 rfl) rfl rfl hE hp (v := (.int .i64 x9.2)) (ex_asn rfl hE rfl) ?_
          intro a hE
          refine s_nil ?_
          refine k_seq ?_
          refine k_region ?_
          refine s_val (wk0 rfl) rfl rfl hE hp (v := (.agg #[(.int .i64 x7.2.kind), (.string x7.2.text), (.int .i64 x7.2.at_), (.int .i64 x7.2.fin), yv1])) (ex_load rfl hE rfl (fun w hw => run_ldN (cs := [(.int .i64 x7.2.kind), (.string x7.2.text), (.int .i64 x7.2.at_), (.int .i64 x7.2.fin), yv1]) varty24 (Hp.cN 0 rfl 0 _ (sub_all rfl) w hw))) ?_
          intro a hE
          refine s_val (wk0 rfl) rfl rfl hE hp (v := (.agg #[(.int .i64 p2.kind), (.string p2.text), (.int .i64 p2.at_), (.int .i64 p2.fin), vp2_kids])) (ex_load rfl hE rfl (fun w hw => run_ldN (cs := [(.int .i64 p2.kind), (.string p2.text), (.int .i64 p2.at_), (.int .i64 p2.fin), vp2_kids]) varty24 (Hp.cN 2 rfl 0 _ (sub_all rfl) w hw))) ?_
          intro a hE
          obtain ⟨x10, ex10, hm⟩ := bnd hm
          refine s_call (wk0 rfl) rfl rfl hE rfl [(.agg #[(.int .i64 x7.2.kind), (.string x7.2.text), (.int .i64 x7.2.at_), (.int .i64 x7.2.fin), yv1]), (.agg #[(.int .i64 p2.kind), (.string p2.text), (.int .i64 p2.at_), (.int .i64 p2.fin), vp2_kids])] ⟨rfl, rfl, trivial⟩ ent12 (c_distance_Distance x7.2 yv1 yh1 p2 vp2_kids (RoSl.mono hp2_kids hley1) hp x10 ex10) Ret.ret ?_
          intro v a w hR hE
          obtain ⟨rfl, hp⟩ := Ret.of hR
          have hp : Hp Z ρy1 (_ :: _ :: _ :: _ :: _ :: L) w := hp
          refine s_val (wk0 rfl) rfl rfl hE hp (v := (.tuple #[(.int .i64 x10.1), (.int .i64 x10.2)])) (ex_move rfl hE rfl) ?_
          intro a hE
          refine s_val (wk0 rfl) rfl rfl hE hp (v := (.int .i64 x10.1)) (ex_extract rfl hE rfl rfl) ?_
          intro a hE
          refine s_val (wk0 rfl) rfl rfl hE hp (v := (.int .i64 x10.2)) (ex_extract rfl hE rfl rfl) ?_
          intro a hE
          refine s_val (wk0 rfl) rfl rfl hE hp (v := (.int .i64 x10.1)) (ex_asn rfl hE rfl) ?_
          intro a hE
          refine s_val (wk0 rfl) rfl rfl hE hp (v := (.int .i64 x10.2)) (ex_asn rfl hE rfl) ?_
          intro a hE
          refine s_nil ?_
          have hE := hE.cut (E' := [(4, (.pointer (some ⟨b1, 0, none⟩))), (6, (.pointer (some ⟨b3, 0, none⟩))), (9, (.pointer (some ⟨y4, 0, none⟩))), (10, (.pointer (some ⟨y5, 0, none⟩))), (11, (.int .i64 x8.1)), (12, (.int .i64 x8.2)), (13, (.int .i64 x9.1)), (14, (.int .i64 x9.2)), (15, (.int .i64 x10.1)), (16, (.int .i64 x10.2))]) ⟨rfl, rfl, rfl, rfl, rfl, rfl, rfl, rfl, rfl, rfl, trivial⟩
          refine k_seq ?_
          refine k_region ?_
          refine s_val (wk0 rfl) rfl rfl hE hp (v := (.agg #[(.int .i64 p0.kind), (.string p0.text), (.int .i64 p0.at_), (.int .i64 p0.fin), vp0_kids])) (ex_load rfl hE rfl (fun w hw => run_ldN (cs := [(.int .i64 p0.kind), (.string p0.text), (.int .i64 p0.at_), (.int .i64 p0.fin), vp0_kids]) varty24 (Hp.cN 4 rfl 0 _ (sub_all rfl) w hw))) ?_
          intro a hE
          refine s_val (wk0 rfl) rfl rfl hE hp (v := (.agg #[(.int .i64 x7.1.kind), (.string x7.1.text), (.int .i64 x7.1.at_), (.int .i64 x7.1.fin), yv2])) (ex_load rfl hE rfl (fun w hw => run_ldN (cs := [(.int .i64 x7.1.kind), (.string x7.1.text), (.int .i64 x7.1.at_), (.int .i64 x7.1.fin), yv2]) varty24 (Hp.cN 1 rfl 0 _ (sub_all rfl) w hw))) ?_
          intro a hE
          obtain ⟨x11, ex11, hm⟩ := bnd hm
          refine s_call (wk0 rfl) rfl rfl hE rfl [(.agg #[(.int .i64 p0.kind), (.string p0.text), (.int .i64 p0.at_), (.int .i64 p0.fin), vp0_kids]), (.agg #[(.int .i64 x7.1.kind), (.string x7.1.text), (.int .i64 x7.1.at_), (.int .i64 x7.1.fin), yv2])] ⟨rfl, rfl, trivial⟩ ent12 (c_distance_Distance p0 vp0_kids (RoSl.mono hp0_kids hley1) x7.1 yv2 yh2 hp x11 ex11) Ret.ret ?_
          intro v a w hR hE
          obtain ⟨rfl, hp⟩ := Ret.of hR
          have hp : Hp Z ρy1 (_ :: _ :: _ :: _ :: _ :: L) w := hp
          refine s_val (wk0 rfl) rfl rfl hE hp (v := (.tuple #[(.int .i64 x11.1), (.int .i64 x11.2)])) (ex_move rfl hE rfl) ?_
          intro a hE
          refine s_val (wk0 rfl) rfl rfl hE hp (v := (.int .i64 x11.1)) (ex_extract rfl hE rfl rfl) ?_
          intro a hE
          refine s_val (wk0 rfl) rfl rfl hE hp (v := (.int .i64 x11.2)) (ex_extract rfl hE rfl rfl) ?_
          intro a hE
          refine s_val (wk0 rfl) rfl rfl hE hp (v := (.int .i64 x11.1)) (ex_asn rfl hE rfl) ?_
          intro a hE
          refine s_val (wk0 rfl) rfl rfl hE hp (v := (.int .i64 x11.2)) (ex_asn rfl hE rfl) ?_
          intro a hE
          refine s_nil ?_
          refine k_seq ?_
          refine k_region ?_
          refine s_val (wk0 rfl) rfl rfl hE hp (v := (.agg #[(.int .i64 x7.2.kind), (.string x7.2.text), (.int .i64 x7.2.at_), (.int .i64 x7.2.fin), yv1])) (ex_load rfl hE rfl (fun w hw => run_ldN (cs := [(.int .i64 x7.2.kind), (.string x7.2.text), (.int .i64 x7.2.at_), (.int .i64 x7.2.fin), yv1]) varty24 (Hp.cN 0 rfl 0 _ (sub_all rfl) w hw))) ?_
          intro a hE
          refine s_val (wk0 rfl) rfl rfl hE hp (v := (.agg #[(.int .i64 p2.kind), (.string p2.text), (.int .i64 p2.at_), (.int .i64 p2.fin), vp2_kids])) (ex_load rfl hE rfl (fun w hw => run_ldN (cs := [(.int .i64 p2.kind), (.string p2.text), (.int .i64 p2.at_), (.int .i64 p2.fin), vp2_kids]) varty24 (Hp.cN 2 rfl 0 _ (sub_all rfl) w hw))) ?_
          intro a hE
          obtain ⟨x12, ex12, hm⟩ := bnd hm
          refine s_call (wk0 rfl) rfl rfl hE rfl [(.agg #[(.int .i64 x7.2.kind), (.string x7.2.text), (.int .i64 x7.2.at_), (.int .i64 x7.2.fin), yv1]), (.agg #[(.int .i64 p2.kind), (.string p2.text), (.int .i64 p2.at_), (.int .i64 p2.fin), vp2_kids])] ⟨rfl, rfl, trivial⟩ ent13 (c_distance_Subtrees x7.2 yv1 yh1 p2 vp2_kids (RoSl.mono hp2_kids hley1) hp x12 ex12) Ret.ret ?_
          intro v a w hR hE
          obtain ⟨vr42, usr42, rfl, hp⟩ := Ret.of hR
          have hp : Hp Z ρy1 (TblA 34 3 vr42 usr42 (x12.1 : (List (List Int))) :: _ :: _ :: _ :: _ :: _ :: L) w := hp
          refine s_val (wk0 rfl) rfl rfl hE hp (v := (.tuple #[vr42, (.int .i64 x12.2)])) (ex_move rfl hE rfl) ?_
          intro a hE
          refine s_val (wk0 rfl) rfl rfl hE hp (v := vr42) (ex_extract rfl hE rfl rfl) ?_
          intro a hE
          refine s_val (wk0 rfl) rfl rfl hE hp (v := (.int .i64 x12.2)) (ex_extract rfl hE rfl rfl) ?_
          intro a hE
          refine s_val (wk0 rfl) rfl rfl hE hp (v := vr42) (ex_asn rfl hE rfl) ?_
          intro a hE
          refine s_val (wk0 rfl) rfl rfl hE hp (v := (.int .i64 x12.2)) (ex_asn rfl hE rfl) ?_
          intro a hE
          refine s_nil ?_
          have hE := hE.cut (E' := [(11, (.int .i64 x8.1)), (12, (.int .i64 x8.2)), (13, (.int .i64 x9.1)), (14, (.int .i64 x9.2)), (15, (.int .i64 x10.1)), (16, (.int .i64 x10.2)), (17, (.int .i64 x11.1)), (18, (.int .i64 x11.2)), (19, vr42), (20, (.int .i64 x12.2))]) ⟨rfl, rfl, rfl, rfl, rfl, rfl, rfl, rfl, rfl, rfl, trivial⟩
          refine k_seq ?_
          refine k_region ?_
          refine s_val (wk0 rfl) rfl rfl hE hp (v := (.int .i64 x8.2)) (ex_move rfl hE rfl) ?_
          intro a hE
          refine s_val (wk0 rfl) rfl rfl hE hp (v := (.bool (decide (x8.2 = 0)))) (ex_eql rfl hE rfl rfl) ?_
          intro a hE
          refine s_val (wk0 rfl) rfl rfl hE hp (v := (.bool (decide (x8.2 = 0)))) (ex_move rfl hE rfl) ?_
          intro a hE
          refine s_cut [_, _, _] (fun a w => Env 132 [(79, (.bool ((decide (x8.2 = 0)) && (decide (x9.2 = 0))))), (11, (.int .i64 x8.1)), (13, (.int .i64 x9.1)), (15, (.int .i64 x10.1)), (16, (.int .i64 x10.2)), (17, (.int .i64 x11.1)), (18, (.int .i64 x11.2)), (19, vr42), (20, (.int .i64 x12.2))] a ∧ Hp Z ρy1 (TblA 34 3 vr42 usr42 (x12.1 : (List (List Int))) :: Pt y5 (.cells #[(.int .i64 x7.2.kind), (.string x7.2.text), (.int .i64 x7.2.at_), (.int .i64 x7.2.fin), yv1] 24 (0, 0)) :: Pt y4 (.cells #[(.int .i64 x7.1.kind), (.string x7.1.text), (.int .i64 x7.1.at_), (.int .i64 x7.1.fin), yv2] 24 (0, 0)) :: Pt b3 (.cells #[(.int .i64 p2.kind), (.string p2.text), (.int .i64 p2.at_), (.int .i64 p2.fin), vp2_kids] 24 (0, 0)) :: Pt b2 (.cells #[(.int .i64 p1.kind), (.string p1.text), (.int .i64 p1.at_), (.int .i64 p1.fin), vp1_kids] 24 (0, 0)) :: Pt b1 (.cells #[(.int .i64 p0.kind), (.string p0.text), (.int .i64 p0.at_), (.int .i64 p0.fin), vp0_kids] 24 (0, 0)) :: L) w) ?_ ?_
          · rcases Bool.eq_false_or_eq_true (decide (x8.2 = 0)) with hb4 | hb4
            ·
              refine s_val (wk1 hE rfl rfl rfl hb4) rfl rfl hE hp (v := (.int .i64 x9.2)) (ex_move rfl hE rfl) ?_
              intro a hE
              refine s_val (wk1 hE rfl rfl rfl hb4) rfl rfl hE hp (v := (.bool (decide (x9.2 = 0)))) (ex_eql rfl hE rfl rfl) ?_
              intro a hE
              refine s_val (wk0 rfl) rfl rfl hE hp (v := (.bool (decide (x9.2 = 0)))) (ex_pick1 rfl hE rfl hb4 rfl) ?_
              intro a hE
              have hE := hE.eqv (v' := (.bool ((decide (x8.2 = 0)) && (decide (x9.2 = 0))))) (by rw [hb4]; rfl)
              exact s_nil ⟨hE.cut ⟨rfl, rfl, rfl, rfl, rfl, rfl, rfl, rfl, rfl, trivial⟩, hp⟩
            ·
              refine s_skip (wk2 hE rfl rfl rfl hb4) rfl rfl hE ?_
              intro a hE
              refine s_skip (wk2 hE rfl rfl rfl hb4) rfl rfl hE ?_
              intro a hE
              refine s_val (wk0 rfl) rfl rfl hE hp (v := (.bool false)) (ex_pick0 rfl hE rfl hb4 rfl) ?_
              intro a hE
              have hE := hE.eqv (v' := (.bool ((decide (x8.2 = 0)) && (decide (x9.2 = 0))))) (by rw [hb4]; rfl)
              exact s_nil ⟨hE.cut ⟨rfl, rfl, rfl, rfl, rfl, rfl, rfl, rfl, rfl, trivial⟩, hp⟩
          · rintro a w ⟨hE, hp⟩
            refine s_val (wk0 rfl) rfl rfl hE hp (v := (.bool ((decide (x8.2 = 0)) && (decide (x9.2 = 0))))) (ex_move rfl hE rfl) ?_
            intro a hE
            refine s_cut [_, _, _] (fun a w => Env 132 [(83, (.bool (((decide (x8.2 = 0)) && (decide (x9.2 = 0))) && (decide (x10.2 = 0))))), (11, (.int .i64 x8.1)), (13, (.int .i64 x9.1)), (15, (.int .i64 x10.1)), (17, (.int .i64 x11.1)), (18, (.int .i64 x11.2)), (19, vr42), (20, (.int .i64 x12.2))] a ∧ Hp Z ρy1 (TblA 34 3 vr42 usr42 (x12.1 : (List (List Int))) :: Pt y5 (.cells #[(.int .i64 x7.2.kind), (.string x7.2.text), (.int .i64 x7.2.at_), (.int .i64 x7.2.fin), yv1] 24 (0, 0)) :: Pt y4 (.cells #[(.int .i64 x7.1.kind), (.string x7.1.text), (.int .i64 x7.1.at_), (.int .i64 x7.1.fin), yv2] 24 (0, 0)) :: Pt b3 (.cells #[(.int .i64 p2.kind), (.string p2.text), (.int .i64 p2.at_), (.int .i64 p2.fin), vp2_kids] 24 (0, 0)) :: Pt b2 (.cells #[(.int .i64 p1.kind), (.string p1.text), (.int .i64 p1.at_), (.int .i64 p1.fin), vp1_kids] 24 (0, 0)) :: Pt b1 (.cells #[(.int .i64 p0.kind), (.string p0.text), (.int .i64 p0.at_), (.int .i64 p0.fin), vp0_kids] 24 (0, 0)) :: L) w) ?_ ?_
            · rcases Bool.eq_false_or_eq_true ((decide (x8.2 = 0)) && (decide (x9.2 = 0))) with hb5 | hb5
              ·
                refine s_val (wk1 hE rfl rfl rfl hb5) rfl rfl hE hp (v := (.int .i64 x10.2)) (ex_move rfl hE rfl) ?_
                intro a hE
                refine s_val (wk1 hE rfl rfl rfl hb5) rfl rfl hE hp (v := (.bool (decide (x10.2 = 0)))) (ex_eql rfl hE rfl rfl) ?_
                intro a hE
                refine s_val (wk0 rfl) rfl rfl hE hp (v := (.bool (decide (x10.2 = 0)))) (ex_pick1 rfl hE rfl hb5 rfl) ?_
                intro a hE
                have hE := hE.eqv (v' := (.bool (((decide (x8.2 = 0)) && (decide (x9.2 = 0))) && (decide (x10.2 = 0))))) (by rw [hb5]; rfl)
                exact s_nil ⟨hE.cut ⟨rfl, rfl, rfl, rfl, rfl, rfl, rfl, rfl, trivial⟩, hp⟩
              ·
                refine s_skip (wk2 hE rfl rfl rfl hb5) rfl rfl hE ?_
                intro a hE
                refine s_skip (wk2 hE rfl rfl rfl hb5) rfl rfl hE ?_
                intro a hE
                refine s_val (wk0 rfl) rfl rfl hE hp (v := (.bool false)) (ex_pick0 rfl hE rfl hb5 rfl) ?_
                intro a hE
                have hE := hE.eqv (v' := (.bool (((decide (x8.2 = 0)) && (decide (x9.2 = 0))) && (decide (x10.2 = 0))))) (by rw [hb5]; rfl)
                exact s_nil ⟨hE.cut ⟨rfl, rfl, rfl, rfl, rfl, rfl, rfl, rfl, trivial⟩, hp⟩
            · rintro a w ⟨hE, hp⟩
              refine s_val (wk0 rfl) rfl rfl hE hp (v := (.bool (((decide (x8.2 = 0)) && (decide (x9.2 = 0))) && (decide (x10.2 = 0))))) (ex_move rfl hE rfl) ?_
              intro a hE
              refine s_cut [_, _, _] (fun a w => Env 132 [(87, (.bool ((((decide (x8.2 = 0)) && (decide (x9.2 = 0))) && (decide (x10.2 = 0))) && (decide (x11.2 = 0))))), (11, (.int .i64 x8.1)), (13, (.int .i64 x9.1)), (15, (.int .i64 x10.1)), (17, (.int .i64 x11.1)), (19, vr42), (20, (.int .i64 x12.2))] a ∧ Hp Z ρy1 (TblA 34 3 vr42 usr42 (x12.1 : (List (List Int))) :: Pt y5 (.cells #[(.int .i64 x7.2.kind), (.string x7.2.text), (.int .i64 x7.2.at_), (.int .i64 x7.2.fin), yv1] 24 (0, 0)) :: Pt y4 (.cells #[(.int .i64 x7.1.kind), (.string x7.1.text), (.int .i64 x7.1.at_), (.int .i64 x7.1.fin), yv2] 24 (0, 0)) :: Pt b3 (.cells #[(.int .i64 p2.kind), (.string p2.text), (.int .i64 p2.at_), (.int .i64 p2.fin), vp2_kids] 24 (0, 0)) :: Pt b2 (.cells #[(.int .i64 p1.kind), (.string p1.text), (.int .i64 p1.at_), (.int .i64 p1.fin), vp1_kids] 24 (0, 0)) :: Pt b1 (.cells #[(.int .i64 p0.kind), (.string p0.text), (.int .i64 p0.at_), (.int .i64 p0.fin), vp0_kids] 24 (0, 0)) :: L) w) ?_ ?_
              · rcases Bool.eq_false_or_eq_true (((decide (x8.2 = 0)) && (decide (x9.2 = 0))) && (decide (x10.2 = 0))) with hb6 | hb6
                ·
                  refine s_val (wk1 hE rfl rfl rfl hb6) rfl rfl hE hp (v := (.int .i64 x11.2)) (ex_move rfl hE rfl) ?_
                  intro a hE
                  refine s_val (wk1 hE rfl rfl rfl hb6) rfl rfl hE hp (v := (.bool (decide (x11.2 = 0)))) (ex_eql rfl hE rfl rfl) ?_
                  intro a hE
                  refine s_val (wk0 rfl) rfl rfl hE hp (v := (.bool (decide (x11.2 = 0)))) (ex_pick1 rfl hE rfl hb6 rfl) ?_
                  intro a hE
                  have hE := hE.eqv (v' := (.bool ((((decide (x8.2 = 0)) && (decide (x9.2 = 0))) && (decide (x10.2 = 0))) && (decide (x11.2 = 0))))) (by rw [hb6]; rfl)
                  exact s_nil ⟨hE.cut ⟨rfl, rfl, rfl, rfl, rfl, rfl, rfl, trivial⟩, hp⟩
                ·
                  refine s_skip (wk2 hE rfl rfl rfl hb6) rfl rfl hE ?_
                  intro a hE
                  refine s_skip (wk2 hE rfl rfl rfl hb6) rfl rfl hE ?_
                  intro a hE
                  refine s_val (wk0 rfl) rfl rfl hE hp (v := (.bool false)) (ex_pick0 rfl hE rfl hb6 rfl) ?_
                  intro a hE
                  have hE := hE.eqv (v' := (.bool ((((decide (x8.2 = 0)) && (decide (x9.2 = 0))) && (decide (x10.2 = 0))) && (decide (x11.2 = 0))))) (by rw [hb6]; rfl)
                  exact s_nil ⟨hE.cut ⟨rfl, rfl, rfl, rfl, rfl, rfl, rfl, trivial⟩, hp⟩
              · rintro a w ⟨hE, hp⟩
                refine s_val (wk0 rfl) rfl rfl hE hp (v := (.bool ((((decide (x8.2 = 0)) && (decide (x9.2 = 0))) && (decide (x10.2 = 0))) && (decide (x11.2 = 0))))) (ex_move rfl hE rfl) ?_
                intro a hE
                refine s_cut [_, _, _] (fun a w => Env 132 [(91, (.bool (((((decide (x8.2 = 0)) && (decide (x9.2 = 0))) && (decide (x10.2 = 0))) && (decide (x11.2 = 0))) && (decide (x12.2 = 0))))), (11, (.int .i64 x8.1)), (13, (.int .i64 x9.1)), (15, (.int .i64 x10.1)), (17, (.int .i64 x11.1)), (19, vr42)] a ∧ Hp Z ρy1 (TblA 34 3 vr42 usr42 (x12.1 : (List (List Int))) :: Pt y5 (.cells #[(.int .i64 x7.2.kind), (.string x7.2.text), (.int .i64 x7.2.at_), (.int .i64 x7.2.fin), yv1] 24 (0, 0)) :: Pt y4 (.cells #[(.int .i64 x7.1.kind), (.string x7.1.text), (.int .i64 x7.1.at_), (.int .i64 x7.1.fin), yv2] 24 (0, 0)) :: Pt b3 (.cells #[(.int .i64 p2.kind), (.string p2.text), (.int .i64 p2.at_), (.int .i64 p2.fin), vp2_kids] 24 (0, 0)) :: Pt b2 (.cells #[(.int .i64 p1.kind), (.string p1.text), (.int .i64 p1.at_), (.int .i64 p1.fin), vp1_kids] 24 (0, 0)) :: Pt b1 (.cells #[(.int .i64 p0.kind), (.string p0.text), (.int .i64 p0.at_), (.int .i64 p0.fin), vp0_kids] 24 (0, 0)) :: L) w) ?_ ?_
                · rcases Bool.eq_false_or_eq_true ((((decide (x8.2 = 0)) && (decide (x9.2 = 0))) && (decide (x10.2 = 0))) && (decide (x11.2 = 0))) with hb7 | hb7
                  ·
                    refine s_val (wk1 hE rfl rfl rfl hb7) rfl rfl hE hp (v := (.int .i64 x12.2)) (ex_move rfl hE rfl) ?_
                    intro a hE
                    refine s_val (wk1 hE rfl rfl rfl hb7) rfl rfl hE hp (v := (.bool (decide (x12.2 = 0)))) (ex_eql rfl hE rfl rfl) ?_
                    intro a hE
                    refine s_val (wk0 rfl) rfl rfl hE hp (v := (.bool (decide (x12.2 = 0)))) (ex_pick1 rfl hE rfl hb7 rfl) ?_
                    intro a hE
                    have hE := hE.eqv (v' := (.bool (((((decide (x8.2 = 0)) && (decide (x9.2 = 0))) && (decide (x10.2 = 0))) && (decide (x11.2 = 0))) && (decide (x12.2 = 0))))) (by rw [hb7]; rfl)
                    exact s_nil ⟨hE.cut ⟨rfl, rfl, rfl, rfl, rfl, rfl, trivial⟩, hp⟩
                  ·
                    refine s_skip (wk2 hE rfl rfl rfl hb7) rfl rfl hE ?_
                    intro a hE
                    refine s_skip (wk2 hE rfl rfl rfl hb7) rfl rfl hE ?_
                    intro a hE
                    refine s_val (wk0 rfl) rfl rfl hE hp (v := (.bool false)) (ex_pick0 rfl hE rfl hb7 rfl) ?_
                    intro a hE
                    have hE := hE.eqv (v' := (.bool (((((decide (x8.2 = 0)) && (decide (x9.2 = 0))) && (decide (x10.2 = 0))) && (decide (x11.2 = 0))) && (decide (x12.2 = 0))))) (by rw [hb7]; rfl)
                    exact s_nil ⟨hE.cut ⟨rfl, rfl, rfl, rfl, rfl, rfl, trivial⟩, hp⟩
                · rintro a w ⟨hE, hp⟩
                  refine s_val (wk0 rfl) rfl rfl hE hp (v := (.bool (((((decide (x8.2 = 0)) && (decide (x9.2 = 0))) && (decide (x10.2 = 0))) && (decide (x11.2 = 0))) && (decide (x12.2 = 0))))) (ex_move rfl hE rfl) ?_
                  intro a hE
                  obtain ⟨m2, hg2, hm⟩ := bnd hm
                  refine s_cut [_, _, _, _, _, _] (fun a w => Env 132 [(98, (.bool m2)), (11, (.int .i64 x8.1)), (13, (.int .i64 x9.1)), (15, (.int .i64 x10.1)), (17, (.int .i64 x11.1)), (19, vr42)] a ∧ Hp Z ρy1 (TblA 34 3 vr42 usr42 (x12.1 : (List (List Int))) :: Pt y5 (.cells #[(.int .i64 x7.2.kind), (.string x7.2.text), (.int .i64 x7.2.at_), (.int .i64 x7.2.fin), yv1] 24 (0, 0)) :: Pt y4 (.cells #[(.int .i64 x7.1.kind), (.string x7.1.text), (.int .i64 x7.1.at_), (.int .i64 x7.1.fin), yv2] 24 (0, 0)) :: Pt b3 (.cells #[(.int .i64 p2.kind), (.string p2.text), (.int .i64 p2.at_), (.int .i64 p2.fin), vp2_kids] 24 (0, 0)) :: Pt b2 (.cells #[(.int .i64 p1.kind), (.string p1.text), (.int .i64 p1.at_), (.int .i64 p1.fin), vp1_kids] 24 (0, 0)) :: Pt b1 (.cells #[(.int .i64 p0.kind), (.string p0.text), (.int .i64 p0.at_), (.int .i64 p0.fin), vp0_kids] 24 (0, 0)) :: L) w) ?_ ?_
                  · rcases Bool.eq_false_or_eq_true (((((decide (x8.2 = 0)) && (decide (x9.2 = 0))) && (decide (x10.2 = 0))) && (decide (x11.2 = 0))) && (decide (x12.2 = 0))) with hb8 | hb8
                    ·
                      replace hg2 := (it hb8).symm.trans hg2
                      refine s_val (wk1 hE rfl rfl rfl hb8) rfl rfl hE hp (v := (.int .i64 x8.1)) (ex_move rfl hE rfl) ?_
                      intro a hE
                      refine s_val (wk1 hE rfl rfl rfl hb8) rfl rfl hE hp (v := (.int .i64 x9.1)) (ex_move rfl hE rfl) ?_
                      intro a hE
                      obtain ⟨x13, ex13, hg2⟩ := bnd hg2
                      refine s_val (wk1 hE rfl rfl rfl hb8) rfl rfl hE hp (v := (.int .i64 x13)) (ex_sub rfl hE rfl rfl (inK_some ex13)) ?_
                      intro a hE
                      refine s_val (wk1 hE rfl rfl rfl hb8) rfl rfl hE hp (v := (.int .i64 x10.1)) (ex_move rfl hE rfl) ?_
                      intro a hE
                      refine s_val (wk1 hE rfl rfl rfl hb8) rfl rfl hE hp (v := (.bool (decide (x13 ≤ x10.1)))) (ex_leq rfl hE rfl rfl) ?_
                      intro a hE
                      refine s_val (wk0 rfl) rfl rfl hE hp (v := (.bool (decide (x13 ≤ x10.1)))) (ex_pick1 rfl hE rfl hb8 rfl) ?_
                      intro a hE
                      obtain rfl := Option.some.inj hg2
                      exact s_nil ⟨hE.cut ⟨rfl, rfl, rfl, rfl, rfl, rfl, trivial⟩, hp⟩
                    ·
                      replace hg2 := (ie hb8).symm.trans hg2
                      refine s_skip (wk2 hE rfl rfl rfl hb8) rfl rfl hE ?_
                      intro a hE
                      refine s_skip (wk2 hE rfl rfl rfl hb8) rfl rfl hE ?_
                      intro a hE
                      refine s_skip (wk2 hE rfl rfl rfl hb8) rfl rfl hE ?_
                      intro a hE
                      refine s_skip (wk2 hE rfl rfl rfl hb8) rfl rfl hE ?_
                      intro a hE
                      refine s_skip (wk2 hE rfl rfl rfl hb8) rfl rfl hE ?_
                      intro a hE
                      refine s_val (wk0 rfl) rfl rfl hE hp (v := (.bool false)) (ex_pick0 rfl hE rfl hb8 rfl) ?_
                      intro a hE
                      obtain rfl := Option.some.inj hg2
                      exact s_nil ⟨hE.cut ⟨rfl, rfl, rfl, rfl, rfl, rfl, trivial⟩, hp⟩
                  · rintro a w ⟨hE, hp⟩
                    refine s_val (wk0 rfl) rfl rfl hE hp (v := (.bool m2)) (ex_move rfl hE rfl) ?_
                    intro a hE
                    obtain ⟨m3, hg3, hm⟩ := bnd hm
                    refine s_cut [_, _, _, _, _, _] (fun a w => Env 132 [(105, (.bool m3)), (15, (.int .i64 x10.1)), (17, (.int .i64 x11.1)), (19, vr42)] a ∧ Hp Z ρy1 (TblA 34 3 vr42 usr42 (x12.1 : (List (List Int))) :: Pt y5 (.cells #[(.int .i64 x7.2.kind), (.string x7.2.text), (.int .i64 x7.2.at_), (.int .i64 x7.2.fin), yv1] 24 (0, 0)) :: Pt y4 (.cells #[(.int .i64 x7.1.kind), (.string x7.1.text), (.int .i64 x7.1.at_), (.int .i64 x7.1.fin), yv2] 24 (0, 0)) :: Pt b3 (.cells #[(.int .i64 p2.kind), (.string p2.text), (.int .i64 p2.at_), (.int .i64 p2.fin), vp2_kids] 24 (0, 0)) :: Pt b2 (.cells #[(.int .i64 p1.kind), (.string p1.text), (.int .i64 p1.at_), (.int .i64 p1.fin), vp1_kids] 24 (0, 0)) :: Pt b1 (.cells #[(.int .i64 p0.kind), (.string p0.text), (.int .i64 p0.at_), (.int .i64 p0.fin), vp0_kids] 24 (0, 0)) :: L) w) ?_ ?_
                    · rcases Bool.eq_false_or_eq_true m2 with hb9 | hb9
                      ·
                        replace hg3 := (it hb9).symm.trans hg3
                        refine s_val (wk1 hE rfl rfl rfl hb9) rfl rfl hE hp (v := (.int .i64 x9.1)) (ex_move rfl hE rfl) ?_
                        intro a hE
                        refine s_val (wk1 hE rfl rfl rfl hb9) rfl rfl hE hp (v := (.int .i64 x8.1)) (ex_move rfl hE rfl) ?_
                        intro a hE
                        obtain ⟨x14, ex14, hg3⟩ := bnd hg3
                        refine s_val (wk1 hE rfl rfl rfl hb9) rfl rfl hE hp (v := (.int .i64 x14)) (ex_sub rfl hE rfl rfl (inK_some ex14)) ?_
                        intro a hE
                        refine s_val (wk1 hE rfl rfl rfl hb9) rfl rfl hE hp (v := (.int .i64 x10.1)) (ex_move rfl hE rfl) ?_
                        intro a hE
                        refine s_val (wk1 hE rfl rfl rfl hb9) rfl rfl hE hp (v := (.bool (decide (x14 ≤ x10.1)))) (ex_leq rfl hE rfl rfl) ?_
                        intro a hE
                        refine s_val (wk0 rfl) rfl rfl hE hp (v := (.bool (decide (x14 ≤ x10.1)))) (ex_pick1 rfl hE rfl hb9 rfl) ?_
                        intro a hE
                        obtain rfl := Option.some.inj hg3
                        exact s_nil ⟨hE.cut ⟨rfl, rfl, rfl, rfl, trivial⟩, hp⟩
                      ·
                        replace hg3 := (ie hb9).symm.trans hg3
                        refine s_skip (wk2 hE rfl rfl rfl hb9) rfl rfl hE ?_
                        intro a hE
                        refine s_skip (wk2 hE rfl rfl rfl hb9) rfl rfl hE ?_
                        intro a hE
                        refine s_skip (wk2 hE rfl rfl rfl hb9) rfl rfl hE ?_
                        intro a hE
                        refine s_skip (wk2 hE rfl rfl rfl hb9) rfl rfl hE ?_
                        intro a hE
                        refine s_skip (wk2 hE rfl rfl rfl hb9) rfl rfl hE ?_
                        intro a hE
                        refine s_val (wk0 rfl) rfl rfl hE hp (v := (.bool false)) (ex_pick0 rfl hE rfl hb9 rfl) ?_
                        intro a hE
                        obtain rfl := Option.some.inj hg3
                        exact s_nil ⟨hE.cut ⟨rfl, rfl, rfl, rfl, trivial⟩, hp⟩
                    · rintro a w ⟨hE, hp⟩
                      refine s_val (wk0 rfl) rfl rfl hE hp (v := (.bool m3)) (ex_move rfl hE rfl) ?_
                      intro a hE
                      refine s_cut [_, _, _, _] (fun a w => Env 132 [(110, (.bool (m3 && (decide (x11.1 ≤ x10.1))))), (15, (.int .i64 x10.1)), (19, vr42)] a ∧ Hp Z ρy1 (TblA 34 3 vr42 usr42 (x12.1 : (List (List Int))) :: Pt y5 (.cells #[(.int .i64 x7.2.kind), (.string x7.2.text), (.int .i64 x7.2.at_), (.int .i64 x7.2.fin), yv1] 24 (0, 0)) :: Pt y4 (.cells #[(.int .i64 x7.1.kind), (.string x7.1.text), (.int .i64 x7.1.at_), (.int .i64 x7.1.fin), yv2] 24 (0, 0)) :: Pt b3 (.cells #[(.int .i64 p2.kind), (.string p2.text), (.int .i64 p2.at_), (.int .i64 p2.fin), vp2_kids] 24 (0, 0)) :: Pt b2 (.cells #[(.int .i64 p1.kind), (.string p1.text), (.int .i64 p1.at_), (.int .i64 p1.fin), vp1_kids] 24 (0, 0)) :: Pt b1 (.cells #[(.int .i64 p0.kind), (.string p0.text), (.int .i64 p0.at_), (.int .i64 p0.fin), vp0_kids] 24 (0, 0)) :: L) w) ?_ ?_
                      · rcases Bool.eq_false_or_eq_true m3 with hb10 | hb10
                        ·
                          refine s_val (wk1 hE rfl rfl rfl hb10) rfl rfl hE hp (v := (.int .i64 x11.1)) (ex_move rfl hE rfl) ?_
                          intro a hE
                          refine s_val (wk1 hE rfl rfl rfl hb10) rfl rfl hE hp (v := (.int .i64 x10.1)) (ex_move rfl hE rfl) ?_
                          intro a hE
                          refine s_val (wk1 hE rfl rfl rfl hb10) rfl rfl hE hp (v := (.bool (decide (x11.1 ≤ x10.1)))) (ex_leq rfl hE rfl rfl) ?_
                          intro a hE
                          refine s_val (wk0 rfl) rfl rfl hE hp (v := (.bool (decide (x11.1 ≤ x10.1)))) (ex_pick1 rfl hE rfl hb10 rfl) ?_
                          intro a hE
                          have hE := hE.eqv (v' := (.bool (m3 && (decide (x11.1 ≤ x10.1))))) (by rw [hb10]; rfl)
                          exact s_nil ⟨hE.cut ⟨rfl, rfl, rfl, trivial⟩, hp⟩
                        ·
                          refine s_skip (wk2 hE rfl rfl rfl hb10) rfl rfl hE ?_
                          intro a hE
                          refine s_skip (wk2 hE rfl rfl rfl hb10) rfl rfl hE ?_
                          intro a hE
                          refine s_skip (wk2 hE rfl rfl rfl hb10) rfl rfl hE ?_
                          intro a hE
                          refine s_val (wk0 rfl) rfl rfl hE hp (v := (.bool false)) (ex_pick0 rfl hE rfl hb10 rfl) ?_
                          intro a hE
                          have hE := hE.eqv (v' := (.bool (m3 && (decide (x11.1 ≤ x10.1))))) (by rw [hb10]; rfl)
                          exact s_nil ⟨hE.cut ⟨rfl, rfl, rfl, trivial⟩, hp⟩
                      · rintro a w ⟨hE, hp⟩
                        refine s_val (wk0 rfl) rfl rfl hE hp (v := (.bool (m3 && (decide (x11.1 ≤ x10.1))))) (ex_move rfl hE rfl) ?_
                        intro a hE
                        refine s_cut [_, _, _, _] (fun a w => Env 132 [(115, (.bool ((m3 && (decide (x11.1 ≤ x10.1))) && (decide (0 < (x12.1.length : Int)))))), (15, (.int .i64 x10.1)), (19, vr42)] a ∧ Hp Z ρy1 (TblA 34 3 vr42 usr42 (x12.1 : (List (List Int))) :: Pt y5 (.cells #[(.int .i64 x7.2.kind), (.string x7.2.text), (.int .i64 x7.2.at_), (.int .i64 x7.2.fin), yv1] 24 (0, 0)) :: Pt y4 (.cells #[(.int .i64 x7.1.kind), (.string x7.1.text), (.int .i64 x7.1.at_), (.int .i64 x7.1.fin), yv2] 24 (0, 0)) :: Pt b3 (.cells #[(.int .i64 p2.kind), (.string p2.text), (.int .i64 p2.at_), (.int .i64 p2.fin), vp2_kids] 24 (0, 0)) :: Pt b2 (.cells #[(.int .i64 p1.kind), (.string p1.text), (.int .i64 p1.at_), (.int .i64 p1.fin), vp1_kids] 24 (0, 0)) :: Pt b1 (.cells #[(.int .i64 p0.kind), (.string p0.text), (.int .i64 p0.at_), (.int .i64 p0.fin), vp0_kids] 24 (0, 0)) :: L) w) ?_ ?_
                        · rcases Bool.eq_false_or_eq_true (m3 && (decide (x11.1 ≤ x10.1))) with hb11 | hb11
                          ·
                            refine s_val (wk1 hE rfl rfl rfl hb11) rfl rfl hE hp (v := vr42) (ex_move rfl hE rfl) ?_
                            intro a hE
                            refine s_val (wk1 hE rfl rfl rfl hb11) rfl rfl hE hp (v := (.int .i64 (x12.1.length : Int))) (ex_len rfl hE rfl (TblA.len hp 0 rfl slty30)) ?_
                            intro a hE
                            refine s_val (wk1 hE rfl rfl rfl hb11) rfl rfl hE hp (v := (.bool (decide (0 < (x12.1.length : Int))))) (ex_gtr rfl hE rfl rfl) ?_
                            intro a hE
                            refine s_val (wk0 rfl) rfl rfl hE hp (v := (.bool (decide (0 < (x12.1.length : Int))))) (ex_pick1 rfl hE rfl hb11 rfl) ?_
                            intro a hE
                            have hE := hE.eqv (v' := (.bool ((m3 && (decide (x11.1 ≤ x10.1))) && (decide (0 < (x12.1.length : Int)))))) (by rw [hb11]; rfl)
                            exact s_nil ⟨hE.cut ⟨rfl, rfl, rfl, trivial⟩, hp⟩
                          ·
                            refine s_skip (wk2 hE rfl rfl rfl hb11) rfl rfl hE ?_
                            intro a hE
                            refine s_skip (wk2 hE rfl rfl rfl hb11) rfl rfl hE ?_
                            intro a hE
                            refine s_skip (wk2 hE rfl rfl rfl hb11) rfl rfl hE ?_
                            intro a hE
                            refine s_val (wk0 rfl) rfl rfl hE hp (v := (.bool false)) (ex_pick0 rfl hE rfl hb11 rfl) ?_
                            intro a hE
                            have hE := hE.eqv (v' := (.bool ((m3 && (decide (x11.1 ≤ x10.1))) && (decide (0 < (x12.1.length : Int)))))) (by rw [hb11]; rfl)
                            exact s_nil ⟨hE.cut ⟨rfl, rfl, rfl, trivial⟩, hp⟩
                        · rintro a w ⟨hE, hp⟩
                          refine s_val (wk0 rfl) rfl rfl hE hp (v := (.bool ((m3 && (decide (x11.1 ≤ x10.1))) && (decide (0 < (x12.1.length : Int)))))) (ex_move rfl hE rfl) ?_
                          intro a hE
                          obtain ⟨m4, hg4, hm⟩ := bnd hm
                          refine s_cut [_, _, _, _, _, _] (fun a w => Env 132 [(122, (.bool m4)), (15, (.int .i64 x10.1)), (19, vr42)] a ∧ Hp Z ρy1 (TblA 34 3 vr42 usr42 (x12.1 : (List (List Int))) :: Pt y5 (.cells #[(.int .i64 x7.2.kind), (.string x7.2.text), (.int .i64 x7.2.at_), (.int .i64 x7.2.fin), yv1] 24 (0, 0)) :: Pt y4 (.cells #[(.int .i64 x7.1.kind), (.string x7.1.text), (.int .i64 x7.1.at_), (.int .i64 x7.1.fin), yv2] 24 (0, 0)) :: Pt b3 (.cells #[(.int .i64 p2.kind), (.string p2.text), (.int .i64 p2.at_), (.int .i64 p2.fin), vp2_kids] 24 (0, 0)) :: Pt b2 (.cells #[(.int .i64 p1.kind), (.string p1.text), (.int .i64 p1.at_), (.int .i64 p1.fin), vp1_kids] 24 (0, 0)) :: Pt b1 (.cells #[(.int .i64 p0.kind), (.string p0.text), (.int .i64 p0.at_), (.int .i64 p0.fin), vp0_kids] 24 (0, 0)) :: L) w) ?_ ?_
                          · rcases Bool.eq_false_or_eq_true ((m3 && (decide (x11.1 ≤ x10.1))) && (decide (0 < (x12.1.length : Int)))) with hb12 | hb12
                            ·
                              replace hg4 := (it hb12).symm.trans hg4
                              refine s_val (wk1 hE rfl rfl rfl hb12) rfl rfl hE hp (v := vr42) (ex_move rfl hE rfl) ?_
                              intro a hE
                              obtain ⟨x15, ex15, hg4⟩ := bnd hg4
                              obtain ⟨b24u, b24, b24o, b24h, b24r, b24v, b24f⟩ := TblA.hdr hp 0 rfl slty30 ex15
                              have b24f : ∀ (j : Nat) (u : Value), ([(Sl.v b24u)] : List Value)[j]? = some u → ∀ ρ' L' w, Hp Z ρ' (TblA 34 3 vr42 usr42 (x12.1 : (List (List Int))) :: L') w → w.cell? ⟨b24, b24o + j, none⟩ = some u := b24f
                              refine s_val (wk1 hE rfl rfl rfl hb12) rfl rfl hE hp (v := (.pointer (some ⟨b24, b24o, none⟩))) (ex_index rfl hE rfl rfl b24r) ?_
                              intro a hE
                              refine s_val (wk1 hE rfl rfl rfl hb12) rfl rfl hE hp (v := (Sl.v b24u)) (ex_load rfl hE rfl (fun w hw => run_ld1 varty34 (b24f 0 _ rfl _ _ w (hw.get 0 rfl)))) ?_
                              intro a hE
                              refine s_val (wk1 hE rfl rfl rfl hb12) rfl rfl hE hp (v := (.int .i64 (x15.length : Int))) (ex_len rfl hE rfl (TblA.rlen hp 0 rfl slty34 b24h ex15)) ?_
                              intro a hE
                              refine s_val (wk1 hE rfl rfl rfl hb12) rfl rfl hE hp (v := (.bool (decide (0 < (x15.length : Int))))) (ex_gtr rfl hE rfl rfl) ?_
                              intro a hE
                              refine s_val (wk0 rfl) rfl rfl hE hp (v := (.bool (decide (0 < (x15.length : Int))))) (ex_pick1 rfl hE rfl hb12 rfl) ?_
                              intro a hE
                              obtain rfl := Option.some.inj hg4
                              exact s_nil ⟨hE.cut ⟨rfl, rfl, rfl, trivial⟩, hp⟩
                            ·
                              replace hg4 := (ie hb12).symm.trans hg4
                              refine s_skip (wk2 hE rfl rfl rfl hb12) rfl rfl hE ?_
                              intro a hE
                              refine s_skip (wk2 hE rfl rfl rfl hb12) rfl rfl hE ?_
                              intro a hE
                              refine s_skip (wk2 hE rfl rfl rfl hb12) rfl rfl hE ?_
                              intro a hE
                              refine s_skip (wk2 hE rfl rfl rfl hb12) rfl rfl hE ?_
                              intro a hE
                              refine s_skip (wk2 hE rfl rfl rfl hb12) rfl rfl hE ?_
                              intro a hE
                              refine s_val (wk0 rfl) rfl rfl hE hp (v := (.bool false)) (ex_pick0 rfl hE rfl hb12 rfl) ?_
                              intro a hE
                              obtain rfl := Option.some.inj hg4
                              exact s_nil ⟨hE.cut ⟨rfl, rfl, rfl, trivial⟩, hp⟩
                          · rintro a w ⟨hE, hp⟩
                            refine s_val (wk0 rfl) rfl rfl hE hp (v := (.bool m4)) (ex_move rfl hE rfl) ?_
                            intro a hE
                            obtain ⟨m5, hg5, hm⟩ := bnd hm
                            refine s_cut [_, _, _, _, _, _, _, _] (fun a w => Env 132 [(131, (.bool m5))] a ∧ Hp Z ρy1 (TblA 34 3 vr42 usr42 (x12.1 : (List (List Int))) :: Pt y5 (.cells #[(.int .i64 x7.2.kind), (.string x7.2.text), (.int .i64 x7.2.at_), (.int .i64 x7.2.fin), yv1] 24 (0, 0)) :: Pt y4 (.cells #[(.int .i64 x7.1.kind), (.string x7.1.text), (.int .i64 x7.1.at_), (.int .i64 x7.1.fin), yv2] 24 (0, 0)) :: Pt b3 (.cells #[(.int .i64 p2.kind), (.string p2.text), (.int .i64 p2.at_), (.int .i64 p2.fin), vp2_kids] 24 (0, 0)) :: Pt b2 (.cells #[(.int .i64 p1.kind), (.string p1.text), (.int .i64 p1.at_), (.int .i64 p1.fin), vp1_kids] 24 (0, 0)) :: Pt b1 (.cells #[(.int .i64 p0.kind), (.string p0.text), (.int .i64 p0.at_), (.int .i64 p0.fin), vp0_kids] 24 (0, 0)) :: L) w) ?_ ?_
                            · rcases Bool.eq_false_or_eq_true m4 with hb13 | hb13
                              ·
                                replace hg5 := (it hb13).symm.trans hg5
                                refine s_val (wk1 hE rfl rfl rfl hb13) rfl rfl hE hp (v := vr42) (ex_move rfl hE rfl) ?_
                                intro a hE
                                obtain ⟨x16, ex16, hg5⟩ := bnd hg5
                                obtain ⟨b25u, b25, b25o, b25h, b25r, b25v, b25f⟩ := TblA.hdr hp 0 rfl slty30 ex16
                                have b25f : ∀ (j : Nat) (u : Value), ([(Sl.v b25u)] : List Value)[j]? = some u → ∀ ρ' L' w, Hp Z ρ' (TblA 34 3 vr42 usr42 (x12.1 : (List (List Int))) :: L') w → w.cell? ⟨b25, b25o + j, none⟩ = some u := b25f
                                refine s_val (wk1 hE rfl rfl rfl hb13) rfl rfl hE hp (v := (.pointer (some ⟨b25, b25o, none⟩))) (ex_index rfl hE rfl rfl b25r) ?_
                                intro a hE
                                refine s_val (wk1 hE rfl rfl rfl hb13) rfl rfl hE hp (v := (Sl.v b25u)) (ex_load rfl hE rfl (fun w hw => run_ld1 varty34 (b25f 0 _ rfl _ _ w (hw.get 0 rfl)))) ?_
                                intro a hE
                                obtain ⟨x17, ex17, hg5⟩ := bnd hg5
                                obtain ⟨b26, b26o, b26r, b26v, b26f⟩ := TblA.at hp 0 rfl slty34 b25h ex16 ex17
                                have b26f : ∀ (j : Nat) (u : Value), ([(.int .i64 x17)] : List Value)[j]? = some u → ∀ ρ' L' w, Hp Z ρ' (TblA 34 3 vr42 usr42 (x12.1 : (List (List Int))) :: L') w → w.cell? ⟨b26, b26o + j, none⟩ = some u := b26f
                                refine s_val (wk1 hE rfl rfl rfl hb13) rfl rfl hE hp (v := (.pointer (some ⟨b26, b26o, none⟩))) (ex_index rfl hE rfl rfl b26r) ?_
                                intro a hE
                                refine s_val (wk1 hE rfl rfl rfl hb13) rfl rfl hE hp (v := (.int .i64 x17)) (ex_load rfl hE rfl (fun w hw => run_ld1 varty3 (b26f 0 _ rfl _ _ w (hw.get 0 rfl)))) ?_
                                intro a hE
                                refine s_val (wk1 hE rfl rfl rfl hb13) rfl rfl hE hp (v := (.int .i64 x10.1)) (ex_move rfl hE rfl) ?_
                                intro a hE
                                refine s_val (wk1 hE rfl rfl rfl hb13) rfl rfl hE hp (v := (.bool (decide (x17 = x10.1)))) (ex_eql rfl hE rfl rfl) ?_
                                intro a hE
                                refine s_val (wk0 rfl) rfl rfl hE hp (v := (.bool (decide (x17 = x10.1)))) (ex_pick1 rfl hE rfl hb13 rfl) ?_
                                intro a hE
                                obtain rfl := Option.some.inj hg5
                                exact s_nil ⟨hE.cut ⟨rfl, trivial⟩, hp⟩
                              ·
                                replace hg5 := (ie hb13).symm.trans hg5
                                refine s_skip (wk2 hE rfl rfl rfl hb13) rfl rfl hE ?_
                                intro a hE
                                refine s_skip (wk2 hE rfl rfl rfl hb13) rfl rfl hE ?_
                                intro a hE
                                refine s_skip (wk2 hE rfl rfl rfl hb13) rfl rfl hE ?_
                                intro a hE
                                refine s_skip (wk2 hE rfl rfl rfl hb13) rfl rfl hE ?_
                                intro a hE
                                refine s_skip (wk2 hE rfl rfl rfl hb13) rfl rfl hE ?_
                                intro a hE
                                refine s_skip (wk2 hE rfl rfl rfl hb13) rfl rfl hE ?_
                                intro a hE
                                refine s_skip (wk2 hE rfl rfl rfl hb13) rfl rfl hE ?_
                                intro a hE
                                refine s_val (wk0 rfl) rfl rfl hE hp (v := (.bool false)) (ex_pick0 rfl hE rfl hb13 rfl) ?_
                                intro a hE
                                obtain rfl := Option.some.inj hg5
                                exact s_nil ⟨hE.cut ⟨rfl, trivial⟩, hp⟩
                            · rintro a w ⟨hE, hp⟩
                              refine s_val (wk0 rfl) rfl rfl hE hp (v := (.bool m5)) (ex_asn rfl hE rfl) ?_
                              intro a hE
                              refine s_nil ?_
                              refine k_ret ?_
                              obtain rfl := Option.some.inj hm
                              exact ret1 hE rfl rfl ⟨_, rfl, rfl, ((((((((((((hp.get 5 rfl).drop).get 4 rfl).drop).get 3 rfl).drop).get 2 rfl).drop).get 1 rfl).drop).drop).less hley1)⟩
end Go.Proofs.Ytnnccbagbgndpaa

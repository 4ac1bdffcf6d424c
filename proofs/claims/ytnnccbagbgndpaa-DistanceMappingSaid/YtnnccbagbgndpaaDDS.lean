/-
  The code goes as its model: assessor/distance.subtrees, assessor/distance.Distance, assessor/distance.Within, assessor/distance.Matrix, assessor/distance.Nearest, assessor/distance.Subtrees, assessor/distance.Bound. (Printed by wip/sp/gen.py.)
-/
import Derived.Test.YtnnccbagbgndpaaDDM
import Derived.Test.YtnnccbagbgndpaaFct
import Derived.Test.YtnnccbagbgndpaaDS
set_option linter.unusedVariables false
set_option linter.unusedSimpArgs false
namespace Go.Proofs.Ytnnccbagbgndpaa
open Go.RowKit

/- assessor/distance.subtrees -/
set_option maxRecDepth 100000 in
set_option maxHeartbeats 4000000 in
theorem c_distance_subtrees {Z : World} {ρ : PH} {L : List Atom} {w : World} (p0 : Node) (vp0_kids : Value) (hp0_kids : RoSl ρ vp0_kids p0.kids) (p1 : Node) (vp1_kids : Value) (hp1_kids : RoSl ρ vp1_kids p1.kids) (hp : Hp Z ρ (L) w) (r : (List (List Int))) (hm : m_distance_subtrees p0 p1 = some r) :
    Calls Try.prog 30 #[(.agg #[(.int .i64 p0.kind), (.string p0.text), (.int .i64 p0.at_), (.int .i64 p0.fin), vp0_kids]), (.agg #[(.int .i64 p1.kind), (.string p1.text), (.int .i64 p1.at_), (.int .i64 p1.fin), vp1_kids])] w (Ret fun v w' => ∃ (vr1 : Value) (usr1 : List Sl), v = vr1 ∧ Hp Z ρ (TblA 34 3 vr1 usr1 (r : (List (List Int))) :: L) w') := by
  refine enter (N := 92) Try.func30 rfl rfl [(0, (.agg #[(.int .i64 p0.kind), (.string p0.text), (.int .i64 p0.at_), (.int .i64 p0.fin), vp0_kids])), (1, (.agg #[(.int .i64 p1.kind), (.string p1.text), (.int .i64 p1.at_), (.int .i64 p1.fin), vp1_kids]))] rfl (argsIn_mem ⟨rfl, rfl, trivial⟩) fun a hE => ?_
  unfold m_distance_subtrees at hm
  refine k_seq ?_
  refine k_region ?_
  refine s_box (wk0 rfl) rfl rfl hE hp rfl (v := (.agg #[(.int .i64 p0.kind), (.string p0.text), (.int .i64 p0.at_), (.int .i64 p0.fin), vp0_kids])) rfl ?_
  intro a w b1 hE hp
  have hp : Hp Z ρ (Pt b1 (.cells #[(.int .i64 p0.kind), (.string p0.text), (.int .i64 p0.at_), (.int .i64 p0.fin), vp0_kids] 24 (0, 0)) :: L) w := hp
  refine s_box (wk0 rfl) rfl rfl hE hp rfl (v := (.agg #[(.int .i64 p1.kind), (.string p1.text), (.int .i64 p1.at_), (.int .i64 p1.fin), vp1_kids])) rfl ?_
  intro a w b2 hE hp
  have hp : Hp Z ρ (Pt b2 (.cells #[(.int .i64 p1.kind), (.string p1.text), (.int .i64 p1.at_), (.int .i64 p1.fin), vp1_kids] 24 (0, 0)) :: _ :: L) w := hp
  refine s_val (wk0 rfl) rfl rfl hE hp (v := (.slice none 0 0)) (ex_asn rfl hE rfl) ?_
  intro a hE
  refine s_nil ?_
  refine k_seq ?_
  obtain ⟨x1, ex1, hm⟩ := bnd hm
  obtain ⟨x2, ex2, hm⟩ := bnd hm
  have hp := hp.drew
  refine k_heldV ([([], At0 Z ρ), ([], At1 Z ρ (Pt b2 (.cells #[(.int .i64 p1.kind), (.string p1.text), (.int .i64 p1.at_), (.int .i64 p1.fin), vp1_kids] 24 (0, 0)))), ([], At1 Z ρ (Pt b1 (.cells #[(.int .i64 p0.kind), (.string p0.text), (.int .i64 p0.at_), (.int .i64 p0.fin), vp0_kids] 24 (0, 0))))] : Facts) (fun a w => ∃ y11 : Nat, ∃ y10 : Nat, ∃ y7 : Value, ∃ y8 : Value, ∃ y9 : Value, ∃ y4 : Value, ∃ y5 : Value, ∃ y6 : Value, Env 92 [(5, (.pointer (some ⟨y10, 0, none⟩))), (6, (.pointer (some ⟨y11, 0, none⟩)))] a ∧ Hp Z ρ (Pt y11 (.cells #[y7, y8, y9] 66 (0, 0)) :: Pt y10 (.cells #[y4, y5, y6] 66 (0, 0)) :: OwnSl 70 y7 x2.labels :: OwnSl 3 y8 x2.left :: OwnSl 3 y9 x2.numbers :: OwnSl 70 y4 x1.labels :: OwnSl 3 y5 x1.left :: OwnSl 3 y6 x1.numbers :: Pt b2 (.cells #[(.int .i64 p1.kind), (.string p1.text), (.int .i64 p1.at_), (.int .i64 p1.fin), vp1_kids] 24 (0, 0)) :: Pt b1 (.cells #[(.int .i64 p0.kind), (.string p0.text), (.int .i64 p0.at_), (.int .i64 p0.fin), vp0_kids] 24 (0, 0)) :: L) w) (by kernel_rfl) ⟨fun _ => ⟨_, hp⟩, fun _ => ⟨_, (hp.get 0 rfl)⟩, fun _ => ⟨_, (hp.get 1 rfl)⟩, trivial⟩ (fun hS => ?_) ?_
  ·
    generalize w.drew = w at hS hp ⊢
    refine v_take1 0 2 (wk0 rfl) rfl rfl rfl hE (by kernel_rfl) (by kernel_rfl) (by kernel_rfl) rfl (by kernel_rfl) hS (v := (.agg #[(.int .i64 p0.kind), (.string p0.text), (.int .i64 p0.at_), (.int .i64 p0.fin), vp0_kids])) (fun _ => ex_load rfl hE rfl (fun w hw => run_ldN (cs := [(.int .i64 p0.kind), (.string p0.text), (.int .i64 p0.at_), (.int .i64 p0.fin), vp0_kids]) varty24 (Hp.cN 0 rfl 0 _ (sub_all rfl) w hw))) ?_
    intro a hE hS
    refine v_take1 2 1 (wk0 rfl) rfl rfl rfl hE (by kernel_rfl) (by kernel_rfl) (by kernel_rfl) rfl (by kernel_rfl) hS (v := (.agg #[(.int .i64 p1.kind), (.string p1.text), (.int .i64 p1.at_), (.int .i64 p1.fin), vp1_kids])) (fun _ => ex_load rfl hE rfl (fun w hw => run_ldN (cs := [(.int .i64 p1.kind), (.string p1.text), (.int .i64 p1.at_), (.int .i64 p1.fin), vp1_kids]) varty24 (Hp.cN 0 rfl 0 _ (sub_all rfl) w hw))) ?_
    intro a hE hS
    refine v_all [1, 4, 5] (by kernel_rfl) rfl ?_
    refine List.forall_mem_cons.2 ⟨?_, List.forall_mem_cons.2 ⟨?_, List.forall_mem_cons.2 ⟨?_, fun _ h => absurd h (by simp)⟩⟩⟩
    ·
      refine h_op rfl ?_
      refine s_call (wk0 rfl) rfl rfl hE rfl [(.agg #[(.int .i64 p0.kind), (.string p0.text), (.int .i64 p0.at_), (.int .i64 p0.fin), vp0_kids])] ⟨rfl, trivial⟩ ent34 (c_distance_flatten p0 vp0_kids hp0_kids hp x1 ex1) Ret.ret ?_
      intro v a w hR hE
      obtain ⟨vr3_labels, vr3_left, vr3_numbers, rfl, hp⟩ := Ret.of hR
      have hp : Hp Z ρ (OwnSl 70 vr3_labels x1.labels :: OwnSl 3 vr3_left x1.left :: OwnSl 3 vr3_numbers x1.numbers :: _ :: _ :: L) w := hp
      refine s_nil (and_with ⟨fun _ => ⟨_, hp⟩, fun _ => ⟨_, (hp.get 3 rfl)⟩, fun _ => ⟨_, (hp.get 4 rfl)⟩, trivial⟩ fun hS => ?_)
      refine v_all [3, 4, 5] (by kernel_rfl) rfl ?_
      refine List.forall_mem_cons.2 ⟨?_, List.forall_mem_cons.2 ⟨?_, List.forall_mem_cons.2 ⟨?_, fun _ h => absurd h (by simp)⟩⟩⟩
      ·
        refine h_op rfl ?_
        refine s_call (wk0 rfl) rfl rfl hE rfl [(.agg #[(.int .i64 p1.kind), (.string p1.text), (.int .i64 p1.at_), (.int .i64 p1.fin), vp1_kids])] ⟨rfl, trivial⟩ ent34 (c_distance_flatten p1 vp1_kids hp1_kids hp x2 ex2) Ret.ret ?_
        intro v a w hR hE
        obtain ⟨vr4_labels, vr4_left, vr4_numbers, rfl, hp⟩ := Ret.of hR
        have hp : Hp Z ρ (OwnSl 70 vr4_labels x2.labels :: OwnSl 3 vr4_left x2.left :: OwnSl 3 vr4_numbers x2.numbers :: _ :: _ :: _ :: _ :: _ :: L) w := hp
        refine s_nil (and_with ⟨fun _ => ⟨_, hp⟩, fun _ => ⟨_, (hp.get 6 rfl)⟩, fun _ => ⟨_, (hp.get 7 rfl)⟩, trivial⟩ fun hS => ?_)
        refine v_all [4, 5] (by kernel_rfl) rfl ?_
        refine List.forall_mem_cons.2 ⟨?_, List.forall_mem_cons.2 ⟨?_, fun _ h => absurd h (by simp)⟩⟩
        ·
          refine h_op rfl ?_
          refine s_new (wk0 rfl) rfl rfl hE hp rfl [(.slice none 0 0), (.slice none 0 0), (.slice none 0 0)] (fun w => by simp [Instr.alloc, go_sem] <;> rfl) ?_
          intro a w b5 hE hp
          have hp : Hp Z ρ (Pt b5 (.cells #[(.slice none 0 0), (.slice none 0 0), (.slice none 0 0)] 66 (0, 0)) :: _ :: _ :: _ :: _ :: _ :: _ :: _ :: _ :: L) w := hp
          refine s_nil (and_with ⟨fun _ => ⟨_, hp⟩, fun _ => ⟨_, (hp.get 7 rfl)⟩, fun _ => ⟨_, (hp.get 8 rfl)⟩, trivial⟩ fun hS => ?_)
          refine v_all [5] (by kernel_rfl) rfl ?_
          refine List.forall_mem_cons.2 ⟨?_, fun _ h => absurd h (by simp)⟩
          ·
            refine h_op rfl ?_
            refine s_new (wk0 rfl) rfl rfl hE hp rfl [(.slice none 0 0), (.slice none 0 0), (.slice none 0 0)] (fun w => by simp [Instr.alloc, go_sem] <;> rfl) ?_
            intro a w b6 hE hp
            have hp : Hp Z ρ (Pt b6 (.cells #[(.slice none 0 0), (.slice none 0 0), (.slice none 0 0)] 66 (0, 0)) :: _ :: _ :: _ :: _ :: _ :: _ :: _ :: _ :: _ :: L) w := hp
            refine s_nil (and_with ⟨fun _ => ⟨_, hp⟩, fun _ => ⟨_, (hp.get 8 rfl)⟩, fun _ => ⟨_, (hp.get 9 rfl)⟩, trivial⟩ fun hS => ?_)
            refine v_all [6] (by kernel_rfl) rfl ?_
            refine List.forall_mem_cons.2 ⟨?_, fun _ h => absurd h (by simp)⟩
            ·
              refine h_op rfl ?_
              refine s_store (wk0 rfl) rfl hE hp rfl rfl rfl 1 rfl varty66.size_ rfl (allOne_mem ⟨(OwnSl.one hp 5 rfl), (OwnSl.one hp 6 rfl), (OwnSl.one hp 7 rfl), trivial⟩) [vr3_labels, vr3_left, vr3_numbers] rfl ?_
              intro w hp
              have hp : Hp Z ρ (_ :: Pt b5 (.cells #[vr3_labels, vr3_left, vr3_numbers] 66 (0, 0)) :: _ :: _ :: _ :: _ :: _ :: _ :: _ :: _ :: L) w := hp
              refine s_nil (and_with ⟨fun _ => ⟨_, hp⟩, fun _ => ⟨_, (hp.get 8 rfl)⟩, fun _ => ⟨_, (hp.get 9 rfl)⟩, trivial⟩ fun hS => ?_)
              refine v_all [7] (by kernel_rfl) rfl ?_
              refine List.forall_mem_cons.2 ⟨?_, fun _ h => absurd h (by simp)⟩
              ·
                refine h_op rfl ?_
                refine s_store (wk0 rfl) rfl hE hp rfl rfl rfl 0 rfl varty66.size_ rfl (allOne_mem ⟨(OwnSl.one hp 2 rfl), (OwnSl.one hp 3 rfl), (OwnSl.one hp 4 rfl), trivial⟩) [vr4_labels, vr4_left, vr4_numbers] rfl ?_
                intro w hp
                have hp : Hp Z ρ (Pt b6 (.cells #[vr4_labels, vr4_left, vr4_numbers] 66 (0, 0)) :: _ :: _ :: _ :: _ :: _ :: _ :: _ :: _ :: _ :: L) w := hp
                refine s_nil (and_with ⟨fun _ => ⟨_, hp⟩, fun _ => ⟨_, (hp.get 8 rfl)⟩, fun _ => ⟨_, (hp.get 9 rfl)⟩, trivial⟩ fun hS => ?_)
                exact v_done (by kernel_rfl) ⟨_, _, _, _, _, _, _, _, hE.cut ⟨rfl, rfl, trivial⟩, hp⟩
        ·
          refine h_op rfl ?_
          refine s_new (wk0 rfl) rfl rfl hE hp rfl [(.slice none 0 0), (.slice none 0 0), (.slice none 0 0)] (fun w => by simp [Instr.alloc, go_sem] <;> rfl) ?_
          intro a w b7 hE hp
          have hp : Hp Z ρ (Pt b7 (.cells #[(.slice none 0 0), (.slice none 0 0), (.slice none 0 0)] 66 (0, 0)) :: _ :: _ :: _ :: _ :: _ :: _ :: _ :: _ :: L) w := hp
          refine s_nil (and_with ⟨fun _ => ⟨_, hp⟩, fun _ => ⟨_, (hp.get 7 rfl)⟩, fun _ => ⟨_, (hp.get 8 rfl)⟩, trivial⟩ fun hS => ?_)
          refine v_all [4] (by kernel_rfl) rfl ?_
          refine List.forall_mem_cons.2 ⟨?_, fun _ h => absurd h (by simp)⟩
          ·
            refine h_op rfl ?_
            refine s_new (wk0 rfl) rfl rfl hE hp rfl [(.slice none 0 0), (.slice none 0 0), (.slice none 0 0)] (fun w => by simp [Instr.alloc, go_sem] <;> rfl) ?_
            intro a w b8 hE hp
            have hp : Hp Z ρ (Pt b8 (.cells #[(.slice none 0 0), (.slice none 0 0), (.slice none 0 0)] 66 (0, 0)) :: _ :: _ :: _ :: _ :: _ :: _ :: _ :: _ :: _ :: L) w := hp
            refine s_nil (and_with ⟨fun _ => ⟨_, hp⟩, fun _ => ⟨_, (hp.get 8 rfl)⟩, fun _ => ⟨_, (hp.get 9 rfl)⟩, trivial⟩ fun hS => ?_)
            refine v_all [6] (by kernel_rfl) rfl ?_
            refine List.forall_mem_cons.2 ⟨?_, fun _ h => absurd h (by simp)⟩
            ·
              refine h_op rfl ?_
              refine s_store (wk0 rfl) rfl hE hp rfl rfl rfl 0 rfl varty66.size_ rfl (allOne_mem ⟨(OwnSl.one hp 5 rfl), (OwnSl.one hp 6 rfl), (OwnSl.one hp 7 rfl), trivial⟩) [vr3_labels, vr3_left, vr3_numbers] rfl ?_
              intro w hp
              have hp : Hp Z ρ (Pt b8 (.cells #[vr3_labels, vr3_left, vr3_numbers] 66 (0, 0)) :: _ :: _ :: _ :: _ :: _ :: _ :: _ :: _ :: _ :: L) w := hp
              refine s_nil (and_with ⟨fun _ => ⟨_, hp⟩, fun _ => ⟨_, (hp.get 8 rfl)⟩, fun _ => ⟨_, (hp.get 9 rfl)⟩, trivial⟩ fun hS => ?_)
              refine v_all [7] (by kernel_rfl) rfl ?_
              refine List.forall_mem_cons.2 ⟨?_, fun _ h => absurd h (by simp)⟩
              ·
                refine h_op rfl ?_
                refine s_store (wk0 rfl) rfl hE hp rfl rfl rfl 1 rfl varty66.size_ rfl (allOne_mem ⟨(OwnSl.one hp 2 rfl), (OwnSl.one hp 3 rfl), (OwnSl.one hp 4 rfl), trivial⟩) [vr4_labels, vr4_left, vr4_numbers] rfl ?_
                intro w hp
                have hp : Hp Z ρ (_ :: Pt b7 (.cells #[vr4_labels, vr4_left, vr4_numbers] 66 (0, 0)) :: _ :: _ :: _ :: _ :: _ :: _ :: _ :: _ :: L) w := hp
                refine s_nil (and_with ⟨fun _ => ⟨_, hp⟩, fun _ => ⟨_, (hp.get 8 rfl)⟩, fun _ => ⟨_, (hp.get 9 rfl)⟩, trivial⟩ fun hS => ?_)
                exact v_done (by kernel_rfl) ⟨_, _, _, _, _, _, _, _, hE.cut ⟨rfl, rfl, trivial⟩, ((((((((((hp.get 9 rfl).get 9 rfl).get 9 rfl).get 9 rfl).get 9 rfl).get 9 rfl).get 9 rfl).get 9 rfl).get 8 rfl).get 9 rfl)⟩
      ·
        refine h_op rfl ?_
        refine s_new (wk0 rfl) rfl rfl hE hp rfl [(.slice none 0 0), (.slice none 0 0), (.slice none 0 0)] (fun w => by simp [Instr.alloc, go_sem] <;> rfl) ?_
        intro a w b9 hE hp
        have hp : Hp Z ρ (Pt b9 (.cells #[(.slice none 0 0), (.slice none 0 0), (.slice none 0 0)] 66 (0, 0)) :: _ :: _ :: _ :: _ :: _ :: L) w := hp
        refine s_nil (and_with ⟨fun _ => ⟨_, hp⟩, fun _ => ⟨_, (hp.get 4 rfl)⟩, fun _ => ⟨_, (hp.get 5 rfl)⟩, trivial⟩ fun hS => ?_)
        refine v_all [3, 5] (by kernel_rfl) rfl ?_
        refine List.forall_mem_cons.2 ⟨?_, List.forall_mem_cons.2 ⟨?_, fun _ h => absurd h (by simp)⟩⟩
        ·
          refine h_op rfl ?_
          refine s_call (wk0 rfl) rfl rfl hE rfl [(.agg #[(.int .i64 p1.kind), (.string p1.text), (.int .i64 p1.at_), (.int .i64 p1.fin), vp1_kids])] ⟨rfl, trivial⟩ ent34 (c_distance_flatten p1 vp1_kids hp1_kids hp x2 ex2) Ret.ret ?_
          intro v a w hR hE
          obtain ⟨vr5_labels, vr5_left, vr5_numbers, rfl, hp⟩ := Ret.of hR
          have hp : Hp Z ρ (OwnSl 70 vr5_labels x2.labels :: OwnSl 3 vr5_left x2.left :: OwnSl 3 vr5_numbers x2.numbers :: _ :: _ :: _ :: _ :: _ :: _ :: L) w := hp
          refine s_nil (and_with ⟨fun _ => ⟨_, hp⟩, fun _ => ⟨_, (hp.get 7 rfl)⟩, fun _ => ⟨_, (hp.get 8 rfl)⟩, trivial⟩ fun hS => ?_)
          refine v_all [5] (by kernel_rfl) rfl ?_
          refine List.forall_mem_cons.2 ⟨?_, fun _ h => absurd h (by simp)⟩
          ·
            refine h_op rfl ?_
            refine s_new (wk0 rfl) rfl rfl hE hp rfl [(.slice none 0 0), (.slice none 0 0), (.slice none 0 0)] (fun w => by simp [Instr.alloc, go_sem] <;> rfl) ?_
            intro a w b10 hE hp
            have hp : Hp Z ρ (Pt b10 (.cells #[(.slice none 0 0), (.slice none 0 0), (.slice none 0 0)] 66 (0, 0)) :: _ :: _ :: _ :: _ :: _ :: _ :: _ :: _ :: _ :: L) w := hp
            refine s_nil (and_with ⟨fun _ => ⟨_, hp⟩, fun _ => ⟨_, (hp.get 8 rfl)⟩, fun _ => ⟨_, (hp.get 9 rfl)⟩, trivial⟩ fun hS => ?_)
            refine v_all [6] (by kernel_rfl) rfl ?_
            refine List.forall_mem_cons.2 ⟨?_, fun _ h => absurd h (by simp)⟩
            ·
              refine h_op rfl ?_
              refine s_store (wk0 rfl) rfl hE hp rfl rfl rfl 4 rfl varty66.size_ rfl (allOne_mem ⟨(OwnSl.one hp 5 rfl), (OwnSl.one hp 6 rfl), (OwnSl.one hp 7 rfl), trivial⟩) [vr3_labels, vr3_left, vr3_numbers] rfl ?_
              intro w hp
              have hp : Hp Z ρ (_ :: _ :: _ :: _ :: Pt b9 (.cells #[vr3_labels, vr3_left, vr3_numbers] 66 (0, 0)) :: _ :: _ :: _ :: _ :: _ :: L) w := hp
              refine s_nil (and_with ⟨fun _ => ⟨_, hp⟩, fun _ => ⟨_, (hp.get 8 rfl)⟩, fun _ => ⟨_, (hp.get 9 rfl)⟩, trivial⟩ fun hS => ?_)
              refine v_all [7] (by kernel_rfl) rfl ?_
              refine List.forall_mem_cons.2 ⟨?_, fun _ h => absurd h (by simp)⟩
              ·
                refine h_op rfl ?_
                refine s_store (wk0 rfl) rfl hE hp rfl rfl rfl 0 rfl varty66.size_ rfl (allOne_mem ⟨(OwnSl.one hp 1 rfl), (OwnSl.one hp 2 rfl), (OwnSl.one hp 3 rfl), trivial⟩) [vr5_labels, vr5_left, vr5_numbers] rfl ?_
                intro w hp
                have hp : Hp Z ρ (Pt b10 (.cells #[vr5_labels, vr5_left, vr5_numbers] 66 (0, 0)) :: _ :: _ :: _ :: _ :: _ :: _ :: _ :: _ :: _ :: L) w := hp
                refine s_nil (and_with ⟨fun _ => ⟨_, hp⟩, fun _ => ⟨_, (hp.get 8 rfl)⟩, fun _ => ⟨_, (hp.get 9 rfl)⟩, trivial⟩ fun hS => ?_)
                exact v_done (by kernel_rfl) ⟨_, _, _, _, _, _, _, _, hE.cut ⟨rfl, rfl, trivial⟩, ((((((((((hp.get 9 rfl).get 9 rfl).get 9 rfl).get 9 rfl).get 9 rfl).get 8 rfl).get 8 rfl).get 8 rfl).get 9 rfl).get 9 rfl)⟩
        ·
          refine h_op rfl ?_
          refine s_new (wk0 rfl) rfl rfl hE hp rfl [(.slice none 0 0), (.slice none 0 0), (.slice none 0 0)] (fun w => by simp [Instr.alloc, go_sem] <;> rfl) ?_
          intro a w b11 hE hp
          have hp : Hp Z ρ (Pt b11 (.cells #[(.slice none 0 0), (.slice none 0 0), (.slice none 0 0)] 66 (0, 0)) :: _ :: _ :: _ :: _ :: _ :: _ :: L) w := hp
          refine s_nil (and_with ⟨fun _ => ⟨_, hp⟩, fun _ => ⟨_, (hp.get 5 rfl)⟩, fun _ => ⟨_, (hp.get 6 rfl)⟩, trivial⟩ fun hS => ?_)
          refine v_all [3] (by kernel_rfl) rfl ?_
          refine List.forall_mem_cons.2 ⟨?_, fun _ h => absurd h (by simp)⟩
          ·
            refine h_op rfl ?_
            refine s_call (wk0 rfl) rfl rfl hE rfl [(.agg #[(.int .i64 p1.kind), (.string p1.text), (.int .i64 p1.at_), (.int .i64 p1.fin), vp1_kids])] ⟨rfl, trivial⟩ ent34 (c_distance_flatten p1 vp1_kids hp1_kids hp x2 ex2) Ret.ret ?_
            intro v a w hR hE
            obtain ⟨vr6_labels, vr6_left, vr6_numbers, rfl, hp⟩ := Ret.of hR
            have hp : Hp Z ρ (OwnSl 70 vr6_labels x2.labels :: OwnSl 3 vr6_left x2.left :: OwnSl 3 vr6_numbers x2.numbers :: _ :: _ :: _ :: _ :: _ :: _ :: _ :: L) w := hp
            refine s_nil (and_with ⟨fun _ => ⟨_, hp⟩, fun _ => ⟨_, (hp.get 8 rfl)⟩, fun _ => ⟨_, (hp.get 9 rfl)⟩, trivial⟩ fun hS => ?_)
            refine v_all [6] (by kernel_rfl) rfl ?_
            refine List.forall_mem_cons.2 ⟨?_, fun _ h => absurd h (by simp)⟩
            ·
              refine h_op rfl ?_
              refine s_store (wk0 rfl) rfl hE hp rfl rfl rfl 4 rfl varty66.size_ rfl (allOne_mem ⟨(OwnSl.one hp 5 rfl), (OwnSl.one hp 6 rfl), (OwnSl.one hp 7 rfl), trivial⟩) [vr3_labels, vr3_left, vr3_numbers] rfl ?_
              intro w hp
              have hp : Hp Z ρ (_ :: _ :: _ :: _ :: Pt b9 (.cells #[vr3_labels, vr3_left, vr3_numbers] 66 (0, 0)) :: _ :: _ :: _ :: _ :: _ :: L) w := hp
              refine s_nil (and_with ⟨fun _ => ⟨_, hp⟩, fun _ => ⟨_, (hp.get 8 rfl)⟩, fun _ => ⟨_, (hp.get 9 rfl)⟩, trivial⟩ fun hS => ?_)
              refine v_all [7] (by kernel_rfl) rfl ?_
              refine List.forall_mem_cons.2 ⟨?_, fun _ h => absurd h (by simp)⟩
              ·
                refine h_op rfl ?_
                refine s_store (wk0 rfl) rfl hE hp rfl rfl rfl 3 rfl varty66.size_ rfl (allOne_mem ⟨(OwnSl.one hp 0 rfl), (OwnSl.one hp 1 rfl), (OwnSl.one hp 2 rfl), trivial⟩) [vr6_labels, vr6_left, vr6_numbers] rfl ?_
                intro w hp
                have hp : Hp Z ρ (_ :: _ :: _ :: Pt b11 (.cells #[vr6_labels, vr6_left, vr6_numbers] 66 (0, 0)) :: _ :: _ :: _ :: _ :: _ :: _ :: L) w := hp
                refine s_nil (and_with ⟨fun _ => ⟨_, hp⟩, fun _ => ⟨_, (hp.get 8 rfl)⟩, fun _ => ⟨_, (hp.get 9 rfl)⟩, trivial⟩ fun hS => ?_)
                exact v_done (by kernel_rfl) ⟨_, _, _, _, _, _, _, _, hE.cut ⟨rfl, rfl, trivial⟩, ((((((((((hp.get 9 rfl).get 9 rfl).get 9 rfl).get 9 rfl).get 9 rfl).get 7 rfl).get 7 rfl).get 7 rfl).get 9 rfl).get 9 rfl)⟩
      ·
        refine h_op rfl ?_
        refine s_new (wk0 rfl) rfl rfl hE hp rfl [(.slice none 0 0), (.slice none 0 0), (.slice none 0 0)] (fun w => by simp [Instr.alloc, go_sem] <;> rfl) ?_
        intro a w b12 hE hp
        have hp : Hp Z ρ (Pt b12 (.cells #[(.slice none 0 0), (.slice none 0 0), (.slice none 0 0)] 66 (0, 0)) :: _ :: _ :: _ :: _ :: _ :: L) w := hp
        refine s_nil (and_with ⟨fun _ => ⟨_, hp⟩, fun _ => ⟨_, (hp.get 4 rfl)⟩, fun _ => ⟨_, (hp.get 5 rfl)⟩, trivial⟩ fun hS => ?_)
        refine v_all [3, 4] (by kernel_rfl) rfl ?_
        refine List.forall_mem_cons.2 ⟨?_, List.forall_mem_cons.2 ⟨?_, fun _ h => absurd h (by simp)⟩⟩
        ·
          refine h_op rfl ?_
          refine s_call (wk0 rfl) rfl rfl hE rfl [(.agg #[(.int .i64 p1.kind), (.string p1.text), (.int .i64 p1.at_), (.int .i64 p1.fin), vp1_kids])] ⟨rfl, trivial⟩ ent34 (c_distance_flatten p1 vp1_kids hp1_kids hp x2 ex2) Ret.ret ?_
          intro v a w hR hE
          obtain ⟨vr7_labels, vr7_left, vr7_numbers, rfl, hp⟩ := Ret.of hR
          have hp : Hp Z ρ (OwnSl 70 vr7_labels x2.labels :: OwnSl 3 vr7_left x2.left :: OwnSl 3 vr7_numbers x2.numbers :: _ :: _ :: _ :: _ :: _ :: _ :: L) w := hp
          refine s_nil (and_with ⟨fun _ => ⟨_, hp⟩, fun _ => ⟨_, (hp.get 7 rfl)⟩, fun _ => ⟨_, (hp.get 8 rfl)⟩, trivial⟩ fun hS => ?_)
          refine v_all [4] (by kernel_rfl) rfl ?_
          refine List.forall_mem_cons.2 ⟨?_, fun _ h => absurd h (by simp)⟩
          ·
            refine h_op rfl ?_
            refine s_new (wk0 rfl) rfl rfl hE hp rfl [(.slice none 0 0), (.slice none 0 0), (.slice none 0 0)] (fun w => by simp [Instr.alloc, go_sem] <;> rfl) ?_
            intro a w b13 hE hp
            have hp : Hp Z ρ (Pt b13 (.cells #[(.slice none 0 0), (.slice none 0 0), (.slice none 0 0)] 66 (0, 0)) :: _ :: _ :: _ :: _ :: _ :: _ :: _ :: _ :: _ :: L) w := hp
            refine s_nil (and_with ⟨fun _ => ⟨_, hp⟩, fun _ => ⟨_, (hp.get 8 rfl)⟩, fun _ => ⟨_, (hp.get 9 rfl)⟩, trivial⟩ fun hS => ?_)
            refine v_all [6] (by kernel_rfl) rfl ?_
            refine List.forall_mem_cons.2 ⟨?_, fun _ h => absurd h (by simp)⟩
            ·
              refine h_op rfl ?_
              refine s_store (wk0 rfl) rfl hE hp rfl rfl rfl 0 rfl varty66.size_ rfl (allOne_mem ⟨(OwnSl.one hp 5 rfl), (OwnSl.one hp 6 rfl), (OwnSl.one hp 7 rfl), trivial⟩) [vr3_labels, vr3_left, vr3_numbers] rfl ?_
              intro w hp
              have hp : Hp Z ρ (Pt b13 (.cells #[vr3_labels, vr3_left, vr3_numbers] 66 (0, 0)) :: _ :: _ :: _ :: _ :: _ :: _ :: _ :: _ :: _ :: L) w := hp
              refine s_nil (and_with ⟨fun _ => ⟨_, hp⟩, fun _ => ⟨_, (hp.get 8 rfl)⟩, fun _ => ⟨_, (hp.get 9 rfl)⟩, trivial⟩ fun hS => ?_)
              refine v_all [7] (by kernel_rfl) rfl ?_
              refine List.forall_mem_cons.2 ⟨?_, fun _ h => absurd h (by simp)⟩
              ·
                refine h_op rfl ?_
                refine s_store (wk0 rfl) rfl hE hp rfl rfl rfl 4 rfl varty66.size_ rfl (allOne_mem ⟨(OwnSl.one hp 1 rfl), (OwnSl.one hp 2 rfl), (OwnSl.one hp 3 rfl), trivial⟩) [vr7_labels, vr7_left, vr7_numbers] rfl ?_
                intro w hp
                have hp : Hp Z ρ (_ :: _ :: _ :: _ :: Pt b12 (.cells #[vr7_labels, vr7_left, vr7_numbers] 66 (0, 0)) :: _ :: _ :: _ :: _ :: _ :: L) w := hp
                refine s_nil (and_with ⟨fun _ => ⟨_, hp⟩, fun _ => ⟨_, (hp.get 8 rfl)⟩, fun _ => ⟨_, (hp.get 9 rfl)⟩, trivial⟩ fun hS => ?_)
                exact v_done (by kernel_rfl) ⟨_, _, _, _, _, _, _, _, hE.cut ⟨rfl, rfl, trivial⟩, ((((((((((hp.get 9 rfl).get 9 rfl).get 9 rfl).get 9 rfl).get 9 rfl).get 8 rfl).get 8 rfl).get 8 rfl).get 8 rfl).get 9 rfl)⟩
        ·
          refine h_op rfl ?_
          refine s_new (wk0 rfl) rfl rfl hE hp rfl [(.slice none 0 0), (.slice none 0 0), (.slice none 0 0)] (fun w => by simp [Instr.alloc, go_sem] <;> rfl) ?_
          intro a w b14 hE hp
          have hp : Hp Z ρ (Pt b14 (.cells #[(.slice none 0 0), (.slice none 0 0), (.slice none 0 0)] 66 (0, 0)) :: _ :: _ :: _ :: _ :: _ :: _ :: L) w := hp
          refine s_nil (and_with ⟨fun _ => ⟨_, hp⟩, fun _ => ⟨_, (hp.get 5 rfl)⟩, fun _ => ⟨_, (hp.get 6 rfl)⟩, trivial⟩ fun hS => ?_)
          refine v_all [3] (by kernel_rfl) rfl ?_
          refine List.forall_mem_cons.2 ⟨?_, fun _ h => absurd h (by simp)⟩
          ·
            refine h_op rfl ?_
            refine s_call (wk0 rfl) rfl rfl hE rfl [(.agg #[(.int .i64 p1.kind), (.string p1.text), (.int .i64 p1.at_), (.int .i64 p1.fin), vp1_kids])] ⟨rfl, trivial⟩ ent34 (c_distance_flatten p1 vp1_kids hp1_kids hp x2 ex2) Ret.ret ?_
            intro v a w hR hE
            obtain ⟨vr8_labels, vr8_left, vr8_numbers, rfl, hp⟩ := Ret.of hR
            have hp : Hp Z ρ (OwnSl 70 vr8_labels x2.labels :: OwnSl 3 vr8_left x2.left :: OwnSl 3 vr8_numbers x2.numbers :: _ :: _ :: _ :: _ :: _ :: _ :: _ :: L) w := hp
            refine s_nil (and_with ⟨fun _ => ⟨_, hp⟩, fun _ => ⟨_, (hp.get 8 rfl)⟩, fun _ => ⟨_, (hp.get 9 rfl)⟩, trivial⟩ fun hS => ?_)
            refine v_all [6] (by kernel_rfl) rfl ?_
            refine List.forall_mem_cons.2 ⟨?_, fun _ h => absurd h (by simp)⟩
            ·
              refine h_op rfl ?_
              refine s_store (wk0 rfl) rfl hE hp rfl rfl rfl 3 rfl varty66.size_ rfl (allOne_mem ⟨(OwnSl.one hp 5 rfl), (OwnSl.one hp 6 rfl), (OwnSl.one hp 7 rfl), trivial⟩) [vr3_labels, vr3_left, vr3_numbers] rfl ?_
              intro w hp
              have hp : Hp Z ρ (_ :: _ :: _ :: Pt b14 (.cells #[vr3_labels, vr3_left, vr3_numbers] 66 (0, 0)) :: _ :: _ :: _ :: _ :: _ :: _ :: L) w := hp
              refine s_nil (and_with ⟨fun _ => ⟨_, hp⟩, fun _ => ⟨_, (hp.get 8 rfl)⟩, fun _ => ⟨_, (hp.get 9 rfl)⟩, trivial⟩ fun hS => ?_)
              refine v_all [7] (by kernel_rfl) rfl ?_
              refine List.forall_mem_cons.2 ⟨?_, fun _ h => absurd h (by simp)⟩
              ·
                refine h_op rfl ?_
                refine s_store (wk0 rfl) rfl hE hp rfl rfl rfl 4 rfl varty66.size_ rfl (allOne_mem ⟨(OwnSl.one hp 0 rfl), (OwnSl.one hp 1 rfl), (OwnSl.one hp 2 rfl), trivial⟩) [vr8_labels, vr8_left, vr8_numbers] rfl ?_
                intro w hp
                have hp : Hp Z ρ (_ :: _ :: _ :: _ :: Pt b12 (.cells #[vr8_labels, vr8_left, vr8_numbers] 66 (0, 0)) :: _ :: _ :: _ :: _ :: _ :: L) w := hp
                refine s_nil (and_with ⟨fun _ => ⟨_, hp⟩, fun _ => ⟨_, (hp.get 8 rfl)⟩, fun _ => ⟨_, (hp.get 9 rfl)⟩, trivial⟩ fun hS => ?_)
                exact v_done (by kernel_rfl) ⟨_, _, _, _, _, _, _, _, hE.cut ⟨rfl, rfl, trivial⟩, ((((((((((hp.get 9 rfl).get 9 rfl).get 9 rfl).get 9 rfl).get 9 rfl).get 7 rfl).get 7 rfl).get 7 rfl).get 8 rfl).get 9 rfl)⟩
    ·
      refine h_op rfl ?_
      refine s_new (wk0 rfl) rfl rfl hE hp rfl [(.slice none 0 0), (.slice none 0 0), (.slice none 0 0)] (fun w => by simp [Instr.alloc, go_sem] <;> rfl) ?_
      intro a w b15 hE hp
      have hp : Hp Z ρ (Pt b15 (.cells #[(.slice none 0 0), (.slice none 0 0), (.slice none 0 0)] 66 (0, 0)) :: _ :: _ :: L) w := hp
      refine s_nil (and_with ⟨fun _ => ⟨_, hp⟩, fun _ => ⟨_, (hp.get 1 rfl)⟩, fun _ => ⟨_, (hp.get 2 rfl)⟩, trivial⟩ fun hS => ?_)
      refine v_all [1, 5] (by kernel_rfl) rfl ?_
      refine List.forall_mem_cons.2 ⟨?_, List.forall_mem_cons.2 ⟨?_, fun _ h => absurd h (by simp)⟩⟩
      ·
        refine h_op rfl ?_
        refine s_call (wk0 rfl) rfl rfl hE rfl [(.agg #[(.int .i64 p0.kind), (.string p0.text), (.int .i64 p0.at_), (.int .i64 p0.fin), vp0_kids])] ⟨rfl, trivial⟩ ent34 (c_distance_flatten p0 vp0_kids hp0_kids hp x1 ex1) Ret.ret ?_
        intro v a w hR hE
        obtain ⟨vr9_labels, vr9_left, vr9_numbers, rfl, hp⟩ := Ret.of hR
        have hp : Hp Z ρ (OwnSl 70 vr9_labels x1.labels :: OwnSl 3 vr9_left x1.left :: OwnSl 3 vr9_numbers x1.numbers :: _ :: _ :: _ :: L) w := hp
        refine s_nil (and_with ⟨fun _ => ⟨_, hp⟩, fun _ => ⟨_, (hp.get 4 rfl)⟩, fun _ => ⟨_, (hp.get 5 rfl)⟩, trivial⟩ fun hS => ?_)
        refine v_all [3, 5] (by kernel_rfl) rfl ?_
        refine List.forall_mem_cons.2 ⟨?_, List.forall_mem_cons.2 ⟨?_, fun _ h => absurd h (by simp)⟩⟩
        ·
          refine h_op rfl ?_
          refine s_call (wk0 rfl) rfl rfl hE rfl [(.agg #[(.int .i64 p1.kind), (.string p1.text), (.int .i64 p1.at_), (.int .i64 p1.fin), vp1_kids])] ⟨rfl, trivial⟩ ent34 (c_distance_flatten p1 vp1_kids hp1_kids hp x2 ex2) Ret.ret ?_
          intro v a w hR hE
          obtain ⟨vr10_labels, vr10_left, vr10_numbers, rfl, hp⟩ := Ret.of hR
          have hp : Hp Z ρ (OwnSl 70 vr10_labels x2.labels :: OwnSl 3 vr10_left x2.left :: OwnSl 3 vr10_numbers x2.numbers :: _ :: _ :: _ :: _ :: _ :: _ :: L) w := hp
          refine s_nil (and_with ⟨fun _ => ⟨_, hp⟩, fun _ => ⟨_, (hp.get 7 rfl)⟩, fun _ => ⟨_, (hp.get 8 rfl)⟩, trivial⟩ fun hS => ?_)
          refine v_all [5] (by kernel_rfl) rfl ?_
          refine List.forall_mem_cons.2 ⟨?_, fun _ h => absurd h (by simp)⟩
          ·
            refine h_op rfl ?_
            refine s_new (wk0 rfl) rfl rfl hE hp rfl [(.slice none 0 0), (.slice none 0 0), (.slice none 0 0)] (fun w => by simp [Instr.alloc, go_sem] <;> rfl) ?_
            intro a w b16 hE hp
            have hp : Hp Z ρ (Pt b16 (.cells #[(.slice none 0 0), (.slice none 0 0), (.slice none 0 0)] 66 (0, 0)) :: _ :: _ :: _ :: _ :: _ :: _ :: _ :: _ :: _ :: L) w := hp
            refine s_nil (and_with ⟨fun _ => ⟨_, hp⟩, fun _ => ⟨_, (hp.get 8 rfl)⟩, fun _ => ⟨_, (hp.get 9 rfl)⟩, trivial⟩ fun hS => ?_)
            refine v_all [6] (by kernel_rfl) rfl ?_
            refine List.forall_mem_cons.2 ⟨?_, fun _ h => absurd h (by simp)⟩
            ·
              refine h_op rfl ?_
              refine s_store (wk0 rfl) rfl hE hp rfl rfl rfl 7 rfl varty66.size_ rfl (allOne_mem ⟨(OwnSl.one hp 4 rfl), (OwnSl.one hp 5 rfl), (OwnSl.one hp 6 rfl), trivial⟩) [vr9_labels, vr9_left, vr9_numbers] rfl ?_
              intro w hp
              have hp : Hp Z ρ (_ :: _ :: _ :: _ :: _ :: _ :: _ :: Pt b15 (.cells #[vr9_labels, vr9_left, vr9_numbers] 66 (0, 0)) :: _ :: _ :: L) w := hp
              refine s_nil (and_with ⟨fun _ => ⟨_, hp⟩, fun _ => ⟨_, (hp.get 8 rfl)⟩, fun _ => ⟨_, (hp.get 9 rfl)⟩, trivial⟩ fun hS => ?_)
              refine v_all [7] (by kernel_rfl) rfl ?_
              refine List.forall_mem_cons.2 ⟨?_, fun _ h => absurd h (by simp)⟩
              ·
                refine h_op rfl ?_
                refine s_store (wk0 rfl) rfl hE hp rfl rfl rfl 0 rfl varty66.size_ rfl (allOne_mem ⟨(OwnSl.one hp 1 rfl), (OwnSl.one hp 2 rfl), (OwnSl.one hp 3 rfl), trivial⟩) [vr10_labels, vr10_left, vr10_numbers] rfl ?_
                intro w hp
                have hp : Hp Z ρ (Pt b16 (.cells #[vr10_labels, vr10_left, vr10_numbers] 66 (0, 0)) :: _ :: _ :: _ :: _ :: _ :: _ :: _ :: _ :: _ :: L) w := hp
                refine s_nil (and_with ⟨fun _ => ⟨_, hp⟩, fun _ => ⟨_, (hp.get 8 rfl)⟩, fun _ => ⟨_, (hp.get 9 rfl)⟩, trivial⟩ fun hS => ?_)
                exact v_done (by kernel_rfl) ⟨_, _, _, _, _, _, _, _, hE.cut ⟨rfl, rfl, trivial⟩, ((((((((((hp.get 9 rfl).get 9 rfl).get 8 rfl).get 8 rfl).get 8 rfl).get 8 rfl).get 8 rfl).get 8 rfl).get 9 rfl).get 9 rfl)⟩
        ·
          refine h_op rfl ?_
          refine s_new (wk0 rfl) rfl rfl hE hp rfl [(.slice none 0 0), (.slice none 0 0), (.slice none 0 0)] (fun w => by simp [Instr.alloc, go_sem] <;> rfl) ?_
          intro a w b17 hE hp
          have hp : Hp Z ρ (Pt b17 (.cells #[(.slice none 0 0), (.slice none 0 0), (.slice none 0 0)] 66 (0, 0)) :: _ :: _ :: _ :: _ :: _ :: _ :: L) w := hp
          refine s_nil (and_with ⟨fun _ => ⟨_, hp⟩, fun _ => ⟨_, (hp.get 5 rfl)⟩, fun _ => ⟨_, (hp.get 6 rfl)⟩, trivial⟩ fun hS => ?_)
          refine v_all [3] (by kernel_rfl) rfl ?_
          refine List.forall_mem_cons.2 ⟨?_, fun _ h => absurd h (by simp)⟩
          ·
            refine h_op rfl ?_
            refine s_call (wk0 rfl) rfl rfl hE rfl [(.agg #[(.int .i64 p1.kind), (.string p1.text), (.int .i64 p1.at_), (.int .i64 p1.fin), vp1_kids])] ⟨rfl, trivial⟩ ent34 (c_distance_flatten p1 vp1_kids hp1_kids hp x2 ex2) Ret.ret ?_
            intro v a w hR hE
            obtain ⟨vr11_labels, vr11_left, vr11_numbers, rfl, hp⟩ := Ret.of hR
            have hp : Hp Z ρ (OwnSl 70 vr11_labels x2.labels :: OwnSl 3 vr11_left x2.left :: OwnSl 3 vr11_numbers x2.numbers :: _ :: _ :: _ :: _ :: _ :: _ :: _ :: L) w := hp
            refine s_nil (and_with ⟨fun _ => ⟨_, hp⟩, fun _ => ⟨_, (hp.get 8 rfl)⟩, fun _ => ⟨_, (hp.get 9 rfl)⟩, trivial⟩ fun hS => ?_)
            refine v_all [6] (by kernel_rfl) rfl ?_
            refine List.forall_mem_cons.2 ⟨?_, fun _ h => absurd h (by simp)⟩
            ·
              refine h_op rfl ?_
              refine s_store (wk0 rfl) rfl hE hp rfl rfl rfl 7 rfl varty66.size_ rfl (allOne_mem ⟨(OwnSl.one hp 4 rfl), (OwnSl.one hp 5 rfl), (OwnSl.one hp 6 rfl), trivial⟩) [vr9_labels, vr9_left, vr9_numbers] rfl ?_
              intro w hp
              have hp : Hp Z ρ (_ :: _ :: _ :: _ :: _ :: _ :: _ :: Pt b15 (.cells #[vr9_labels, vr9_left, vr9_numbers] 66 (0, 0)) :: _ :: _ :: L) w := hp
              refine s_nil (and_with ⟨fun _ => ⟨_, hp⟩, fun _ => ⟨_, (hp.get 8 rfl)⟩, fun _ => ⟨_, (hp.get 9 rfl)⟩, trivial⟩ fun hS => ?_)
              refine v_all [7] (by kernel_rfl) rfl ?_
              refine List.forall_mem_cons.2 ⟨?_, fun _ h => absurd h (by simp)⟩
              ·
                refine h_op rfl ?_
                refine s_store (wk0 rfl) rfl hE hp rfl rfl rfl 3 rfl varty66.size_ rfl (allOne_mem ⟨(OwnSl.one hp 0 rfl), (OwnSl.one hp 1 rfl), (OwnSl.one hp 2 rfl), trivial⟩) [vr11_labels, vr11_left, vr11_numbers] rfl ?_
                intro w hp
                have hp : Hp Z ρ (_ :: _ :: _ :: Pt b17 (.cells #[vr11_labels, vr11_left, vr11_numbers] 66 (0, 0)) :: _ :: _ :: _ :: _ :: _ :: _ :: L) w := hp
                refine s_nil (and_with ⟨fun _ => ⟨_, hp⟩, fun _ => ⟨_, (hp.get 8 rfl)⟩, fun _ => ⟨_, (hp.get 9 rfl)⟩, trivial⟩ fun hS => ?_)
                exact v_done (by kernel_rfl) ⟨_, _, _, _, _, _, _, _, hE.cut ⟨rfl, rfl, trivial⟩, ((((((((((hp.get 9 rfl).get 9 rfl).get 8 rfl).get 8 rfl).get 8 rfl).get 7 rfl).get 7 rfl).get 7 rfl).get 9 rfl).get 9 rfl)⟩
      ·
        refine h_op rfl ?_
        refine s_new (wk0 rfl) rfl rfl hE hp rfl [(.slice none 0 0), (.slice none 0 0), (.slice none 0 0)] (fun w => by simp [Instr.alloc, go_sem] <;> rfl) ?_
        intro a w b18 hE hp
        have hp : Hp Z ρ (Pt b18 (.cells #[(.slice none 0 0), (.slice none 0 0), (.slice none 0 0)] 66 (0, 0)) :: _ :: _ :: _ :: L) w := hp
        refine s_nil (and_with ⟨fun _ => ⟨_, hp⟩, fun _ => ⟨_, (hp.get 2 rfl)⟩, fun _ => ⟨_, (hp.get 3 rfl)⟩, trivial⟩ fun hS => ?_)
        refine v_all [1] (by kernel_rfl) rfl ?_
        refine List.forall_mem_cons.2 ⟨?_, fun _ h => absurd h (by simp)⟩
        ·
          refine h_op rfl ?_
          refine s_call (wk0 rfl) rfl rfl hE rfl [(.agg #[(.int .i64 p0.kind), (.string p0.text), (.int .i64 p0.at_), (.int .i64 p0.fin), vp0_kids])] ⟨rfl, trivial⟩ ent34 (c_distance_flatten p0 vp0_kids hp0_kids hp x1 ex1) Ret.ret ?_
          intro v a w hR hE
          obtain ⟨vr12_labels, vr12_left, vr12_numbers, rfl, hp⟩ := Ret.of hR
          have hp : Hp Z ρ (OwnSl 70 vr12_labels x1.labels :: OwnSl 3 vr12_left x1.left :: OwnSl 3 vr12_numbers x1.numbers :: _ :: _ :: _ :: _ :: L) w := hp
          refine s_nil (and_with ⟨fun _ => ⟨_, hp⟩, fun _ => ⟨_, (hp.get 5 rfl)⟩, fun _ => ⟨_, (hp.get 6 rfl)⟩, trivial⟩ fun hS => ?_)
          refine v_all [3] (by kernel_rfl) rfl ?_
          refine List.forall_mem_cons.2 ⟨?_, fun _ h => absurd h (by simp)⟩
          ·
            refine h_op rfl ?_
            refine s_call (wk0 rfl) rfl rfl hE rfl [(.agg #[(.int .i64 p1.kind), (.string p1.text), (.int .i64 p1.at_), (.int .i64 p1.fin), vp1_kids])] ⟨rfl, trivial⟩ ent34 (c_distance_flatten p1 vp1_kids hp1_kids hp x2 ex2) Ret.ret ?_
            intro v a w hR hE
            obtain ⟨vr13_labels, vr13_left, vr13_numbers, rfl, hp⟩ := Ret.of hR
            have hp : Hp Z ρ (OwnSl 70 vr13_labels x2.labels :: OwnSl 3 vr13_left x2.left :: OwnSl 3 vr13_numbers x2.numbers :: _ :: _ :: _ :: _ :: _ :: _ :: _ :: L) w := hp
            refine s_nil (and_with ⟨fun _ => ⟨_, hp⟩, fun _ => ⟨_, (hp.get 8 rfl)⟩, fun _ => ⟨_, (hp.get 9 rfl)⟩, trivial⟩ fun hS => ?_)
            refine v_all [6] (by kernel_rfl) rfl ?_
            refine List.forall_mem_cons.2 ⟨?_, fun _ h => absurd h (by simp)⟩
            ·
              refine h_op rfl ?_
              refine s_store (wk0 rfl) rfl hE hp rfl rfl rfl 7 rfl varty66.size_ rfl (allOne_mem ⟨(OwnSl.one hp 3 rfl), (OwnSl.one hp 4 rfl), (OwnSl.one hp 5 rfl), trivial⟩) [vr12_labels, vr12_left, vr12_numbers] rfl ?_
              intro w hp
              have hp : Hp Z ρ (_ :: _ :: _ :: _ :: _ :: _ :: _ :: Pt b15 (.cells #[vr12_labels, vr12_left, vr12_numbers] 66 (0, 0)) :: _ :: _ :: L) w := hp
              refine s_nil (and_with ⟨fun _ => ⟨_, hp⟩, fun _ => ⟨_, (hp.get 8 rfl)⟩, fun _ => ⟨_, (hp.get 9 rfl)⟩, trivial⟩ fun hS => ?_)
              refine v_all [7] (by kernel_rfl) rfl ?_
              refine List.forall_mem_cons.2 ⟨?_, fun _ h => absurd h (by simp)⟩
              ·
                refine h_op rfl ?_
                refine s_store (wk0 rfl) rfl hE hp rfl rfl rfl 6 rfl varty66.size_ rfl (allOne_mem ⟨(OwnSl.one hp 0 rfl), (OwnSl.one hp 1 rfl), (OwnSl.one hp 2 rfl), trivial⟩) [vr13_labels, vr13_left, vr13_numbers] rfl ?_
                intro w hp
                have hp : Hp Z ρ (_ :: _ :: _ :: _ :: _ :: _ :: Pt b18 (.cells #[vr13_labels, vr13_left, vr13_numbers] 66 (0, 0)) :: _ :: _ :: _ :: L) w := hp
                refine s_nil (and_with ⟨fun _ => ⟨_, hp⟩, fun _ => ⟨_, (hp.get 8 rfl)⟩, fun _ => ⟨_, (hp.get 9 rfl)⟩, trivial⟩ fun hS => ?_)
                exact v_done (by kernel_rfl) ⟨_, _, _, _, _, _, _, _, hE.cut ⟨rfl, rfl, trivial⟩, ((((((((((hp.get 9 rfl).get 9 rfl).get 7 rfl).get 7 rfl).get 7 rfl).get 7 rfl).get 7 rfl).get 7 rfl).get 9 rfl).get 9 rfl)⟩
    ·
      refine h_op rfl ?_
      refine s_new (wk0 rfl) rfl rfl hE hp rfl [(.slice none 0 0), (.slice none 0 0), (.slice none 0 0)] (fun w => by simp [Instr.alloc, go_sem] <;> rfl) ?_
      intro a w b19 hE hp
      have hp : Hp Z ρ (Pt b19 (.cells #[(.slice none 0 0), (.slice none 0 0), (.slice none 0 0)] 66 (0, 0)) :: _ :: _ :: L) w := hp
      refine s_nil (and_with ⟨fun _ => ⟨_, hp⟩, fun _ => ⟨_, (hp.get 1 rfl)⟩, fun _ => ⟨_, (hp.get 2 rfl)⟩, trivial⟩ fun hS => ?_)
      refine v_all [1, 4] (by kernel_rfl) rfl ?_
      refine List.forall_mem_cons.2 ⟨?_, List.forall_mem_cons.2 ⟨?_, fun _ h => absurd h (by simp)⟩⟩
      ·
        refine h_op rfl ?_
        refine s_call (wk0 rfl) rfl rfl hE rfl [(.agg #[(.int .i64 p0.kind), (.string p0.text), (.int .i64 p0.at_), (.int .i64 p0.fin), vp0_kids])] ⟨rfl, trivial⟩ ent34 (c_distance_flatten p0 vp0_kids hp0_kids hp x1 ex1) Ret.ret ?_
        intro v a w hR hE
        obtain ⟨vr14_labels, vr14_left, vr14_numbers, rfl, hp⟩ := Ret.of hR
        have hp : Hp Z ρ (OwnSl 70 vr14_labels x1.labels :: OwnSl 3 vr14_left x1.left :: OwnSl 3 vr14_numbers x1.numbers :: _ :: _ :: _ :: L) w := hp
        refine s_nil (and_with ⟨fun _ => ⟨_, hp⟩, fun _ => ⟨_, (hp.get 4 rfl)⟩, fun _ => ⟨_, (hp.get 5 rfl)⟩, trivial⟩ fun hS => ?_)
        refine v_all [3, 4] (by kernel_rfl) rfl ?_
        refine List.forall_mem_cons.2 ⟨?_, List.forall_mem_cons.2 ⟨?_, fun _ h => absurd h (by simp)⟩⟩
        ·
          refine h_op rfl ?_
          refine s_call (wk0 rfl) rfl rfl hE rfl [(.agg #[(.int .i64 p1.kind), (.string p1.text), (.int .i64 p1.at_), (.int .i64 p1.fin), vp1_kids])] ⟨rfl, trivial⟩ ent34 (c_distance_flatten p1 vp1_kids hp1_kids hp x2 ex2) Ret.ret ?_
          intro v a w hR hE
          obtain ⟨vr15_labels, vr15_left, vr15_numbers, rfl, hp⟩ := Ret.of hR
          have hp : Hp Z ρ (OwnSl 70 vr15_labels x2.labels :: OwnSl 3 vr15_left x2.left :: OwnSl 3 vr15_numbers x2.numbers :: _ :: _ :: _ :: _ :: _ :: _ :: L) w := hp
          refine s_nil (and_with ⟨fun _ => ⟨_, hp⟩, fun _ => ⟨_, (hp.get 7 rfl)⟩, fun _ => ⟨_, (hp.get 8 rfl)⟩, trivial⟩ fun hS => ?_)
          refine v_all [4] (by kernel_rfl) rfl ?_
          refine List.forall_mem_cons.2 ⟨?_, fun _ h => absurd h (by simp)⟩
          ·
            refine h_op rfl ?_
            refine s_new (wk0 rfl) rfl rfl hE hp rfl [(.slice none 0 0), (.slice none 0 0), (.slice none 0 0)] (fun w => by simp [Instr.alloc, go_sem] <;> rfl) ?_
            intro a w b20 hE hp
            have hp : Hp Z ρ (Pt b20 (.cells #[(.slice none 0 0), (.slice none 0 0), (.slice none 0 0)] 66 (0, 0)) :: _ :: _ :: _ :: _ :: _ :: _ :: _ :: _ :: _ :: L) w := hp
            refine s_nil (and_with ⟨fun _ => ⟨_, hp⟩, fun _ => ⟨_, (hp.get 8 rfl)⟩, fun _ => ⟨_, (hp.get 9 rfl)⟩, trivial⟩ fun hS => ?_)
            refine v_all [6] (by kernel_rfl) rfl ?_
            refine List.forall_mem_cons.2 ⟨?_, fun _ h => absurd h (by simp)⟩
            ·
              refine h_op rfl ?_
              refine s_store (wk0 rfl) rfl hE hp rfl rfl rfl 0 rfl varty66.size_ rfl (allOne_mem ⟨(OwnSl.one hp 4 rfl), (OwnSl.one hp 5 rfl), (OwnSl.one hp 6 rfl), trivial⟩) [vr14_labels, vr14_left, vr14_numbers] rfl ?_
              intro w hp
              have hp : Hp Z ρ (Pt b20 (.cells #[vr14_labels, vr14_left, vr14_numbers] 66 (0, 0)) :: _ :: _ :: _ :: _ :: _ :: _ :: _ :: _ :: _ :: L) w := hp
              refine s_nil (and_with ⟨fun _ => ⟨_, hp⟩, fun _ => ⟨_, (hp.get 8 rfl)⟩, fun _ => ⟨_, (hp.get 9 rfl)⟩, trivial⟩ fun hS => ?_)
              refine v_all [7] (by kernel_rfl) rfl ?_
              refine List.forall_mem_cons.2 ⟨?_, fun _ h => absurd h (by simp)⟩
              ·
                refine h_op rfl ?_
                refine s_store (wk0 rfl) rfl hE hp rfl rfl rfl 7 rfl varty66.size_ rfl (allOne_mem ⟨(OwnSl.one hp 1 rfl), (OwnSl.one hp 2 rfl), (OwnSl.one hp 3 rfl), trivial⟩) [vr15_labels, vr15_left, vr15_numbers] rfl ?_
                intro w hp
                have hp : Hp Z ρ (_ :: _ :: _ :: _ :: _ :: _ :: _ :: Pt b19 (.cells #[vr15_labels, vr15_left, vr15_numbers] 66 (0, 0)) :: _ :: _ :: L) w := hp
                refine s_nil (and_with ⟨fun _ => ⟨_, hp⟩, fun _ => ⟨_, (hp.get 8 rfl)⟩, fun _ => ⟨_, (hp.get 9 rfl)⟩, trivial⟩ fun hS => ?_)
                exact v_done (by kernel_rfl) ⟨_, _, _, _, _, _, _, _, hE.cut ⟨rfl, rfl, trivial⟩, ((((((((((hp.get 9 rfl).get 9 rfl).get 8 rfl).get 8 rfl).get 8 rfl).get 8 rfl).get 8 rfl).get 8 rfl).get 8 rfl).get 9 rfl)⟩
        ·
          refine h_op rfl ?_
          refine s_new (wk0 rfl) rfl rfl hE hp rfl [(.slice none 0 0), (.slice none 0 0), (.slice none 0 0)] (fun w => by simp [Instr.alloc, go_sem] <;> rfl) ?_
          intro a w b21 hE hp
          have hp : Hp Z ρ (Pt b21 (.cells #[(.slice none 0 0), (.slice none 0 0), (.slice none 0 0)] 66 (0, 0)) :: _ :: _ :: _ :: _ :: _ :: _ :: L) w := hp
          refine s_nil (and_with ⟨fun _ => ⟨_, hp⟩, fun _ => ⟨_, (hp.get 5 rfl)⟩, fun _ => ⟨_, (hp.get 6 rfl)⟩, trivial⟩ fun hS => ?_)
          refine v_all [3] (by kernel_rfl) rfl ?_
          refine List.forall_mem_cons.2 ⟨?_, fun _ h => absurd h (by simp)⟩
          ·
            refine h_op rfl ?_
            refine s_call (wk0 rfl) rfl rfl hE rfl [(.agg #[(.int .i64 p1.kind), (.string p1.text), (.int .i64 p1.at_), (.int .i64 p1.fin), vp1_kids])] ⟨rfl, trivial⟩ ent34 (c_distance_flatten p1 vp1_kids hp1_kids hp x2 ex2) Ret.ret ?_
            intro v a w hR hE
            obtain ⟨vr16_labels, vr16_left, vr16_numbers, rfl, hp⟩ := Ret.of hR
            have hp : Hp Z ρ (OwnSl 70 vr16_labels x2.labels :: OwnSl 3 vr16_left x2.left :: OwnSl 3 vr16_numbers x2.numbers :: _ :: _ :: _ :: _ :: _ :: _ :: _ :: L) w := hp
            refine s_nil (and_with ⟨fun _ => ⟨_, hp⟩, fun _ => ⟨_, (hp.get 8 rfl)⟩, fun _ => ⟨_, (hp.get 9 rfl)⟩, trivial⟩ fun hS => ?_)
            refine v_all [6] (by kernel_rfl) rfl ?_
            refine List.forall_mem_cons.2 ⟨?_, fun _ h => absurd h (by simp)⟩
            ·
              refine h_op rfl ?_
              refine s_store (wk0 rfl) rfl hE hp rfl rfl rfl 3 rfl varty66.size_ rfl (allOne_mem ⟨(OwnSl.one hp 4 rfl), (OwnSl.one hp 5 rfl), (OwnSl.one hp 6 rfl), trivial⟩) [vr14_labels, vr14_left, vr14_numbers] rfl ?_
              intro w hp
              have hp : Hp Z ρ (_ :: _ :: _ :: Pt b21 (.cells #[vr14_labels, vr14_left, vr14_numbers] 66 (0, 0)) :: _ :: _ :: _ :: _ :: _ :: _ :: L) w := hp
              refine s_nil (and_with ⟨fun _ => ⟨_, hp⟩, fun _ => ⟨_, (hp.get 8 rfl)⟩, fun _ => ⟨_, (hp.get 9 rfl)⟩, trivial⟩ fun hS => ?_)
              refine v_all [7] (by kernel_rfl) rfl ?_
              refine List.forall_mem_cons.2 ⟨?_, fun _ h => absurd h (by simp)⟩
              ·
                refine h_op rfl ?_
                refine s_store (wk0 rfl) rfl hE hp rfl rfl rfl 7 rfl varty66.size_ rfl (allOne_mem ⟨(OwnSl.one hp 0 rfl), (OwnSl.one hp 1 rfl), (OwnSl.one hp 2 rfl), trivial⟩) [vr16_labels, vr16_left, vr16_numbers] rfl ?_
                intro w hp
                have hp : Hp Z ρ (_ :: _ :: _ :: _ :: _ :: _ :: _ :: Pt b19 (.cells #[vr16_labels, vr16_left, vr16_numbers] 66 (0, 0)) :: _ :: _ :: L) w := hp
                refine s_nil (and_with ⟨fun _ => ⟨_, hp⟩, fun _ => ⟨_, (hp.get 8 rfl)⟩, fun _ => ⟨_, (hp.get 9 rfl)⟩, trivial⟩ fun hS => ?_)
                exact v_done (by kernel_rfl) ⟨_, _, _, _, _, _, _, _, hE.cut ⟨rfl, rfl, trivial⟩, ((((((((((hp.get 9 rfl).get 9 rfl).get 8 rfl).get 8 rfl).get 8 rfl).get 7 rfl).get 7 rfl).get 7 rfl).get 8 rfl).get 9 rfl)⟩
      ·
        refine h_op rfl ?_
        refine s_new (wk0 rfl) rfl rfl hE hp rfl [(.slice none 0 0), (.slice none 0 0), (.slice none 0 0)] (fun w => by simp [Instr.alloc, go_sem] <;> rfl) ?_
        intro a w b22 hE hp
        have hp : Hp Z ρ (Pt b22 (.cells #[(.slice none 0 0), (.slice none 0 0), (.slice none 0 0)] 66 (0, 0)) :: _ :: _ :: _ :: L) w := hp
        refine s_nil (and_with ⟨fun _ => ⟨_, hp⟩, fun _ => ⟨_, (hp.get 2 rfl)⟩, fun _ => ⟨_, (hp.get 3 rfl)⟩, trivial⟩ fun hS => ?_)
        refine v_all [1] (by kernel_rfl) rfl ?_
        refine List.forall_mem_cons.2 ⟨?_, fun _ h => absurd h (by simp)⟩
        ·
          refine h_op rfl ?_
          refine s_call (wk0 rfl) rfl rfl hE rfl [(.agg #[(.int .i64 p0.kind), (.string p0.text), (.int .i64 p0.at_), (.int .i64 p0.fin), vp0_kids])] ⟨rfl, trivial⟩ ent34 (c_distance_flatten p0 vp0_kids hp0_kids hp x1 ex1) Ret.ret ?_
          intro v a w hR hE
          obtain ⟨vr17_labels, vr17_left, vr17_numbers, rfl, hp⟩ := Ret.of hR
          have hp : Hp Z ρ (OwnSl 70 vr17_labels x1.labels :: OwnSl 3 vr17_left x1.left :: OwnSl 3 vr17_numbers x1.numbers :: _ :: _ :: _ :: _ :: L) w := hp
          refine s_nil (and_with ⟨fun _ => ⟨_, hp⟩, fun _ => ⟨_, (hp.get 5 rfl)⟩, fun _ => ⟨_, (hp.get 6 rfl)⟩, trivial⟩ fun hS => ?_)
          refine v_all [3] (by kernel_rfl) rfl ?_
          refine List.forall_mem_cons.2 ⟨?_, fun _ h => absurd h (by simp)⟩
          ·
            refine h_op rfl ?_
            refine s_call (wk0 rfl) rfl rfl hE rfl [(.agg #[(.int .i64 p1.kind), (.string p1.text), (.int .i64 p1.at_), (.int .i64 p1.fin), vp1_kids])] ⟨rfl, trivial⟩ ent34 (c_distance_flatten p1 vp1_kids hp1_kids hp x2 ex2) Ret.ret ?_
            intro v a w hR hE
            obtain ⟨vr18_labels, vr18_left, vr18_numbers, rfl, hp⟩ := Ret.of hR
            have hp : Hp Z ρ (OwnSl 70 vr18_labels x2.labels :: OwnSl 3 vr18_left x2.left :: OwnSl 3 vr18_numbers x2.numbers :: _ :: _ :: _ :: _ :: _ :: _ :: _ :: L) w := hp
            refine s_nil (and_with ⟨fun _ => ⟨_, hp⟩, fun _ => ⟨_, (hp.get 8 rfl)⟩, fun _ => ⟨_, (hp.get 9 rfl)⟩, trivial⟩ fun hS => ?_)
            refine v_all [6] (by kernel_rfl) rfl ?_
            refine List.forall_mem_cons.2 ⟨?_, fun _ h => absurd h (by simp)⟩
            ·
              refine h_op rfl ?_
              refine s_store (wk0 rfl) rfl hE hp rfl rfl rfl 6 rfl varty66.size_ rfl (allOne_mem ⟨(OwnSl.one hp 3 rfl), (OwnSl.one hp 4 rfl), (OwnSl.one hp 5 rfl), trivial⟩) [vr17_labels, vr17_left, vr17_numbers] rfl ?_
              intro w hp
              have hp : Hp Z ρ (_ :: _ :: _ :: _ :: _ :: _ :: Pt b22 (.cells #[vr17_labels, vr17_left, vr17_numbers] 66 (0, 0)) :: _ :: _ :: _ :: L) w := hp
              refine s_nil (and_with ⟨fun _ => ⟨_, hp⟩, fun _ => ⟨_, (hp.get 8 rfl)⟩, fun _ => ⟨_, (hp.get 9 rfl)⟩, trivial⟩ fun hS => ?_)
              refine v_all [7] (by kernel_rfl) rfl ?_
              refine List.forall_mem_cons.2 ⟨?_, fun _ h => absurd h (by simp)⟩
              ·
                refine h_op rfl ?_
                refine s_store (wk0 rfl) rfl hE hp rfl rfl rfl 7 rfl varty66.size_ rfl (allOne_mem ⟨(OwnSl.one hp 0 rfl), (OwnSl.one hp 1 rfl), (OwnSl.one hp 2 rfl), trivial⟩) [vr18_labels, vr18_left, vr18_numbers] rfl ?_
                intro w hp
                have hp : Hp Z ρ (_ :: _ :: _ :: _ :: _ :: _ :: _ :: Pt b19 (.cells #[vr18_labels, vr18_left, vr18_numbers] 66 (0, 0)) :: _ :: _ :: L) w := hp
                refine s_nil (and_with ⟨fun _ => ⟨_, hp⟩, fun _ => ⟨_, (hp.get 8 rfl)⟩, fun _ => ⟨_, (hp.get 9 rfl)⟩, trivial⟩ fun hS => ?_)
                exact v_done (by kernel_rfl) ⟨_, _, _, _, _, _, _, _, hE.cut ⟨rfl, rfl, trivial⟩, ((((((((((hp.get 9 rfl).get 9 rfl).get 7 rfl).get 7 rfl).get 7 rfl).get 7 rfl).get 7 rfl).get 7 rfl).get 8 rfl).get 9 rfl)⟩
  · rintro a w ⟨y11, y10, y7, y8, y9, y4, y5, y6, hE, hp⟩
    refine k_seq ?_
    refine k_region ?_
    refine s_val (wk0 rfl) rfl rfl hE hp (v := (.pointer (some ⟨y10, 0, none⟩))) (ex_field rfl hE rfl (fldty66_0 _ _)) ?_
    intro a hE
    refine s_val (wk0 rfl) rfl rfl hE hp (v := y4) (ex_load rfl hE rfl (fun w hw => run_ld1 varty64 (Hp.c 1 rfl 0 rfl w hw))) ?_
    intro a hE
    refine s_val (wk0 rfl) rfl rfl hE hp (v := (.int .i64 (x1.labels.length : Int))) (ex_len rfl hE rfl (OwnSl.len hp 5 rfl slty64)) ?_
    intro a hE
    refine s_val (wk0 rfl) rfl rfl hE hp (v := (.pointer (some ⟨y11, 0, none⟩))) (ex_field rfl hE rfl (fldty66_0 _ _)) ?_
    intro a hE
    refine s_val (wk0 rfl) rfl rfl hE hp (v := y7) (ex_load rfl hE rfl (fun w hw => run_ld1 varty64 (Hp.c 0 rfl 0 rfl w hw))) ?_
    intro a hE
    refine s_val (wk0 rfl) rfl rfl hE hp (v := (.int .i64 (x2.labels.length : Int))) (ex_len rfl hE rfl (OwnSl.len hp 2 rfl slty64)) ?_
    intro a hE
    obtain ⟨x3, ex3, hm⟩ := bnd hm
    refine s_call (wk0 rfl) rfl rfl hE rfl [(.int .i64 (x1.labels.length : Int)), (.int .i64 (x2.labels.length : Int))] ⟨rfl, rfl, trivial⟩ ent36 (c_distance_table (x1.labels.length : Int) (x2.labels.length : Int) hp x3 ex3) Ret.ret ?_
    intro vr19 a w hR hE
    obtain ⟨u, usr19, rfl, hp⟩ := Ret.of hR
    have hp : Hp Z ρ (TblA 34 3 vr19 usr19 (x3 : (List (List Int))) :: Pt y11 (.cells #[y7, y8, y9] 66 (0, 0)) :: Pt y10 (.cells #[y4, y5, y6] 66 (0, 0)) :: OwnSl 70 y7 x2.labels :: OwnSl 3 y8 x2.left :: OwnSl 3 y9 x2.numbers :: OwnSl 70 y4 x1.labels :: OwnSl 3 y5 x1.left :: OwnSl 3 y6 x1.numbers :: _ :: _ :: L) w := hp
    refine s_val (wk0 rfl) rfl rfl hE hp (v := vr19) (ex_asn rfl hE rfl) ?_
    intro a hE
    refine s_nil ?_
    refine k_seq ?_
    refine k_region ?_
    refine s_val (wk0 rfl) rfl rfl hE hp (v := (.agg #[y4, y5, y6])) (ex_load rfl hE rfl (fun w hw => run_ldN (cs := [y4, y5, y6]) varty66 (Hp.cN 2 rfl 0 _ (sub_all rfl) w hw))) ?_
    intro a hE
    refine s_val (wk0 rfl) rfl rfl hE hp (v := (.agg #[y7, y8, y9])) (ex_load rfl hE rfl (fun w hw => run_ldN (cs := [y7, y8, y9]) varty66 (Hp.cN 1 rfl 0 _ (sub_all rfl) w hw))) ?_
    intro a hE
    refine s_val (wk0 rfl) rfl rfl hE hp (v := vr19) (ex_move rfl hE rfl) ?_
    intro a hE
    obtain ⟨k1, k1a, k1d, hp⟩ := (hp.get 6 rfl).lend
    have f1 : RoSl (ρ.un k1) y4 x1.labels := OwnSl.ro k1d k1a
    have hp : Hp Z (ρ.un k1) (_ :: _ :: _ :: _ :: _ :: _ :: _ :: _ :: _ :: _ :: L) w := hp
    obtain ⟨k2, k2a, k2d, hp⟩ := (hp.get 6 rfl).lend
    have f2 : RoSl ((ρ.un k1).un k2) y5 x1.left := OwnSl.ro k2d k2a
    have hp : Hp Z ((ρ.un k1).un k2) (_ :: _ :: _ :: _ :: _ :: _ :: _ :: _ :: _ :: L) w := hp
    obtain ⟨k3, k3a, k3d, hp⟩ := (hp.get 6 rfl).lend
    have f3 : RoSl (((ρ.un k1).un k2).un k3) y6 x1.numbers := OwnSl.ro k3d k3a
    have hp : Hp Z (((ρ.un k1).un k2).un k3) (_ :: _ :: _ :: _ :: _ :: _ :: _ :: _ :: L) w := hp
    obtain ⟨k4, k4a, k4d, hp⟩ := (hp.get 3 rfl).lend
    have f4 : RoSl ((((ρ.un k1).un k2).un k3).un k4) y7 x2.labels := OwnSl.ro k4d k4a
    have hp : Hp Z ((((ρ.un k1).un k2).un k3).un k4) (_ :: _ :: _ :: _ :: _ :: _ :: _ :: L) w := hp
    obtain ⟨k5, k5a, k5d, hp⟩ := (hp.get 3 rfl).lend
    have f5 : RoSl (((((ρ.un k1).un k2).un k3).un k4).un k5) y8 x2.left := OwnSl.ro k5d k5a
    have hp : Hp Z (((((ρ.un k1).un k2).un k3).un k4).un k5) (_ :: _ :: _ :: _ :: _ :: _ :: L) w := hp
    obtain ⟨k6, k6a, k6d, hp⟩ := (hp.get 3 rfl).lend
    have f6 : RoSl ((((((ρ.un k1).un k2).un k3).un k4).un k5).un k6) y9 x2.numbers := OwnSl.ro k6d k6a
    have hp : Hp Z ((((((ρ.un k1).un k2).un k3).un k4).un k5).un k6) (_ :: _ :: _ :: _ :: _ :: L) w := hp
    obtain ⟨x4, ex4, hm⟩ := bnd hm
    refine s_call (wk0 rfl) rfl rfl hE rfl [(.agg #[y4, y5, y6]), (.agg #[y7, y8, y9]), vr19] ⟨rfl, rfl, rfl, trivial⟩ ent41 (c_distance_filler x1 y4 (RoSl.mono (RoSl.mono (RoSl.mono (RoSl.mono (RoSl.mono f1 (PH.le_un _ k2)) (PH.le_un _ k3)) (PH.le_un _ k4)) (PH.le_un _ k5)) (PH.le_un _ k6)) y5 (RoSl.mono (RoSl.mono (RoSl.mono (RoSl.mono f2 (PH.le_un _ k3)) (PH.le_un _ k4)) (PH.le_un _ k5)) (PH.le_un _ k6)) y6 (RoSl.mono (RoSl.mono (RoSl.mono f3 (PH.le_un _ k4)) (PH.le_un _ k5)) (PH.le_un _ k6)) x2 y7 (RoSl.mono (RoSl.mono f4 (PH.le_un _ k5)) (PH.le_un _ k6)) y8 (RoSl.mono f5 (PH.le_un _ k6)) y9 f6 x3 vr19 usr19 hp x4 ex4) Ret.ret ?_
    intro v a w hR hE
    obtain ⟨b23, b24, b25, rfl, hp⟩ := Ret.of hR
    have hp : Hp Z ((((((ρ.un k1).un k2).un k3).un k4).un k5).un k6) (Pt b23 (.cells #[y4, y5, y6] 66 (0, 0)) :: Pt b24 (.cells #[y7, y8, y9] 66 (0, 0)) :: Pt b25 (.cells #[vr19] 30 (0, 0)) :: TblA 34 3 vr19 usr19 (x4 : (List (List Int))) :: _ :: _ :: _ :: _ :: L) w := hp
    refine s_val (wk0 rfl) rfl rfl hE hp (v := (.func (.func 46) #[] #[(.pointer (some ⟨b23, 0, none⟩)), (.pointer (some ⟨b24, 0, none⟩)), (.pointer (some ⟨b25, 0, none⟩))])) (ex_asn rfl hE rfl) ?_
    intro a hE
    refine s_nil ?_
    refine k_seq ?_
    refine k_seq ?_
    refine k_region ?_
    refine s_val (wk0 rfl) rfl rfl hE hp (v := (.agg #[y4, y5, y6])) (ex_load rfl hE rfl (fun w hw => run_ldN (cs := [y4, y5, y6]) varty66 (Hp.cN 5 rfl 0 _ (sub_all rfl) w hw))) ?_
    intro a hE
    obtain ⟨x5, ex5, hm⟩ := bnd hm
    refine s_call (wk0 rfl) rfl rfl hE rfl [(.agg #[y4, y5, y6])] ⟨rfl, trivial⟩ ent42 (c_distance_flat_roots x1 y4 (RoSl.mono (RoSl.mono (RoSl.mono (RoSl.mono (RoSl.mono f1 (PH.le_un _ k2)) (PH.le_un _ k3)) (PH.le_un _ k4)) (PH.le_un _ k5)) (PH.le_un _ k6)) y5 (RoSl.mono (RoSl.mono (RoSl.mono (RoSl.mono f2 (PH.le_un _ k3)) (PH.le_un _ k4)) (PH.le_un _ k5)) (PH.le_un _ k6)) y6 (RoSl.mono (RoSl.mono (RoSl.mono f3 (PH.le_un _ k4)) (PH.le_un _ k5)) (PH.le_un _ k6)) hp x5 ex5) Ret.ret ?_
    intro vr20 a w hR hE
    obtain ⟨u, rfl, hp⟩ := Ret.of hR
    have hp : Hp Z ((((((ρ.un k1).un k2).un k3).un k4).un k5).un k6) (OwnSl 3 vr20 x5 :: _ :: _ :: _ :: _ :: _ :: _ :: _ :: _ :: L) w := hp
    refine s_val (wk0 rfl) rfl rfl hE hp (v := (.int .i64 (x5.length : Int))) (ex_len rfl hE rfl (OwnSl.len hp 0 rfl slty34)) ?_
    intro a hE
    refine s_val (wk0 rfl) rfl rfl hE hp (v := (.int .i64 0)) (ex_move rfl hE rfl) ?_
    intro a hE
    refine s_nil ?_
    obtain ⟨b26, hb1, hm⟩ := bnd hm
    refine k_block (fun a w => Env 92 [(5, (.pointer (some ⟨y10, 0, none⟩))), (6, (.pointer (some ⟨y11, 0, none⟩))), (7, vr19)] a ∧ Hp Z ((((((ρ.un k1).un k2).un k3).un k4).un k5).un k6) (OwnSl 3 vr20 x5 :: Pt b23 (.cells #[y4, y5, y6] 66 (0, 0)) :: Pt b24 (.cells #[y7, y8, y9] 66 (0, 0)) :: Pt b25 (.cells #[vr19] 30 (0, 0)) :: TblA 34 3 vr19 usr19 (b26 : (List (List Int))) :: Pt y11 (.cells #[y7, y8, y9] 66 (0, 0)) :: Pt y10 (.cells #[y4, y5, y6] 66 (0, 0)) :: Pt b2 (.cells #[(.int .i64 p1.kind), (.string p1.text), (.int .i64 p1.at_), (.int .i64 p1.fin), vp1_kids] 24 (0, 0)) :: Pt b1 (.cells #[(.int .i64 p0.kind), (.string p0.text), (.int .i64 p0.at_), (.int .i64 p0.fin), vp0_kids] 24 (0, 0)) :: L) w) ?_ ?_
    · refine k_loop hb1 (fun s a w => Env 92 [(5, (.pointer (some ⟨y10, 0, none⟩))), (6, (.pointer (some ⟨y11, 0, none⟩))), (7, vr19), (8, (.func (.func 46) #[] #[(.pointer (some ⟨b23, 0, none⟩)), (.pointer (some ⟨b24, 0, none⟩)), (.pointer (some ⟨b25, 0, none⟩))])), (34, vr20), (35, (.int .i64 (x5.length : Int))), (36, (.int .i64 s.1))] a ∧ Hp Z ((((((ρ.un k1).un k2).un k3).un k4).un k5).un k6) (OwnSl 3 vr20 x5 :: Pt b23 (.cells #[y4, y5, y6] 66 (0, 0)) :: Pt b24 (.cells #[y7, y8, y9] 66 (0, 0)) :: Pt b25 (.cells #[vr19] 30 (0, 0)) :: TblA 34 3 vr19 usr19 (s.2 : (List (List Int))) :: Pt y11 (.cells #[y7, y8, y9] 66 (0, 0)) :: Pt y10 (.cells #[y4, y5, y6] 66 (0, 0)) :: Pt b2 (.cells #[(.int .i64 p1.kind), (.string p1.text), (.int .i64 p1.at_), (.int .i64 p1.fin), vp1_kids] 24 (0, 0)) :: Pt b1 (.cells #[(.int .i64 p0.kind), (.string p0.text), (.int .i64 p0.at_), (.int .i64 p0.fin), vp0_kids] 24 (0, 0)) :: L) w) ?_ ?_
      · exact ⟨hE.cut ⟨rfl, rfl, rfl, rfl, rfl, rfl, rfl, trivial⟩, hp⟩
      · rintro ⟨lp1_0, lp1_1⟩ st a w ⟨hE, hp⟩ hl1
        have hE : Env 92 [(5, (.pointer (some ⟨y10, 0, none⟩))), (6, (.pointer (some ⟨y11, 0, none⟩))), (7, vr19), (8, (.func (.func 46) #[] #[(.pointer (some ⟨b23, 0, none⟩)), (.pointer (some ⟨b24, 0, none⟩)), (.pointer (some ⟨b25, 0, none⟩))])), (34, vr20), (35, (.int .i64 (x5.length : Int))), (36, (.int .i64 lp1_0))] a := hE
        have hp : Hp Z ((((((ρ.un k1).un k2).un k3).un k4).un k5).un k6) (_ :: _ :: _ :: _ :: TblA 34 3 vr19 usr19 (lp1_1 : (List (List Int))) :: _ :: _ :: _ :: _ :: L) w := hp
        replace hl1 : m_distance_subtrees_lp1 x1 x2 x5 lp1_0 lp1_1 = some st := hl1
        unfold m_distance_subtrees_lp1 at hl1
        refine k_seq ?_
        refine k_region ?_
        refine s_val (wk0 rfl) rfl rfl hE hp (v := (.bool (decide (lp1_0 < (x5.length : Int))))) (ex_lss rfl hE rfl rfl) ?_
        intro a hE
        refine s_nil ?_
        refine k_seq ?_
        refine k_if hE rfl (fun hb2 => ?_) (fun hb2 => ?_)
        · replace hl1 := (it hb2).symm.trans hl1
          refine k_skip ?_
          refine k_seq ?_
          refine k_plain ?_
          refine k_seq ?_
          refine k_region ?_
          obtain ⟨x6, ex6, hl1⟩ := bnd hl1
          obtain ⟨b27, b27o, b27r, b27v, b27f⟩ := OwnSl.at hp 0 rfl slty34 ex6
          have b27f : ∀ (j : Nat) (u : Value), ([(.int .i64 x6)] : List Value)[j]? = some u → ∀ ρ' L' w, Hp Z ρ' (OwnSl 3 vr20 x5 :: L') w → w.cell? ⟨b27, b27o + j, none⟩ = some u := b27f
          refine s_val (wk0 rfl) rfl rfl hE hp (v := (.pointer (some ⟨b27, b27o, none⟩))) (ex_index rfl hE rfl rfl b27r) ?_
          intro a hE
          refine s_val (wk0 rfl) rfl rfl hE hp (v := (.int .i64 x6)) (ex_load rfl hE rfl (fun w hw => run_ld1 varty3 (b27f 0 _ rfl _ _ w (hw.get 0 rfl)))) ?_
          intro a hE
          refine s_val (wk0 rfl) rfl rfl hE hp (v := (.int .i64 x6)) (ex_asn rfl hE rfl) ?_
          intro a hE
          refine s_nil ?_
          refine k_seq ?_
          refine k_region ?_
          refine s_val (wk0 rfl) rfl rfl hE hp (v := (.agg #[y7, y8, y9])) (ex_load rfl hE rfl (fun w hw => run_ldN (cs := [y7, y8, y9]) varty66 (Hp.cN 5 rfl 0 _ (sub_all rfl) w hw))) ?_
          intro a hE
          obtain ⟨x7, ex7, hl1⟩ := bnd hl1
          refine s_call (wk0 rfl) rfl rfl hE rfl [(.agg #[y7, y8, y9])] ⟨rfl, trivial⟩ ent42 (c_distance_flat_roots x2 y7 (RoSl.mono (RoSl.mono f4 (PH.le_un _ k5)) (PH.le_un _ k6)) y8 (RoSl.mono f5 (PH.le_un _ k6)) y9 f6 hp x7 ex7) Ret.ret ?_
          intro vr21 a w hR hE
          obtain ⟨u, rfl, hp⟩ := Ret.of hR
          have hp : Hp Z ((((((ρ.un k1).un k2).un k3).un k4).un k5).un k6) (OwnSl 3 vr21 x7 :: _ :: _ :: _ :: _ :: _ :: _ :: _ :: _ :: _ :: L) w := hp
          refine s_val (wk0 rfl) rfl rfl hE hp (v := (.int .i64 (x7.length : Int))) (ex_len rfl hE rfl (OwnSl.len hp 0 rfl slty34)) ?_
          intro a hE
          refine s_val (wk0 rfl) rfl rfl hE hp (v := (.int .i64 0)) (ex_move rfl hE rfl) ?_
          intro a hE
          refine s_nil ?_
          have hE := hE.cut (E' := [(5, (.pointer (some ⟨y10, 0, none⟩))), (6, (.pointer (some ⟨y11, 0, none⟩))), (7, vr19), (8, (.func (.func 46) #[] #[(.pointer (some ⟨b23, 0, none⟩)), (.pointer (some ⟨b24, 0, none⟩)), (.pointer (some ⟨b25, 0, none⟩))])), (10, (.int .i64 x6)), (34, vr20), (35, (.int .i64 (x5.length : Int))), (36, (.int .i64 lp1_0)), (41, vr21), (42, (.int .i64 (x7.length : Int))), (43, (.int .i64 0))]) ⟨rfl, rfl, rfl, rfl, rfl, rfl, rfl, rfl, rfl, rfl, rfl, trivial⟩
          obtain ⟨b28, hb3, hl1⟩ := bnd hl1
          refine k_block (fun a w => Env 92 [(5, (.pointer (some ⟨y10, 0, none⟩))), (6, (.pointer (some ⟨y11, 0, none⟩))), (7, vr19), (8, (.func (.func 46) #[] #[(.pointer (some ⟨b23, 0, none⟩)), (.pointer (some ⟨b24, 0, none⟩)), (.pointer (some ⟨b25, 0, none⟩))])), (34, vr20), (35, (.int .i64 (x5.length : Int))), (36, (.int .i64 lp1_0))] a ∧ Hp Z ((((((ρ.un k1).un k2).un k3).un k4).un k5).un k6) (OwnSl 3 vr21 x7 :: OwnSl 3 vr20 x5 :: Pt b23 (.cells #[y4, y5, y6] 66 (0, 0)) :: Pt b24 (.cells #[y7, y8, y9] 66 (0, 0)) :: Pt b25 (.cells #[vr19] 30 (0, 0)) :: TblA 34 3 vr19 usr19 (b28 : (List (List Int))) :: Pt y11 (.cells #[y7, y8, y9] 66 (0, 0)) :: Pt y10 (.cells #[y4, y5, y6] 66 (0, 0)) :: Pt b2 (.cells #[(.int .i64 p1.kind), (.string p1.text), (.int .i64 p1.at_), (.int .i64 p1.fin), vp1_kids] 24 (0, 0)) :: Pt b1 (.cells #[(.int .i64 p0.kind), (.string p0.text), (.int .i64 p0.at_), (.int .i64 p0.fin), vp0_kids] 24 (0, 0)) :: L) w) ?_ ?_
          · refine k_loop hb3 (fun s a w => Env 92 [(5, (.pointer (some ⟨y10, 0, none⟩))), (6, (.pointer (some ⟨y11, 0, none⟩))), (7, vr19), (8, (.func (.func 46) #[] #[(.pointer (some ⟨b23, 0, none⟩)), (.pointer (some ⟨b24, 0, none⟩)), (.pointer (some ⟨b25, 0, none⟩))])), (10, (.int .i64 x6)), (34, vr20), (35, (.int .i64 (x5.length : Int))), (36, (.int .i64 lp1_0)), (41, vr21), (42, (.int .i64 (x7.length : Int))), (43, (.int .i64 s.1))] a ∧ Hp Z ((((((ρ.un k1).un k2).un k3).un k4).un k5).un k6) (OwnSl 3 vr21 x7 :: OwnSl 3 vr20 x5 :: Pt b23 (.cells #[y4, y5, y6] 66 (0, 0)) :: Pt b24 (.cells #[y7, y8, y9] 66 (0, 0)) :: Pt b25 (.cells #[vr19] 30 (0, 0)) :: TblA 34 3 vr19 usr19 (s.2 : (List (List Int))) :: Pt y11 (.cells #[y7, y8, y9] 66 (0, 0)) :: Pt y10 (.cells #[y4, y5, y6] 66 (0, 0)) :: Pt b2 (.cells #[(.int .i64 p1.kind), (.string p1.text), (.int .i64 p1.at_), (.int .i64 p1.fin), vp1_kids] 24 (0, 0)) :: Pt b1 (.cells #[(.int .i64 p0.kind), (.string p0.text), (.int .i64 p0.at_), (.int .i64 p0.fin), vp0_kids] 24 (0, 0)) :: L) w) ?_ ?_
            · exact ⟨hE.cut ⟨rfl, rfl, rfl, rfl, rfl, rfl, rfl, rfl, rfl, rfl, rfl, trivial⟩, hp⟩
            · rintro ⟨lp2_0, lp2_1⟩ st a w ⟨hE, hp⟩ hl2
              have hE : Env 92 [(5, (.pointer (some ⟨y10, 0, none⟩))), (6, (.pointer (some ⟨y11, 0, none⟩))), (7, vr19), (8, (.func (.func 46) #[] #[(.pointer (some ⟨b23, 0, none⟩)), (.pointer (some ⟨b24, 0, none⟩)), (.pointer (some ⟨b25, 0, none⟩))])), (10, (.int .i64 x6)), (34, vr20), (35, (.int .i64 (x5.length : Int))), (36, (.int .i64 lp1_0)), (41, vr21), (42, (.int .i64 (x7.length : Int))), (43, (.int .i64 lp2_0))] a := hE
              have hp : Hp Z ((((((ρ.un k1).un k2).un k3).un k4).un k5).un k6) (_ :: _ :: _ :: _ :: _ :: TblA 34 3 vr19 usr19 (lp2_1 : (List (List Int))) :: _ :: _ :: _ :: _ :: L) w := hp
              replace hl2 : m_distance_subtrees_lp2 x1 x2 x6 x7 lp2_0 lp2_1 = some st := hl2
              unfold m_distance_subtrees_lp2 at hl2
              refine k_seq ?_
              refine k_region ?_
              refine s_val (wk0 rfl) rfl rfl hE hp (v := (.bool (decide (lp2_0 < (x7.length : Int))))) (ex_lss rfl hE rfl rfl) ?_
              intro a hE
              refine s_nil ?_
              refine k_seq ?_
              refine k_if hE rfl (fun hb4 => ?_) (fun hb4 => ?_)
              · replace hl2 := (it hb4).symm.trans hl2
                refine k_skip ?_
                refine k_seq ?_
                refine k_plain ?_
                refine k_seq ?_
                refine k_region ?_
                obtain ⟨x8, ex8, hl2⟩ := bnd hl2
                obtain ⟨b29, b29o, b29r, b29v, b29f⟩ := OwnSl.at hp 0 rfl slty34 ex8
                have b29f : ∀ (j : Nat) (u : Value), ([(.int .i64 x8)] : List Value)[j]? = some u → ∀ ρ' L' w, Hp Z ρ' (OwnSl 3 vr21 x7 :: L') w → w.cell? ⟨b29, b29o + j, none⟩ = some u := b29f
                refine s_val (wk0 rfl) rfl rfl hE hp (v := (.pointer (some ⟨b29, b29o, none⟩))) (ex_index rfl hE rfl rfl b29r) ?_
                intro a hE
                refine s_val (wk0 rfl) rfl rfl hE hp (v := (.int .i64 x8)) (ex_load rfl hE rfl (fun w hw => run_ld1 varty3 (b29f 0 _ rfl _ _ w (hw.get 0 rfl)))) ?_
                intro a hE
                refine s_val (wk0 rfl) rfl rfl hE hp (v := (.int .i64 x8)) (ex_asn rfl hE rfl) ?_
                intro a hE
                refine s_nil ?_
                have hE := hE.cut (E' := [(5, (.pointer (some ⟨y10, 0, none⟩))), (6, (.pointer (some ⟨y11, 0, none⟩))), (7, vr19), (8, (.func (.func 46) #[] #[(.pointer (some ⟨b23, 0, none⟩)), (.pointer (some ⟨b24, 0, none⟩)), (.pointer (some ⟨b25, 0, none⟩))])), (10, (.int .i64 x6)), (12, (.int .i64 x8)), (34, vr20), (35, (.int .i64 (x5.length : Int))), (36, (.int .i64 lp1_0)), (41, vr21), (42, (.int .i64 (x7.length : Int))), (43, (.int .i64 lp2_0))]) ⟨rfl, rfl, rfl, rfl, rfl, rfl, rfl, rfl, rfl, rfl, rfl, rfl, trivial⟩
                refine k_region ?_
                refine s_val (wk0 rfl) rfl rfl hE hp (v := (.func (.func 46) #[] #[(.pointer (some ⟨b23, 0, none⟩)), (.pointer (some ⟨b24, 0, none⟩)), (.pointer (some ⟨b25, 0, none⟩))])) (ex_move rfl hE rfl) ?_
                intro a hE
                refine s_val (wk0 rfl) rfl rfl hE hp (v := (.int .i64 x6)) (ex_move rfl hE rfl) ?_
                intro a hE
                refine s_val (wk0 rfl) rfl rfl hE hp (v := (.int .i64 x8)) (ex_move rfl hE rfl) ?_
                intro a hE
                obtain ⟨x9, ex9, hl2⟩ := bnd hl2
                refine s_callv (wk0 rfl) rfl rfl hE rfl rfl [(.int .i64 x6), (.int .i64 x8)] ⟨rfl, rfl, trivial⟩ ent46 (c_distance_filler_1 x6 x8 b23 x1 y4 (RoSl.mono (RoSl.mono (RoSl.mono (RoSl.mono (RoSl.mono f1 (PH.le_un _ k2)) (PH.le_un _ k3)) (PH.le_un _ k4)) (PH.le_un _ k5)) (PH.le_un _ k6)) y5 (RoSl.mono (RoSl.mono (RoSl.mono (RoSl.mono f2 (PH.le_un _ k3)) (PH.le_un _ k4)) (PH.le_un _ k5)) (PH.le_un _ k6)) y6 (RoSl.mono (RoSl.mono (RoSl.mono f3 (PH.le_un _ k4)) (PH.le_un _ k5)) (PH.le_un _ k6)) b24 x2 y7 (RoSl.mono (RoSl.mono f4 (PH.le_un _ k5)) (PH.le_un _ k6)) y8 (RoSl.mono f5 (PH.le_un _ k6)) y9 f6 b25 lp2_1 vr19 usr19 ((((hp.get 5 rfl).get 5 rfl).get 5 rfl).get 5 rfl) x9 ex9) Ret.ret ?_
                intro v a w hR hE
                obtain ⟨rfl, hp⟩ := Ret.of hR
                have hp : Hp Z ((((((ρ.un k1).un k2).un k3).un k4).un k5).un k6) (_ :: _ :: _ :: TblA 34 3 vr19 usr19 (x9 : (List (List Int))) :: _ :: _ :: _ :: _ :: _ :: _ :: L) w := hp
                refine s_nil ?_
                refine k_region ?_
                obtain ⟨x10, ex10, hl2⟩ := bnd hl2
                refine s_val (wk0 rfl) rfl rfl hE hp (v := (.int .i64 x10)) (ex_add rfl hE rfl rfl (inK_some ex10)) ?_
                intro a hE
                refine s_val (wk0 rfl) rfl rfl hE hp (v := (.int .i64 x10)) (ex_move rfl hE rfl) ?_
                intro a hE
                refine s_nil ?_
                exact ⟨_, (Option.some.inj hl2).symm, hE.cut ⟨rfl, rfl, rfl, rfl, rfl, rfl, rfl, rfl, rfl, rfl, rfl, trivial⟩, ((((((((((hp.get 9 rfl).get 9 rfl).get 9 rfl).get 9 rfl).get 7 rfl).get 7 rfl).get 7 rfl).get 7 rfl).get 9 rfl).get 9 rfl)⟩
              · replace hl2 := (ie hb4).symm.trans hl2
                refine k_exit ?_
                refine ⟨_, (Option.some.inj hl2).symm, fun hbb => ?_⟩
                subst hbb
                exact ⟨hE.cut ⟨rfl, rfl, rfl, rfl, rfl, rfl, rfl, trivial⟩, hp⟩
          · rintro a w ⟨hE, hp⟩
            refine k_region ?_
            obtain ⟨x11, ex11, hl1⟩ := bnd hl1
            refine s_val (wk0 rfl) rfl rfl hE hp (v := (.int .i64 x11)) (ex_add rfl hE rfl rfl (inK_some ex11)) ?_
            intro a hE
            refine s_val (wk0 rfl) rfl rfl hE hp (v := (.int .i64 x11)) (ex_move rfl hE rfl) ?_
            intro a hE
            refine s_nil ?_
            exact ⟨_, (Option.some.inj hl1).symm, hE.cut ⟨rfl, rfl, rfl, rfl, rfl, rfl, rfl, trivial⟩, (hp.drop)⟩
        · replace hl1 := (ie hb2).symm.trans hl1
          refine k_exit ?_
          refine ⟨_, (Option.some.inj hl1).symm, fun hbb => ?_⟩
          subst hbb
          exact ⟨hE.cut ⟨rfl, rfl, rfl, trivial⟩, hp⟩
    · rintro a w ⟨hE, hp⟩
      refine k_seq ?_
      refine k_region ?_
      refine s_val (wk0 rfl) rfl rfl hE hp (v := (.pointer (some ⟨y10, 0, none⟩))) (ex_field rfl hE rfl (fldty66_0 _ _)) ?_
      intro a hE
      refine s_val (wk0 rfl) rfl rfl hE hp (v := y4) (ex_load rfl hE rfl (fun w hw => run_ld1 varty64 (Hp.c 6 rfl 0 rfl w hw))) ?_
      intro a hE
      refine s_val (wk0 rfl) rfl rfl hE hp (v := (.int .i64 (x1.labels.length : Int))) (ex_len rfl hE rfl (RoSl.len (RoSl.mono (RoSl.mono (RoSl.mono (RoSl.mono (RoSl.mono f1 (PH.le_un _ k2)) (PH.le_un _ k3)) (PH.le_un _ k4)) (PH.le_un _ k5)) (PH.le_un _ k6)) slty64)) ?_
      intro a hE
      refine s_val (wk0 rfl) rfl rfl hE hp (v := (.pointer (some ⟨y11, 0, none⟩))) (ex_field rfl hE rfl (fldty66_0 _ _)) ?_
      intro a hE
      refine s_val (wk0 rfl) rfl rfl hE hp (v := y7) (ex_load rfl hE rfl (fun w hw => run_ld1 varty64 (Hp.c 5 rfl 0 rfl w hw))) ?_
      intro a hE
      refine s_val (wk0 rfl) rfl rfl hE hp (v := (.int .i64 (x2.labels.length : Int))) (ex_len rfl hE rfl (RoSl.len (RoSl.mono (RoSl.mono f4 (PH.le_un _ k5)) (PH.le_un _ k6)) slty64)) ?_
      intro a hE
      obtain ⟨x12, ex12, hm⟩ := bnd hm
      refine s_call (wk0 rfl) rfl rfl hE rfl [(.int .i64 (x1.labels.length : Int)), (.int .i64 (x2.labels.length : Int))] ⟨rfl, rfl, trivial⟩ ent36 (c_distance_table (x1.labels.length : Int) (x2.labels.length : Int) hp x12 ex12) Ret.ret ?_
      intro vr22 a w hR hE
      obtain ⟨u, usr22, rfl, hp⟩ := Ret.of hR
      have hp : Hp Z ((((((ρ.un k1).un k2).un k3).un k4).un k5).un k6) (TblA 34 3 vr22 usr22 (x12 : (List (List Int))) :: _ :: _ :: _ :: _ :: TblA 34 3 vr19 usr19 (b26 : (List (List Int))) :: _ :: _ :: _ :: _ :: L) w := hp
      refine s_val (wk0 rfl) rfl rfl hE hp (v := vr22) (ex_asn rfl hE rfl) ?_
      intro a hE
      refine s_nil ?_
      have hE := hE.cut (E' := [(5, (.pointer (some ⟨y10, 0, none⟩))), (6, (.pointer (some ⟨y11, 0, none⟩))), (7, vr19), (13, vr22)]) ⟨rfl, rfl, rfl, rfl, trivial⟩
      refine k_seq ?_
      refine k_seq ?_
      refine k_region ?_
      refine s_val (wk0 rfl) rfl rfl hE hp (v := vr19) (ex_move rfl hE rfl) ?_
      intro a hE
      refine s_val (wk0 rfl) rfl rfl hE hp (v := (.int .i64 (b26.length : Int))) (ex_len rfl hE rfl (TblA.len hp 5 rfl slty30)) ?_
      intro a hE
      refine s_val (wk0 rfl) rfl rfl hE hp (v := (.int .i64 0)) (ex_move rfl hE rfl) ?_
      intro a hE
      refine s_nil ?_
      obtain ⟨b30, hb5, hm⟩ := bnd hm
      refine k_block (fun a w => Env 92 [(13, vr22)] a ∧ Hp Z ((((((ρ.un k1).un k2).un k3).un k4).un k5).un k6) (TblA 34 3 vr22 usr22 (b30 : (List (List Int))) :: OwnSl 3 vr20 x5 :: Pt b23 (.cells #[y4, y5, y6] 66 (0, 0)) :: Pt b24 (.cells #[y7, y8, y9] 66 (0, 0)) :: Pt b25 (.cells #[vr19] 30 (0, 0)) :: TblA 34 3 vr19 usr19 (b26 : (List (List Int))) :: Pt y11 (.cells #[y7, y8, y9] 66 (0, 0)) :: Pt y10 (.cells #[y4, y5, y6] 66 (0, 0)) :: Pt b2 (.cells #[(.int .i64 p1.kind), (.string p1.text), (.int .i64 p1.at_), (.int .i64 p1.fin), vp1_kids] 24 (0, 0)) :: Pt b1 (.cells #[(.int .i64 p0.kind), (.string p0.text), (.int .i64 p0.at_), (.int .i64 p0.fin), vp0_kids] 24 (0, 0)) :: L) w) ?_ ?_
      · refine k_loop hb5 (fun s a w => Env 92 [(5, (.pointer (some ⟨y10, 0, none⟩))), (6, (.pointer (some ⟨y11, 0, none⟩))), (13, vr22), (60, vr19), (61, (.int .i64 (b26.length : Int))), (62, (.int .i64 s.1))] a ∧ Hp Z ((((((ρ.un k1).un k2).un k3).un k4).un k5).un k6) (TblA 34 3 vr22 usr22 (s.2 : (List (List Int))) :: OwnSl 3 vr20 x5 :: Pt b23 (.cells #[y4, y5, y6] 66 (0, 0)) :: Pt b24 (.cells #[y7, y8, y9] 66 (0, 0)) :: Pt b25 (.cells #[vr19] 30 (0, 0)) :: TblA 34 3 vr19 usr19 (b26 : (List (List Int))) :: Pt y11 (.cells #[y7, y8, y9] 66 (0, 0)) :: Pt y10 (.cells #[y4, y5, y6] 66 (0, 0)) :: Pt b2 (.cells #[(.int .i64 p1.kind), (.string p1.text), (.int .i64 p1.at_), (.int .i64 p1.fin), vp1_kids] 24 (0, 0)) :: Pt b1 (.cells #[(.int .i64 p0.kind), (.string p0.text), (.int .i64 p0.at_), (.int .i64 p0.fin), vp0_kids] 24 (0, 0)) :: L) w) ?_ ?_
        · exact ⟨hE.cut ⟨rfl, rfl, rfl, rfl, rfl, rfl, trivial⟩, hp⟩
        · rintro ⟨lp3_0, lp3_1⟩ st a w ⟨hE, hp⟩ hl3
          have hE : Env 92 [(5, (.pointer (some ⟨y10, 0, none⟩))), (6, (.pointer (some ⟨y11, 0, none⟩))), (13, vr22), (60, vr19), (61, (.int .i64 (b26.length : Int))), (62, (.int .i64 lp3_0))] a := hE
          have hp : Hp Z ((((((ρ.un k1).un k2).un k3).un k4).un k5).un k6) (TblA 34 3 vr22 usr22 (lp3_1 : (List (List Int))) :: _ :: _ :: _ :: _ :: _ :: _ :: _ :: _ :: _ :: L) w := hp
          replace hl3 : m_distance_subtrees_lp3 x1 x2 b26 lp3_0 lp3_1 = some st := hl3
          unfold m_distance_subtrees_lp3 at hl3
          refine k_seq ?_
          refine k_region ?_
          refine s_val (wk0 rfl) rfl rfl hE hp (v := (.bool (decide (lp3_0 < (b26.length : Int))))) (ex_lss rfl hE rfl rfl) ?_
          intro a hE
          refine s_nil ?_
          refine k_seq ?_
          refine k_if hE rfl (fun hb6 => ?_) (fun hb6 => ?_)
          · replace hl3 := (it hb6).symm.trans hl3
            refine k_skip ?_
            refine k_seq ?_
            refine k_plain ?_
            refine k_seq ?_
            refine k_region ?_
            refine s_val (wk0 rfl) rfl rfl hE hp (v := (.int .i64 lp3_0)) (ex_move rfl hE rfl) ?_
            intro a hE
            obtain ⟨x13, ex13, hl3⟩ := bnd hl3
            obtain ⟨b31u, b31, b31o, b31h, b31r, b31v, b31f⟩ := TblA.hdr hp 5 rfl slty30 ex13
            have b31f : ∀ (j : Nat) (u : Value), ([(Sl.v b31u)] : List Value)[j]? = some u → ∀ ρ' L' w, Hp Z ρ' (TblA 34 3 vr19 usr19 (b26 : (List (List Int))) :: L') w → w.cell? ⟨b31, b31o + j, none⟩ = some u := b31f
            refine s_val (wk0 rfl) rfl rfl hE hp (v := (.pointer (some ⟨b31, b31o, none⟩))) (ex_index rfl hE rfl rfl b31r) ?_
            intro a hE
            refine s_val (wk0 rfl) rfl rfl hE hp (v := (Sl.v b31u)) (ex_load rfl hE rfl (fun w hw => run_ld1 varty34 (b31f 0 _ rfl _ _ w (hw.get 5 rfl)))) ?_
            intro a hE
            refine s_val (wk0 rfl) rfl rfl hE hp (v := (.int .i64 lp3_0)) (ex_asn rfl hE rfl) ?_
            intro a hE
            refine s_val (wk0 rfl) rfl rfl hE hp (v := (Sl.v b31u)) (ex_asn rfl hE rfl) ?_
            intro a hE
            refine s_nil ?_
            refine k_seq ?_
            refine k_region ?_
            refine s_val (wk0 rfl) rfl rfl hE hp (v := (Sl.v b31u)) (ex_move rfl hE rfl) ?_
            intro a hE
            refine s_val (wk0 rfl) rfl rfl hE hp (v := (.int .i64 (x13.length : Int))) (ex_len rfl hE rfl (TblA.rlen hp 5 rfl slty34 b31h ex13)) ?_
            intro a hE
            refine s_val (wk0 rfl) rfl rfl hE hp (v := (.int .i64 0)) (ex_move rfl hE rfl) ?_
            intro a hE
            refine s_nil ?_
            obtain ⟨b32, hb7, hl3⟩ := bnd hl3
            refine k_block (fun a w => Env 92 [(5, (.pointer (some ⟨y10, 0, none⟩))), (6, (.pointer (some ⟨y11, 0, none⟩))), (13, vr22), (60, vr19), (61, (.int .i64 (b26.length : Int))), (62, (.int .i64 lp3_0))] a ∧ Hp Z ((((((ρ.un k1).un k2).un k3).un k4).un k5).un k6) (TblA 34 3 vr22 usr22 (b32 : (List (List Int))) :: OwnSl 3 vr20 x5 :: Pt b23 (.cells #[y4, y5, y6] 66 (0, 0)) :: Pt b24 (.cells #[y7, y8, y9] 66 (0, 0)) :: Pt b25 (.cells #[vr19] 30 (0, 0)) :: TblA 34 3 vr19 usr19 (b26 : (List (List Int))) :: Pt y11 (.cells #[y7, y8, y9] 66 (0, 0)) :: Pt y10 (.cells #[y4, y5, y6] 66 (0, 0)) :: Pt b2 (.cells #[(.int .i64 p1.kind), (.string p1.text), (.int .i64 p1.at_), (.int .i64 p1.fin), vp1_kids] 24 (0, 0)) :: Pt b1 (.cells #[(.int .i64 p0.kind), (.string p0.text), (.int .i64 p0.at_), (.int .i64 p0.fin), vp0_kids] 24 (0, 0)) :: L) w) ?_ ?_
            · refine k_loop hb7 (fun s a w => Env 92 [(5, (.pointer (some ⟨y10, 0, none⟩))), (6, (.pointer (some ⟨y11, 0, none⟩))), (13, vr22), (14, (.int .i64 lp3_0)), (60, vr19), (61, (.int .i64 (b26.length : Int))), (62, (.int .i64 lp3_0)), (67, (Sl.v b31u)), (68, (.int .i64 (x13.length : Int))), (69, (.int .i64 s.1))] a ∧ Hp Z ((((((ρ.un k1).un k2).un k3).un k4).un k5).un k6) (TblA 34 3 vr22 usr22 (s.2 : (List (List Int))) :: OwnSl 3 vr20 x5 :: Pt b23 (.cells #[y4, y5, y6] 66 (0, 0)) :: Pt b24 (.cells #[y7, y8, y9] 66 (0, 0)) :: Pt b25 (.cells #[vr19] 30 (0, 0)) :: TblA 34 3 vr19 usr19 (b26 : (List (List Int))) :: Pt y11 (.cells #[y7, y8, y9] 66 (0, 0)) :: Pt y10 (.cells #[y4, y5, y6] 66 (0, 0)) :: Pt b2 (.cells #[(.int .i64 p1.kind), (.string p1.text), (.int .i64 p1.at_), (.int .i64 p1.fin), vp1_kids] 24 (0, 0)) :: Pt b1 (.cells #[(.int .i64 p0.kind), (.string p0.text), (.int .i64 p0.at_), (.int .i64 p0.fin), vp0_kids] 24 (0, 0)) :: L) w) ?_ ?_
              · exact ⟨hE.cut ⟨rfl, rfl, rfl, rfl, rfl, rfl, rfl, rfl, rfl, rfl, trivial⟩, hp⟩
              · rintro ⟨lp4_0, lp4_1⟩ st a w ⟨hE, hp⟩ hl4
                have hE : Env 92 [(5, (.pointer (some ⟨y10, 0, none⟩))), (6, (.pointer (some ⟨y11, 0, none⟩))), (13, vr22), (14, (.int .i64 lp3_0)), (60, vr19), (61, (.int .i64 (b26.length : Int))), (62, (.int .i64 lp3_0)), (67, (Sl.v b31u)), (68, (.int .i64 (x13.length : Int))), (69, (.int .i64 lp4_0))] a := hE
                have hp : Hp Z ((((((ρ.un k1).un k2).un k3).un k4).un k5).un k6) (TblA 34 3 vr22 usr22 (lp4_1 : (List (List Int))) :: _ :: _ :: _ :: _ :: _ :: _ :: _ :: _ :: _ :: L) w := hp
                replace hl4 : m_distance_subtrees_lp4 x1 x2 lp3_0 x13 lp4_0 lp4_1 = some st := hl4
                unfold m_distance_subtrees_lp4 at hl4
                refine k_seq ?_
                refine k_region ?_
                refine s_val (wk0 rfl) rfl rfl hE hp (v := (.bool (decide (lp4_0 < (x13.length : Int))))) (ex_lss rfl hE rfl rfl) ?_
                intro a hE
                refine s_nil ?_
                refine k_seq ?_
                refine k_if hE rfl (fun hb8 => ?_) (fun hb8 => ?_)
                · replace hl4 := (it hb8).symm.trans hl4
                  refine k_skip ?_
                  refine k_seq ?_
                  refine k_plain ?_
                  refine k_seq ?_
                  refine k_region ?_
                  refine s_val (wk0 rfl) rfl rfl hE hp (v := (.int .i64 lp4_0)) (ex_move rfl hE rfl) ?_
                  intro a hE
                  obtain ⟨x14, ex14, hl4⟩ := bnd hl4
                  obtain ⟨b33, b33o, b33r, b33v, b33f⟩ := TblA.at hp 5 rfl slty34 b31h ex13 ex14
                  have b33f : ∀ (j : Nat) (u : Value), ([(.int .i64 x14)] : List Value)[j]? = some u → ∀ ρ' L' w, Hp Z ρ' (TblA 34 3 vr19 usr19 (b26 : (List (List Int))) :: L') w → w.cell? ⟨b33, b33o + j, none⟩ = some u := b33f
                  refine s_val (wk0 rfl) rfl rfl hE hp (v := (.pointer (some ⟨b33, b33o, none⟩))) (ex_index rfl hE rfl rfl b33r) ?_
                  intro a hE
                  refine s_val (wk0 rfl) rfl rfl hE hp (v := (.int .i64 x14)) (ex_load rfl hE rfl (fun w hw => run_ld1 varty3 (b33f 0 _ rfl _ _ w (hw.get 5 rfl)))) ?_
                  intro a hE
                  refine s_val (wk0 rfl) rfl rfl hE hp (v := (.int .i64 lp4_0)) (ex_asn rfl hE rfl) ?_
                  intro a hE
                  refine s_val (wk0 rfl) rfl rfl hE hp (v := (.int .i64 x14)) (ex_asn rfl hE rfl) ?_
                  intro a hE
                  refine s_nil ?_
                  obtain ⟨x15, ex15, hl4⟩ := bnd hl4
                  obtain ⟨x16, ex16, hl4⟩ := bnd hl4
                  obtain ⟨x17, ex17, hl4⟩ := bnd hl4
                  obtain ⟨x18, ex18, hl4⟩ := bnd hl4
                  have hp := hp.drew
                  refine k_heldV ([([], At0 Z ((((((ρ.un k1).un k2).un k3).un k4).un k5).un k6)), ([15], At1 Z ((((((ρ.un k1).un k2).un k3).un k4).un k5).un k6) (TblA 34 3 vr22 usr22 (lp4_1 : (List (List Int))))), ([], At1 Z ((((((ρ.un k1).un k2).un k3).un k4).un k5).un k6) (Pt y11 (.cells #[y7, y8, y9] 66 (0, 0)))), ([], At1 Z ((((((ρ.un k1).un k2).un k3).un k4).un k5).un k6) (Pt y10 (.cells #[y4, y5, y6] 66 (0, 0))))] : Facts) (fun a w => Env 92 [(5, (.pointer (some ⟨y10, 0, none⟩))), (6, (.pointer (some ⟨y11, 0, none⟩))), (13, vr22), (14, (.int .i64 lp3_0)), (60, vr19), (61, (.int .i64 (b26.length : Int))), (62, (.int .i64 lp3_0)), (67, (Sl.v b31u)), (68, (.int .i64 (x13.length : Int))), (69, (.int .i64 lp4_0))] a ∧ Hp Z ((((((ρ.un k1).un k2).un k3).un k4).un k5).un k6) (TblA 34 3 vr22 usr22 (lp4_1.set x15.toNat (x16.set x17.toNat x14) : (List (List Int))) :: OwnSl 3 vr20 x5 :: Pt b23 (.cells #[y4, y5, y6] 66 (0, 0)) :: Pt b24 (.cells #[y7, y8, y9] 66 (0, 0)) :: Pt b25 (.cells #[vr19] 30 (0, 0)) :: TblA 34 3 vr19 usr19 (b26 : (List (List Int))) :: Pt y11 (.cells #[y7, y8, y9] 66 (0, 0)) :: Pt y10 (.cells #[y4, y5, y6] 66 (0, 0)) :: Pt b2 (.cells #[(.int .i64 p1.kind), (.string p1.text), (.int .i64 p1.at_), (.int .i64 p1.fin), vp1_kids] 24 (0, 0)) :: Pt b1 (.cells #[(.int .i64 p0.kind), (.string p0.text), (.int .i64 p0.at_), (.int .i64 p0.fin), vp0_kids] 24 (0, 0)) :: L) w) (by kernel_rfl) ⟨fun _ => ⟨_, hp⟩, fun _ => ⟨_, (hp.get 0 rfl)⟩, fun _ => ⟨_, (hp.get 6 rfl)⟩, fun _ => ⟨_, (hp.get 7 rfl)⟩, trivial⟩ (fun hS => ?_) ?_
                  ·
                    generalize w.drew = w at hS hp ⊢
                    refine v_take0 0 (wk0 rfl) rfl rfl rfl hE (by kernel_rfl) (by kernel_rfl) (by kernel_rfl) rfl (by kernel_rfl) hS (v := vr22) (fun _ => ex_move rfl hE rfl) ?_
                    intro a hE hS
                    refine v_take0 1 (wk0 rfl) rfl rfl rfl hE (by kernel_rfl) (by kernel_rfl) (by kernel_rfl) rfl (by kernel_rfl) hS (v := (.pointer (some ⟨y10, 2, none⟩))) (fun _ => ex_field rfl hE rfl (fldty66_2 _ _)) ?_
                    intro a hE hS
                    refine v_take1 2 3 (wk0 rfl) rfl rfl rfl hE (by kernel_rfl) (by kernel_rfl) (by kernel_rfl) rfl (by kernel_rfl) hS (v := y6) (fun _ => ex_load rfl hE rfl (fun w hw => run_ld1 varty34 (Hp.c 0 rfl 2 rfl w hw))) ?_
                    intro a hE hS
                    refine v_take0 3 (wk0 rfl) rfl rfl rfl hE (by kernel_rfl) (by kernel_rfl) (by kernel_rfl) rfl (by kernel_rfl) hS (v := (.int .i64 lp3_0)) (fun _ => ex_move rfl hE rfl) ?_
                    intro a hE hS
                    obtain ⟨b38, b38o, b38c, b38r, b38k, b38f⟩ := RoSl.at (RoSl.mono (RoSl.mono (RoSl.mono f3 (PH.le_un _ k4)) (PH.le_un _ k5)) (PH.le_un _ k6)) slty34 ex15
                    obtain rfl : b38c = Enc.enc x15 := b38k
                    have b38f : AtP ((((((ρ.un k1).un k2).un k3).un k4).un k5).un k6) b38 b38o [(.int .i64 x15)] := b38f
                    refine v_take0 4 (wk0 rfl) rfl rfl rfl hE (by kernel_rfl) (by kernel_rfl) (by kernel_rfl) rfl (by kernel_rfl) hS (v := (.pointer (some ⟨b38, b38o, none⟩))) (fun _ => ex_index rfl hE rfl rfl b38r) ?_
                    intro a hE hS
                    refine v_take0 5 (wk0 rfl) rfl rfl rfl hE (by kernel_rfl) (by kernel_rfl) (by kernel_rfl) rfl (by kernel_rfl) hS (v := (.int .i64 x15)) (fun _ => ex_load rfl hE rfl (fun w hw => run_ld1 varty3 (b38f.c 0 rfl w hw))) ?_
                    intro a hE hS
                    obtain ⟨b39u, b39, b39o, b39h, b39r, b39v, b39f⟩ := TblA.hdr hp 0 rfl slty30 ex16
                    have b39f : ∀ (j : Nat) (u : Value), ([(Sl.v b39u)] : List Value)[j]? = some u → ∀ ρ' L' w, Hp Z ρ' (TblA 34 3 vr22 usr22 (lp4_1 : (List (List Int))) :: L') w → w.cell? ⟨b39, b39o + j, none⟩ = some u := b39f
                    refine v_take0 6 (wk0 rfl) rfl rfl rfl hE (by kernel_rfl) (by kernel_rfl) (by kernel_rfl) rfl (by kernel_rfl) hS (v := (.pointer (some ⟨b39, b39o, none⟩))) (fun _ => ex_index rfl hE rfl rfl b39r) ?_
                    intro a hE hS
                    refine v_take1 7 1 (wk0 rfl) rfl rfl rfl hE (by kernel_rfl) (by kernel_rfl) (by kernel_rfl) rfl (by kernel_rfl) hS (v := (Sl.v b39u)) (fun _ => ex_load rfl hE rfl (fun w hw => run_ld1 varty34 (b39f 0 _ rfl _ _ w (hw.get 0 rfl)))) ?_
                    intro a hE hS
                    refine v_take0 8 (wk0 rfl) rfl rfl rfl hE (by kernel_rfl) (by kernel_rfl) (by kernel_rfl) rfl (by kernel_rfl) hS (v := (.pointer (some ⟨y11, 2, none⟩))) (fun _ => ex_field rfl hE rfl (fldty66_2 _ _)) ?_
                    intro a hE hS
                    refine v_take1 9 2 (wk0 rfl) rfl rfl rfl hE (by kernel_rfl) (by kernel_rfl) (by kernel_rfl) rfl (by kernel_rfl) hS (v := y9) (fun _ => ex_load rfl hE rfl (fun w hw => run_ld1 varty34 (Hp.c 0 rfl 2 rfl w hw))) ?_
                    intro a hE hS
                    refine v_take0 10 (wk0 rfl) rfl rfl rfl hE (by kernel_rfl) (by kernel_rfl) (by kernel_rfl) rfl (by kernel_rfl) hS (v := (.int .i64 lp4_0)) (fun _ => ex_move rfl hE rfl) ?_
                    intro a hE hS
                    obtain ⟨b40, b40o, b40c, b40r, b40k, b40f⟩ := RoSl.at f6 slty34 ex17
                    obtain rfl : b40c = Enc.enc x17 := b40k
                    have b40f : AtP ((((((ρ.un k1).un k2).un k3).un k4).un k5).un k6) b40 b40o [(.int .i64 x17)] := b40f
                    refine v_take0 11 (wk0 rfl) rfl rfl rfl hE (by kernel_rfl) (by kernel_rfl) (by kernel_rfl) rfl (by kernel_rfl) hS (v := (.pointer (some ⟨b40, b40o, none⟩))) (fun _ => ex_index rfl hE rfl rfl b40r) ?_
                    intro a hE hS
                    refine v_take0 12 (wk0 rfl) rfl rfl rfl hE (by kernel_rfl) (by kernel_rfl) (by kernel_rfl) rfl (by kernel_rfl) hS (v := (.int .i64 x17)) (fun _ => ex_load rfl hE rfl (fun w hw => run_ld1 varty3 (b40f.c 0 rfl w hw))) ?_
                    intro a hE hS
                    refine v_take0 13 (wk0 rfl) rfl rfl rfl hE (by kernel_rfl) (by kernel_rfl) (by kernel_rfl) rfl (by kernel_rfl) hS (v := (.int .i64 x14)) (fun _ => ex_move rfl hE rfl) ?_
                    intro a hE hS
                    obtain ⟨b41, b41o, b41r, b41v, b41f⟩ := TblA.at hp 0 rfl slty34 b39h ex16 ex18
                    have b41f : ∀ (j : Nat) (u : Value), ([(.int .i64 x18)] : List Value)[j]? = some u → ∀ ρ' L' w, Hp Z ρ' (TblA 34 3 vr22 usr22 (lp4_1 : (List (List Int))) :: L') w → w.cell? ⟨b41, b41o + j, none⟩ = some u := b41f
                    refine v_take0 14 (wk0 rfl) rfl rfl rfl hE (by kernel_rfl) (by kernel_rfl) (by kernel_rfl) rfl (by kernel_rfl) hS (v := (.pointer (some ⟨b41, b41o, none⟩))) (fun _ => ex_index rfl hE rfl rfl b41r) ?_
                    intro a hE hS
                    refine v_all [15] (by kernel_rfl) rfl ?_
                    refine List.forall_mem_cons.2 ⟨?_, fun _ h => absurd h (by simp)⟩
                    ·
                      refine h_op rfl ?_
                      refine s_tstel (wk0 rfl) rfl hE hp rfl rfl rfl 0 rfl b39h ex16 ex18 b41v 0 (e' := x14) varty3.size_ rfl rfl rfl ⟨rfl, rfl⟩ ?_
                      intro w hp
                      have hp : Hp Z ((((((ρ.un k1).un k2).un k3).un k4).un k5).un k6) (TblA 34 3 vr22 usr22 (lp4_1.set x15.toNat (x16.set x17.toNat x14) : (List (List Int))) :: _ :: _ :: _ :: _ :: _ :: _ :: _ :: _ :: _ :: L) w := hp
                      refine s_nil (and_with ⟨fun _ => ⟨_, hp⟩, dead (by kernel_rfl), fun _ => ⟨_, (hp.get 6 rfl)⟩, fun _ => ⟨_, (hp.get 7 rfl)⟩, trivial⟩ fun hS => ?_)
                      exact v_done (by kernel_rfl) ⟨hE.cut ⟨rfl, rfl, rfl, rfl, rfl, rfl, rfl, rfl, rfl, rfl, trivial⟩, hp⟩
                  · rintro a w ⟨hE, hp⟩
                    refine k_region ?_
                    obtain ⟨x19, ex19, hl4⟩ := bnd hl4
                    refine s_val (wk0 rfl) rfl rfl hE hp (v := (.int .i64 x19)) (ex_add rfl hE rfl rfl (inK_some ex19)) ?_
                    intro a hE
                    refine s_val (wk0 rfl) rfl rfl hE hp (v := (.int .i64 x19)) (ex_move rfl hE rfl) ?_
                    intro a hE
                    refine s_nil ?_
                    exact ⟨_, (Option.some.inj hl4).symm, hE.cut ⟨rfl, rfl, rfl, rfl, rfl, rfl, rfl, rfl, rfl, rfl, trivial⟩, hp⟩
                · replace hl4 := (ie hb8).symm.trans hl4
                  refine k_exit ?_
                  refine ⟨_, (Option.some.inj hl4).symm, fun hbb => ?_⟩
                  subst hbb
                  exact ⟨hE.cut ⟨rfl, rfl, rfl, rfl, rfl, rfl, trivial⟩, hp⟩
            · rintro a w ⟨hE, hp⟩
              refine k_region ?_
              obtain ⟨x20, ex20, hl3⟩ := bnd hl3
              refine s_val (wk0 rfl) rfl rfl hE hp (v := (.int .i64 x20)) (ex_add rfl hE rfl rfl (inK_some ex20)) ?_
              intro a hE
              refine s_val (wk0 rfl) rfl rfl hE hp (v := (.int .i64 x20)) (ex_move rfl hE rfl) ?_
              intro a hE
              refine s_nil ?_
              exact ⟨_, (Option.some.inj hl3).symm, hE.cut ⟨rfl, rfl, rfl, rfl, rfl, rfl, trivial⟩, hp⟩
          · replace hl3 := (ie hb6).symm.trans hl3
            refine k_exit ?_
            refine ⟨_, (Option.some.inj hl3).symm, fun hbb => ?_⟩
            subst hbb
            exact ⟨hE.cut ⟨rfl, trivial⟩, hp⟩
      · rintro a w ⟨hE, hp⟩
        refine k_seq ?_
        refine k_region ?_
        refine s_val (wk0 rfl) rfl rfl hE hp (v := vr22) (ex_move rfl hE rfl) ?_
        intro a hE
        refine s_val (wk0 rfl) rfl rfl hE hp (v := vr22) (ex_asn rfl hE rfl) ?_
        intro a hE
        refine s_nil ?_
        refine k_ret ?_
        obtain rfl := Option.some.inj hm
        exact ret1 hE rfl rfl ⟨_, rfl, _, _, rfl, ((((((((((((((((((((((((hp.get 9 rfl).drop).get 8 rfl).drop).get 7 rfl).drop).get 6 rfl).drop).get 5 rfl).drop).get 4 rfl).drop).get 3 rfl).drop).get 2 rfl).drop).get 1 rfl).drop).less (PH.le_un _ k6)).less (PH.le_un _ k5)).less (PH.le_un _ k4)).less (PH.le_un _ k3)).less (PH.le_un _ k2)).less (PH.le_un _ k1))⟩
/- assessor/distance.Distance -/
set_option maxRecDepth 100000 in
set_option maxHeartbeats 4000000 in
theorem c_distance_Distance {Z : World} {ρ : PH} {L : List Atom} {w : World} (p0 : Node) (vp0_kids : Value) (hp0_kids : RoSl ρ vp0_kids p0.kids) (p1 : Node) (vp1_kids : Value) (hp1_kids : RoSl ρ vp1_kids p1.kids) (hp : Hp Z ρ (L) w) (r : (Int × Int)) (hm : m_distance_Distance p0 p1 = some r) :
    Calls Try.prog 12 #[(.agg #[(.int .i64 p0.kind), (.string p0.text), (.int .i64 p0.at_), (.int .i64 p0.fin), vp0_kids]), (.agg #[(.int .i64 p1.kind), (.string p1.text), (.int .i64 p1.at_), (.int .i64 p1.fin), vp1_kids])] w (Ret fun v w' => v = .tuple #[(.int .i64 r.1), (.int .i64 r.2)] ∧ Hp Z ρ (L) w') := by
  refine enter (N := 17) Try.func12 rfl rfl [(0, (.agg #[(.int .i64 p0.kind), (.string p0.text), (.int .i64 p0.at_), (.int .i64 p0.fin), vp0_kids])), (1, (.agg #[(.int .i64 p1.kind), (.string p1.text), (.int .i64 p1.at_), (.int .i64 p1.fin), vp1_kids]))] rfl (argsIn_mem ⟨rfl, rfl, trivial⟩) fun a hE => ?_
  unfold m_distance_Distance at hm
  refine k_seq ?_
  refine k_region ?_
  refine s_box (wk0 rfl) rfl rfl hE hp rfl (v := (.agg #[(.int .i64 p0.kind), (.string p0.text), (.int .i64 p0.at_), (.int .i64 p0.fin), vp0_kids])) rfl ?_
  intro a w b1 hE hp
  have hp : Hp Z ρ (Pt b1 (.cells #[(.int .i64 p0.kind), (.string p0.text), (.int .i64 p0.at_), (.int .i64 p0.fin), vp0_kids] 24 (0, 0)) :: L) w := hp
  refine s_box (wk0 rfl) rfl rfl hE hp rfl (v := (.agg #[(.int .i64 p1.kind), (.string p1.text), (.int .i64 p1.at_), (.int .i64 p1.fin), vp1_kids])) rfl ?_
  intro a w b2 hE hp
  have hp : Hp Z ρ (Pt b2 (.cells #[(.int .i64 p1.kind), (.string p1.text), (.int .i64 p1.at_), (.int .i64 p1.fin), vp1_kids] 24 (0, 0)) :: _ :: L) w := hp
  refine s_val (wk0 rfl) rfl rfl hE hp (v := (.int .i64 0)) (ex_asn rfl hE rfl) ?_
  intro a hE
  refine s_val (wk0 rfl) rfl rfl hE hp (v := (.int .i64 0)) (ex_asn rfl hE rfl) ?_
  intro a hE
  refine s_nil ?_
  refine k_seq ?_
  refine k_seq ?_
  refine k_region ?_
  refine s_val (wk0 rfl) rfl rfl hE hp (v := (.agg #[(.int .i64 p0.kind), (.string p0.text), (.int .i64 p0.at_), (.int .i64 p0.fin), vp0_kids])) (ex_load rfl hE rfl (fun w hw => run_ldN (cs := [(.int .i64 p0.kind), (.string p0.text), (.int .i64 p0.at_), (.int .i64 p0.fin), vp0_kids]) varty24 (Hp.cN 1 rfl 0 _ (sub_all rfl) w hw))) ?_
  intro a hE
  refine s_val (wk0 rfl) rfl rfl hE hp (v := (.agg #[(.int .i64 p1.kind), (.string p1.text), (.int .i64 p1.at_), (.int .i64 p1.fin), vp1_kids])) (ex_load rfl hE rfl (fun w hw => run_ldN (cs := [(.int .i64 p1.kind), (.string p1.text), (.int .i64 p1.at_), (.int .i64 p1.fin), vp1_kids]) varty24 (Hp.cN 0 rfl 0 _ (sub_all rfl) w hw))) ?_
  intro a hE
  refine s_lit (wk0 rfl) rfl rfl hE hp rfl [(0, (.agg #[(.int .i64 p0.kind), (.string p0.text), (.int .i64 p0.at_), (.int .i64 p0.fin), vp0_kids])), (1, (.agg #[(.int .i64 p1.kind), (.string p1.text), (.int .i64 p1.at_), (.int .i64 p1.fin), vp1_kids]))] ⟨⟨rfl, rfl⟩, ⟨rfl, rfl⟩, trivial⟩ [(.int .i64 p0.kind), (.string p0.text), (.int .i64 p0.at_), (.int .i64 p0.fin), vp0_kids, (.int .i64 p1.kind), (.string p1.text), (.int .i64 p1.at_), (.int .i64 p1.fin), vp1_kids] 24 (fun w => by have hc0 := RoSl.cells hp0_kids; simp only [Value.cells] at hc0; have hc1 := RoSl.cells hp1_kids; simp only [Value.cells] at hc1; simp [Instr.buildSlice, Instr.fill, Value.cells, hc0, hc1, go_sem]) ?_
  intro a w b3 hE hp
  have hp : Hp Z ρ (Pt b3 (.cells #[(.int .i64 p0.kind), (.string p0.text), (.int .i64 p0.at_), (.int .i64 p0.fin), vp0_kids, (.int .i64 p1.kind), (.string p1.text), (.int .i64 p1.at_), (.int .i64 p1.fin), vp1_kids] 24 (0, 0)) :: _ :: _ :: L) w := hp
  obtain ⟨k1, k1a, k1d, hp⟩ := (hp.get 0 rfl).lend
  have f1 : RoSl (ρ.un k1) (.slice (some ⟨b3, 0, none⟩) 2 2) ([p0, p1] : List Node) := RoSl.of_all (l := (([p0, p1] : List Node))) k1d k1a ⟨_, _, rfl, (show NodeAt (ρ.un k1) p0 [(.int .i64 p0.kind), (.string p0.text), (.int .i64 p0.at_), (.int .i64 p0.fin), vp0_kids] from NodeAt.shutv ((RoSl.mono hp0_kids (PH.le_un _ k1)))), ⟨_, _, rfl, (show NodeAt (ρ.un k1) p1 [(.int .i64 p1.kind), (.string p1.text), (.int .i64 p1.at_), (.int .i64 p1.fin), vp1_kids] from NodeAt.shutv ((RoSl.mono hp1_kids (PH.le_un _ k1)))), rfl⟩⟩
  have hp : Hp Z (ρ.un k1) (_ :: _ :: L) w := hp
  obtain ⟨x1, ex1, hm⟩ := bnd hm
  refine s_call (wk0 rfl) rfl rfl hE rfl [(.slice (some ⟨b3, 0, none⟩) 2 2)] ⟨rfl, trivial⟩ ent29 (c_distance_large ([p0, p1] : List Node) (.slice (some ⟨b3, 0, none⟩) 2 2) f1 hp x1 ex1) Ret.ret ?_
  intro v a w hR hE
  obtain ⟨rfl, hp⟩ := Ret.of hR
  have hp : Hp Z (ρ.un k1) (_ :: _ :: L) w := hp
  refine s_nil ?_
  refine k_if hE rfl (fun hb1 => ?_) (fun hb1 => ?_)
  · replace hm := (it hb1).symm.trans hm
    refine k_seq ?_
    refine k_region ?_
    refine s_val (wk0 rfl) rfl rfl hE hp (v := (.int .i64 0)) (ex_asn rfl hE rfl) ?_
    intro a hE
    refine s_val (wk0 rfl) rfl rfl hE hp (v := (.int .i64 8)) (ex_asn rfl hE rfl) ?_
    intro a hE
    refine s_nil ?_
    refine k_ret ?_
    obtain rfl := Option.some.inj hm
    exact ret2 hE rfl rfl rfl ⟨_, rfl, rfl, ((((hp.get 1 rfl).drop).drop).less (PH.le_un _ k1))⟩
  · replace hm := (ie hb1).symm.trans hm
    refine k_skip ?_
    refine k_seq ?_
    refine k_region ?_
    refine s_val (wk0 rfl) rfl rfl hE hp (v := (.agg #[(.int .i64 p0.kind), (.string p0.text), (.int .i64 p0.at_), (.int .i64 p0.fin), vp0_kids])) (ex_load rfl hE rfl (fun w hw => run_ldN (cs := [(.int .i64 p0.kind), (.string p0.text), (.int .i64 p0.at_), (.int .i64 p0.fin), vp0_kids]) varty24 (Hp.cN 1 rfl 0 _ (sub_all rfl) w hw))) ?_
    intro a hE
    refine s_val (wk0 rfl) rfl rfl hE hp (v := (.agg #[(.int .i64 p1.kind), (.string p1.text), (.int .i64 p1.at_), (.int .i64 p1.fin), vp1_kids])) (ex_load rfl hE rfl (fun w hw => run_ldN (cs := [(.int .i64 p1.kind), (.string p1.text), (.int .i64 p1.at_), (.int .i64 p1.fin), vp1_kids]) varty24 (Hp.cN 0 rfl 0 _ (sub_all rfl) w hw))) ?_
    intro a hE
    obtain ⟨x2, ex2, hm⟩ := bnd hm
    refine s_call (wk0 rfl) rfl rfl hE rfl [(.agg #[(.int .i64 p0.kind), (.string p0.text), (.int .i64 p0.at_), (.int .i64 p0.fin), vp0_kids]), (.agg #[(.int .i64 p1.kind), (.string p1.text), (.int .i64 p1.at_), (.int .i64 p1.fin), vp1_kids])] ⟨rfl, rfl, trivial⟩ ent30 (c_distance_subtrees p0 vp0_kids (RoSl.mono hp0_kids (PH.le_un _ k1)) p1 vp1_kids (RoSl.mono hp1_kids (PH.le_un _ k1)) hp x2 ex2) Ret.ret ?_
    intro vr2 a w hR hE
    obtain ⟨u, usr2, rfl, hp⟩ := Ret.of hR
    have hp : Hp Z (ρ.un k1) (TblA 34 3 vr2 usr2 (x2 : (List (List Int))) :: _ :: _ :: L) w := hp
    obtain ⟨x3, ex3, hm⟩ := bnd hm
    obtain ⟨b4u, b4, b4o, b4h, b4r, b4v, b4f⟩ := TblA.hdr hp 0 rfl slty30 ex3
    have b4f : ∀ (j : Nat) (u : Value), ([(Sl.v b4u)] : List Value)[j]? = some u → ∀ ρ' L' w, Hp Z ρ' (TblA 34 3 vr2 usr2 (x2 : (List (List Int))) :: L') w → w.cell? ⟨b4, b4o + j, none⟩ = some u := b4f
    refine s_val (wk0 rfl) rfl rfl hE hp (v := (.pointer (some ⟨b4, b4o, none⟩))) (ex_index rfl hE rfl rfl b4r) ?_
    intro a hE
    refine s_val (wk0 rfl) rfl rfl hE hp (v := (Sl.v b4u)) (ex_load rfl hE rfl (fun w hw => run_ld1 varty34 (b4f 0 _ rfl _ _ w (hw.get 0 rfl)))) ?_
    intro a hE
    obtain ⟨x4, ex4, hm⟩ := bnd hm
    obtain ⟨b5, b5o, b5r, b5v, b5f⟩ := TblA.at hp 0 rfl slty34 b4h ex3 ex4
    have b5f : ∀ (j : Nat) (u : Value), ([(.int .i64 x4)] : List Value)[j]? = some u → ∀ ρ' L' w, Hp Z ρ' (TblA 34 3 vr2 usr2 (x2 : (List (List Int))) :: L') w → w.cell? ⟨b5, b5o + j, none⟩ = some u := b5f
    refine s_val (wk0 rfl) rfl rfl hE hp (v := (.pointer (some ⟨b5, b5o, none⟩))) (ex_index rfl hE rfl rfl b5r) ?_
    intro a hE
    refine s_val (wk0 rfl) rfl rfl hE hp (v := (.int .i64 x4)) (ex_load rfl hE rfl (fun w hw => run_ld1 varty3 (b5f 0 _ rfl _ _ w (hw.get 0 rfl)))) ?_
    intro a hE
    refine s_val (wk0 rfl) rfl rfl hE hp (v := (.int .i64 x4)) (ex_asn rfl hE rfl) ?_
    intro a hE
    refine s_val (wk0 rfl) rfl rfl hE hp (v := (.int .i64 0)) (ex_asn rfl hE rfl) ?_
    intro a hE
    refine s_nil ?_
    refine k_ret ?_
    obtain rfl := Option.some.inj hm
    exact ret2 hE rfl rfl rfl ⟨_, rfl, rfl, ((((((hp.get 2 rfl).drop).get 1 rfl).drop).drop).less (PH.le_un _ k1))⟩
/- assessor/distance.Within -/
set_option maxRecDepth 100000 in
set_option maxHeartbeats 4000000 in
theorem c_distance_Within {Z : World} {ρ : PH} {L : List Atom} {w : World} (p0 : Node) (vp0_kids : Value) (hp0_kids : RoSl ρ vp0_kids p0.kids) (p1 : Node) (vp1_kids : Value) (hp1_kids : RoSl ρ vp1_kids p1.kids) (p2 : Int) (hp : Hp Z ρ (L) w) (r : (Bool × Int)) (hm : m_distance_Within p0 p1 p2 = some r) :
    Calls Try.prog 19 #[(.agg #[(.int .i64 p0.kind), (.string p0.text), (.int .i64 p0.at_), (.int .i64 p0.fin), vp0_kids]), (.agg #[(.int .i64 p1.kind), (.string p1.text), (.int .i64 p1.at_), (.int .i64 p1.fin), vp1_kids]), (.int .i64 p2)] w (Ret fun v w' => v = .tuple #[(.bool r.1), (.int .i64 r.2)] ∧ Hp Z ρ (L) w') := by
  refine enter (N := 24) Try.func19 rfl rfl [(0, (.agg #[(.int .i64 p0.kind), (.string p0.text), (.int .i64 p0.at_), (.int .i64 p0.fin), vp0_kids])), (1, (.agg #[(.int .i64 p1.kind), (.string p1.text), (.int .i64 p1.at_), (.int .i64 p1.fin), vp1_kids])), (2, (.int .i64 p2))] rfl (argsIn_mem ⟨rfl, rfl, rfl, trivial⟩) fun a hE => ?_
  unfold m_distance_Within at hm
  refine k_seq ?_
  refine k_region ?_
  refine s_box (wk0 rfl) rfl rfl hE hp rfl (v := (.agg #[(.int .i64 p0.kind), (.string p0.text), (.int .i64 p0.at_), (.int .i64 p0.fin), vp0_kids])) rfl ?_
  intro a w b1 hE hp
  have hp : Hp Z ρ (Pt b1 (.cells #[(.int .i64 p0.kind), (.string p0.text), (.int .i64 p0.at_), (.int .i64 p0.fin), vp0_kids] 24 (0, 0)) :: L) w := hp
  refine s_box (wk0 rfl) rfl rfl hE hp rfl (v := (.agg #[(.int .i64 p1.kind), (.string p1.text), (.int .i64 p1.at_), (.int .i64 p1.fin), vp1_kids])) rfl ?_
  intro a w b2 hE hp
  have hp : Hp Z ρ (Pt b2 (.cells #[(.int .i64 p1.kind), (.string p1.text), (.int .i64 p1.at_), (.int .i64 p1.fin), vp1_kids] 24 (0, 0)) :: _ :: L) w := hp
  refine s_val (wk0 rfl) rfl rfl hE hp (v := (.bool false)) (ex_asn rfl hE rfl) ?_
  intro a hE
  refine s_val (wk0 rfl) rfl rfl hE hp (v := (.int .i64 0)) (ex_asn rfl hE rfl) ?_
  intro a hE
  refine s_nil ?_
  refine k_seq ?_
  refine k_region ?_
  refine s_val (wk0 rfl) rfl rfl hE hp (v := (.agg #[(.int .i64 p0.kind), (.string p0.text), (.int .i64 p0.at_), (.int .i64 p0.fin), vp0_kids])) (ex_load rfl hE rfl (fun w hw => run_ldN (cs := [(.int .i64 p0.kind), (.string p0.text), (.int .i64 p0.at_), (.int .i64 p0.fin), vp0_kids]) varty24 (Hp.cN 1 rfl 0 _ (sub_all rfl) w hw))) ?_
  intro a hE
  refine s_val (wk0 rfl) rfl rfl hE hp (v := (.agg #[(.int .i64 p1.kind), (.string p1.text), (.int .i64 p1.at_), (.int .i64 p1.fin), vp1_kids])) (ex_load rfl hE rfl (fun w hw => run_ldN (cs := [(.int .i64 p1.kind), (.string p1.text), (.int .i64 p1.at_), (.int .i64 p1.fin), vp1_kids]) varty24 (Hp.cN 0 rfl 0 _ (sub_all rfl) w hw))) ?_
  intro a hE
  obtain ⟨x1, ex1, hm⟩ := bnd hm
  refine s_call (wk0 rfl) rfl rfl hE rfl [(.agg #[(.int .i64 p0.kind), (.string p0.text), (.int .i64 p0.at_), (.int .i64 p0.fin), vp0_kids]), (.agg #[(.int .i64 p1.kind), (.string p1.text), (.int .i64 p1.at_), (.int .i64 p1.fin), vp1_kids])] ⟨rfl, rfl, trivial⟩ ent12 (c_distance_Distance p0 vp0_kids hp0_kids p1 vp1_kids hp1_kids hp x1 ex1) Ret.ret ?_
  intro v a w hR hE
  obtain ⟨rfl, hp⟩ := Ret.of hR
  have hp : Hp Z ρ (_ :: _ :: L) w := hp
  refine s_val (wk0 rfl) rfl rfl hE hp (v := (.tuple #[(.int .i64 x1.1), (.int .i64 x1.2)])) (ex_move rfl hE rfl) ?_
  intro a hE
  refine s_val (wk0 rfl) rfl rfl hE hp (v := (.int .i64 x1.1)) (ex_extract rfl hE rfl rfl) ?_
  intro a hE
  refine s_val (wk0 rfl) rfl rfl hE hp (v := (.int .i64 x1.2)) (ex_extract rfl hE rfl rfl) ?_
  intro a hE
  refine s_val (wk0 rfl) rfl rfl hE hp (v := (.int .i64 x1.1)) (ex_asn rfl hE rfl) ?_
  intro a hE
  refine s_val (wk0 rfl) rfl rfl hE hp (v := (.int .i64 x1.2)) (ex_asn rfl hE rfl) ?_
  intro a hE
  refine s_nil ?_
  refine k_seq ?_
  refine k_region ?_
  refine s_val (wk0 rfl) rfl rfl hE hp (v := (.int .i64 x1.2)) (ex_move rfl hE rfl) ?_
  intro a hE
  refine s_val (wk0 rfl) rfl rfl hE hp (v := (.bool (decide (x1.2 = 0)))) (ex_eql rfl hE rfl rfl) ?_
  intro a hE
  refine s_val (wk0 rfl) rfl rfl hE hp (v := (.bool (decide (x1.2 = 0)))) (ex_move rfl hE rfl) ?_
  intro a hE
  refine s_cut [_, _, _, _] (fun a w => Env 24 [(22, (.bool ((decide (x1.2 = 0)) && (decide (x1.1 ≤ p2))))), (9, (.int .i64 x1.2))] a ∧ Hp Z ρ (Pt b2 (.cells #[(.int .i64 p1.kind), (.string p1.text), (.int .i64 p1.at_), (.int .i64 p1.fin), vp1_kids] 24 (0, 0)) :: Pt b1 (.cells #[(.int .i64 p0.kind), (.string p0.text), (.int .i64 p0.at_), (.int .i64 p0.fin), vp0_kids] 24 (0, 0)) :: L) w) ?_ ?_
  · rcases Bool.eq_false_or_eq_true (decide (x1.2 = 0)) with hb1 | hb1
    ·
      refine s_val (wk1 hE rfl rfl rfl hb1) rfl rfl hE hp (v := (.int .i64 x1.1)) (ex_move rfl hE rfl) ?_
      intro a hE
      refine s_val (wk1 hE rfl rfl rfl hb1) rfl rfl hE hp (v := (.int .i64 p2)) (ex_move rfl hE rfl) ?_
      intro a hE
      refine s_val (wk1 hE rfl rfl rfl hb1) rfl rfl hE hp (v := (.bool (decide (x1.1 ≤ p2)))) (ex_leq rfl hE rfl rfl) ?_
      intro a hE
      refine s_val (wk0 rfl) rfl rfl hE hp (v := (.bool (decide (x1.1 ≤ p2)))) (ex_pick1 rfl hE rfl hb1 rfl) ?_
      intro a hE
      have hE := hE.eqv (v' := (.bool ((decide (x1.2 = 0)) && (decide (x1.1 ≤ p2))))) (by rw [hb1]; rfl)
      exact s_nil ⟨hE.cut ⟨rfl, rfl, trivial⟩, hp⟩
    ·
      refine s_skip (wk2 hE rfl rfl rfl hb1) rfl rfl hE ?_
      intro a hE
      refine s_skip (wk2 hE rfl rfl rfl hb1) rfl rfl hE ?_
      intro a hE
      refine s_skip (wk2 hE rfl rfl rfl hb1) rfl rfl hE ?_
      intro a hE
      refine s_val (wk0 rfl) rfl rfl hE hp (v := (.bool false)) (ex_pick0 rfl hE rfl hb1 rfl) ?_
      intro a hE
      have hE := hE.eqv (v' := (.bool ((decide (x1.2 = 0)) && (decide (x1.1 ≤ p2))))) (by rw [hb1]; rfl)
      exact s_nil ⟨hE.cut ⟨rfl, rfl, trivial⟩, hp⟩
  · rintro a w ⟨hE, hp⟩
    refine s_val (wk0 rfl) rfl rfl hE hp (v := (.int .i64 x1.2)) (ex_move rfl hE rfl) ?_
    intro a hE
    refine s_val (wk0 rfl) rfl rfl hE hp (v := (.bool ((decide (x1.2 = 0)) && (decide (x1.1 ≤ p2))))) (ex_asn rfl hE rfl) ?_
    intro a hE
    refine s_val (wk0 rfl) rfl rfl hE hp (v := (.int .i64 x1.2)) (ex_asn rfl hE rfl) ?_
    intro a hE
    refine s_nil ?_
    refine k_ret ?_
    obtain rfl := Option.some.inj hm
    exact ret2 hE rfl rfl rfl ⟨_, rfl, rfl, (((hp.get 1 rfl).drop).drop)⟩
/- assessor/distance.Matrix -/
set_option maxRecDepth 100000 in
set_option maxHeartbeats 4000000 in
theorem c_distance_Matrix {Z : World} {ρ : PH} {L : List Atom} {w : World} (p0 : (List Node)) (vp0 : Value) (hp0 : RoSl ρ vp0 p0) (hp : Hp Z ρ (L) w) (r : ((List (List Int)) × Int)) (hm : m_distance_Matrix p0 = some r) :
    Calls Try.prog 23 #[vp0] w (Ret fun v w' => ∃ (vr1 : Value) (usr1 : List Sl), v = .tuple #[vr1, (.int .i64 r.2)] ∧ Hp Z ρ (TblA 34 3 vr1 usr1 (r.1 : (List (List Int))) :: L) w') := by
  refine enter (N := 63) Try.func23 rfl rfl [(0, vp0)] rfl (argsIn_mem ⟨rfl, trivial⟩) fun a hE => ?_
  unfold m_distance_Matrix at hm
  refine k_seq ?_
  refine k_region ?_
  refine s_val (wk0 rfl) rfl rfl hE hp (v := (.slice none 0 0)) (ex_asn rfl hE rfl) ?_
  intro a hE
  refine s_val (wk0 rfl) rfl rfl hE hp (v := (.int .i64 0)) (ex_asn rfl hE rfl) ?_
  intro a hE
  refine s_nil ?_
  refine k_seq ?_
  refine k_seq ?_
  refine k_region ?_
  refine s_val (wk0 rfl) rfl rfl hE hp (v := vp0) (ex_move rfl hE rfl) ?_
  intro a hE
  refine s_val (wk0 rfl) rfl rfl hE hp (v := (.int .i64 (p0.length : Int))) (ex_len rfl hE rfl (RoSl.len hp0 slty22)) ?_
  intro a hE
  refine s_val (wk0 rfl) rfl rfl hE hp (v := (.bool (decide (1024 < (p0.length : Int))))) (ex_gtr rfl hE rfl rfl) ?_
  intro a hE
  refine s_val (wk0 rfl) rfl rfl hE hp (v := (.bool (decide (1024 < (p0.length : Int))))) (ex_move rfl hE rfl) ?_
  intro a hE
  obtain ⟨m1, hg1, hm⟩ := bnd hm
  refine s_cut [_, _, _] (fun a w => Env 63 [(13, (.bool m1)), (0, vp0)] a ∧ Hp Z ρ (L) w) ?_ ?_
  · rcases Bool.eq_false_or_eq_true (decide (1024 < (p0.length : Int))) with hb1 | hb1
    ·
      replace hg1 := (it hb1).symm.trans hg1
      refine s_skip (wk2 hE rfl rfl rfl hb1) rfl rfl hE ?_
      intro a hE
      refine s_skip (wk2 hE rfl rfl rfl hb1) rfl rfl hE ?_
      intro a hE
      refine s_val (wk0 rfl) rfl rfl hE hp (v := (.bool true)) (ex_pick1 rfl hE rfl hb1 rfl) ?_
      intro a hE
      obtain rfl := Option.some.inj hg1
      exact s_nil ⟨hE.cut ⟨rfl, rfl, trivial⟩, hp⟩
    ·
      replace hg1 := (ie hb1).symm.trans hg1
      refine s_val (wk1 hE rfl rfl rfl hb1) rfl rfl hE hp (v := vp0) (ex_move rfl hE rfl) ?_
      intro a hE
      obtain ⟨x1, ex1, hg1⟩ := bnd hg1
      refine s_call (wk1 hE rfl rfl rfl hb1) rfl rfl hE rfl [vp0] ⟨rfl, trivial⟩ ent29 (c_distance_large p0 vp0 hp0 hp x1 ex1) Ret.ret ?_
      intro v a w hR hE
      obtain ⟨rfl, hp⟩ := Ret.of hR
      have hp : Hp Z ρ (L) w := hp
      refine s_val (wk0 rfl) rfl rfl hE hp (v := (.bool x1)) (ex_pick0 rfl hE rfl hb1 rfl) ?_
      intro a hE
      obtain rfl := Option.some.inj hg1
      exact s_nil ⟨hE.cut ⟨rfl, rfl, trivial⟩, hp⟩
  · rintro a w ⟨hE, hp⟩
    refine s_nil ?_
    refine k_if hE rfl (fun hb2 => ?_) (fun hb2 => ?_)
    · replace hm := (it hb2).symm.trans hm
      refine k_seq ?_
      refine k_region ?_
      refine s_val (wk0 rfl) rfl rfl hE hp (v := (.slice none 0 0)) (ex_asn rfl hE rfl) ?_
      intro a hE
      refine s_val (wk0 rfl) rfl rfl hE hp (v := (.int .i64 8)) (ex_asn rfl hE rfl) ?_
      intro a hE
      refine s_nil ?_
      refine k_ret ?_
      have hp := hp.emp (TblA.none (α := Int) 34 3 none)
      have hp : Hp Z ρ (TblA 34 3 (.slice none 0 0) ([]) ([] : (List (List Int))) :: L) w := hp
      obtain rfl := Option.some.inj hm
      exact ret2 hE rfl rfl rfl ⟨_, rfl, _, _, rfl, hp⟩
    · replace hm := (ie hb2).symm.trans hm
      refine k_skip ?_
      refine k_seq ?_
      refine k_region ?_
      refine s_val (wk0 rfl) rfl rfl hE hp (v := vp0) (ex_move rfl hE rfl) ?_
      intro a hE
      refine s_val (wk0 rfl) rfl rfl hE hp (v := (.int .i64 (p0.length : Int))) (ex_len rfl hE rfl (RoSl.len hp0 slty22)) ?_
      intro a hE
      refine s_val (wk0 rfl) rfl rfl hE hp (v := vp0) (ex_move rfl hE rfl) ?_
      intro a hE
      refine s_val (wk0 rfl) rfl rfl hE hp (v := (.int .i64 (p0.length : Int))) (ex_len rfl hE rfl (RoSl.len hp0 slty22)) ?_
      intro a hE
      obtain ⟨x2, ex2, hm⟩ := bnd hm
      refine s_call (wk0 rfl) rfl rfl hE rfl [(.int .i64 (p0.length : Int)), (.int .i64 (p0.length : Int))] ⟨rfl, rfl, trivial⟩ ent36 (c_distance_table (p0.length : Int) (p0.length : Int) hp x2 ex2) Ret.ret ?_
      intro vr2 a w hR hE
      obtain ⟨u, usr2, rfl, hp⟩ := Ret.of hR
      have hp : Hp Z ρ (TblA 34 3 vr2 usr2 (x2 : (List (List Int))) :: L) w := hp
      refine s_val (wk0 rfl) rfl rfl hE hp (v := vr2) (ex_asn rfl hE rfl) ?_
      intro a hE
      refine s_nil ?_
      refine k_seq ?_
      refine k_seq ?_
      refine k_region ?_
      refine s_val (wk0 rfl) rfl rfl hE hp (v := vp0) (ex_move rfl hE rfl) ?_
      intro a hE
      refine s_val (wk0 rfl) rfl rfl hE hp (v := (.int .i64 (p0.length : Int))) (ex_len rfl hE rfl (RoSl.len hp0 slty22)) ?_
      intro a hE
      refine s_val (wk0 rfl) rfl rfl hE hp (v := (.int .i64 0)) (ex_move rfl hE rfl) ?_
      intro a hE
      refine s_nil ?_
      obtain ⟨b1, hb3, hm⟩ := bnd hm
      refine k_block (fun a w => Env 63 [(4, vr2)] a ∧ Hp Z ρ (TblA 34 3 vr2 usr2 (b1 : (List (List Int))) :: L) w) ?_ ?_
      · refine k_loop hb3 (fun s a w => Env 63 [(0, vp0), (4, vr2), (20, (.int .i64 (p0.length : Int))), (21, (.int .i64 s.1))] a ∧ Hp Z ρ (TblA 34 3 vr2 usr2 (s.2 : (List (List Int))) :: L) w) ?_ ?_
        · exact ⟨hE.cut ⟨rfl, rfl, rfl, rfl, trivial⟩, hp⟩
        · rintro ⟨lp1_0, lp1_1⟩ st a w ⟨hE, hp⟩ hl1
          have hE : Env 63 [(0, vp0), (4, vr2), (20, (.int .i64 (p0.length : Int))), (21, (.int .i64 lp1_0))] a := hE
          have hp : Hp Z ρ (TblA 34 3 vr2 usr2 (lp1_1 : (List (List Int))) :: L) w := hp
          replace hl1 : m_distance_Matrix_lp1 p0 lp1_0 lp1_1 = some st := hl1
          unfold m_distance_Matrix_lp1 at hl1
          refine k_seq ?_
          refine k_region ?_
          refine s_val (wk0 rfl) rfl rfl hE hp (v := (.bool (decide (lp1_0 < (p0.length : Int))))) (ex_lss rfl hE rfl rfl) ?_
          intro a hE
          refine s_nil ?_
          refine k_seq ?_
          refine k_if hE rfl (fun hb4 => ?_) (fun hb4 => ?_)
          · replace hl1 := (it hb4).symm.trans hl1
            refine k_skip ?_
            refine k_seq ?_
            refine k_plain ?_
            refine k_seq ?_
            refine k_region ?_
            refine s_val (wk0 rfl) rfl rfl hE hp (v := (.int .i64 lp1_0)) (ex_move rfl hE rfl) ?_
            intro a hE
            refine s_val (wk0 rfl) rfl rfl hE hp (v := (.int .i64 lp1_0)) (ex_asn rfl hE rfl) ?_
            intro a hE
            refine s_nil ?_
            refine k_seq ?_
            refine k_region ?_
            refine s_val (wk0 rfl) rfl rfl hE hp (v := (.int .i64 lp1_0)) (ex_move rfl hE rfl) ?_
            intro a hE
            refine s_val (wk0 rfl) rfl rfl hE hp (v := (.int .i64 0)) (ex_move rfl hE rfl) ?_
            intro a hE
            refine s_nil ?_
            obtain ⟨b2, hb5, hl1⟩ := bnd hl1
            refine k_block (fun a w => Env 63 [(0, vp0), (4, vr2), (20, (.int .i64 (p0.length : Int))), (21, (.int .i64 lp1_0))] a ∧ Hp Z ρ (TblA 34 3 vr2 usr2 (b2 : (List (List Int))) :: L) w) ?_ ?_
            · refine k_loop hb5 (fun s a w => Env 63 [(0, vp0), (4, vr2), (5, (.int .i64 lp1_0)), (20, (.int .i64 (p0.length : Int))), (21, (.int .i64 lp1_0)), (24, (.int .i64 lp1_0)), (25, (.int .i64 s.1))] a ∧ Hp Z ρ (TblA 34 3 vr2 usr2 (s.2 : (List (List Int))) :: L) w) ?_ ?_
              · exact ⟨hE.cut ⟨rfl, rfl, rfl, rfl, rfl, rfl, rfl, trivial⟩, hp⟩
              · rintro ⟨lp2_0, lp2_1⟩ st a w ⟨hE, hp⟩ hl2
                have hE : Env 63 [(0, vp0), (4, vr2), (5, (.int .i64 lp1_0)), (20, (.int .i64 (p0.length : Int))), (21, (.int .i64 lp1_0)), (24, (.int .i64 lp1_0)), (25, (.int .i64 lp2_0))] a := hE
                have hp : Hp Z ρ (TblA 34 3 vr2 usr2 (lp2_1 : (List (List Int))) :: L) w := hp
                replace hl2 : m_distance_Matrix_lp2 p0 lp1_0 lp2_0 lp2_1 = some st := hl2
                unfold m_distance_Matrix_lp2 at hl2
                refine k_seq ?_
                refine k_region ?_
                refine s_val (wk0 rfl) rfl rfl hE hp (v := (.bool (decide (lp2_0 < lp1_0)))) (ex_lss rfl hE rfl rfl) ?_
                intro a hE
                refine s_nil ?_
                refine k_seq ?_
                refine k_if hE rfl (fun hb6 => ?_) (fun hb6 => ?_)
                · replace hl2 := (it hb6).symm.trans hl2
                  refine k_skip ?_
                  refine k_seq ?_
                  refine k_plain ?_
                  refine k_seq ?_
                  refine k_region ?_
                  refine s_val (wk0 rfl) rfl rfl hE hp (v := (.int .i64 lp2_0)) (ex_move rfl hE rfl) ?_
                  intro a hE
                  refine s_val (wk0 rfl) rfl rfl hE hp (v := (.int .i64 lp2_0)) (ex_asn rfl hE rfl) ?_
                  intro a hE
                  refine s_nil ?_
                  refine k_seq ?_
                  obtain ⟨x3, ex3, hl2⟩ := bnd hl2
                  obtain ⟨x4, ex4, hl2⟩ := bnd hl2
                  obtain ⟨x5, ex5, hl2⟩ := bnd hl2
                  obtain ⟨x6, ex6, hl2⟩ := bnd hl2
                  obtain ⟨x7, ex7, hl2⟩ := bnd hl2
                  obtain ⟨x8, ex8, hl2⟩ := bnd hl2
                  obtain ⟨x9, ex9, hl2⟩ := bnd hl2
                  have hp := hp.drew
                  refine k_heldV ([([], At0 Z ρ), ([19], At1 Z ρ (TblA 34 3 vr2 usr2 (lp2_1 : (List (List Int)))))] : Facts) (fun a w => ∃ y7 : Value, ∃ yus7 : List Sl, Env 63 [(0, vp0), (4, vr2), (5, (.int .i64 lp1_0)), (6, (.int .i64 lp2_0)), (20, (.int .i64 (p0.length : Int))), (21, (.int .i64 lp1_0)), (24, (.int .i64 lp1_0)), (25, (.int .i64 lp2_0))] a ∧ Hp Z ρ (TblA 34 3 y7 yus7 (x6 : (List (List Int))) :: TblA 34 3 vr2 usr2 (lp2_1.set lp1_0.toNat (x3.set lp2_0.toNat x8) : (List (List Int))) :: L) w) (by kernel_rfl) ⟨fun _ => ⟨_, hp⟩, fun _ => ⟨_, (hp.get 0 rfl)⟩, trivial⟩ (fun hS => ?_) ?_
                  ·
                    generalize w.drew = w at hS hp ⊢
                    refine v_take0 0 (wk0 rfl) rfl rfl rfl hE (by kernel_rfl) (by kernel_rfl) (by kernel_rfl) rfl (by kernel_rfl) hS (v := vr2) (fun _ => ex_move rfl hE rfl) ?_
                    intro a hE hS
                    refine v_take0 1 (wk0 rfl) rfl rfl rfl hE (by kernel_rfl) (by kernel_rfl) (by kernel_rfl) rfl (by kernel_rfl) hS (v := (.int .i64 lp1_0)) (fun _ => ex_move rfl hE rfl) ?_
                    intro a hE hS
                    obtain ⟨b9u, b9, b9o, b9h, b9r, b9v, b9f⟩ := TblA.hdr hp 0 rfl slty30 ex3
                    have b9f : ∀ (j : Nat) (u : Value), ([(Sl.v b9u)] : List Value)[j]? = some u → ∀ ρ' L' w, Hp Z ρ' (TblA 34 3 vr2 usr2 (lp2_1 : (List (List Int))) :: L') w → w.cell? ⟨b9, b9o + j, none⟩ = some u := b9f
                    refine v_take0 2 (wk0 rfl) rfl rfl rfl hE (by kernel_rfl) (by kernel_rfl) (by kernel_rfl) rfl (by kernel_rfl) hS (v := (.pointer (some ⟨b9, b9o, none⟩))) (fun _ => ex_index rfl hE rfl rfl b9r) ?_
                    intro a hE hS
                    refine v_take1 3 1 (wk0 rfl) rfl rfl rfl hE (by kernel_rfl) (by kernel_rfl) (by kernel_rfl) rfl (by kernel_rfl) hS (v := (Sl.v b9u)) (fun _ => ex_load rfl hE rfl (fun w hw => run_ld1 varty34 (b9f 0 _ rfl _ _ w (hw.get 0 rfl)))) ?_
                    intro a hE hS
                    refine v_take0 4 (wk0 rfl) rfl rfl rfl hE (by kernel_rfl) (by kernel_rfl) (by kernel_rfl) rfl (by kernel_rfl) hS (v := (.int .i64 lp2_0)) (fun _ => ex_move rfl hE rfl) ?_
                    intro a hE hS
                    refine v_take0 5 (wk0 rfl) rfl rfl rfl hE (by kernel_rfl) (by kernel_rfl) (by kernel_rfl) rfl (by kernel_rfl) hS (v := vp0) (fun _ => ex_move rfl hE rfl) ?_
                    intro a hE hS
                    refine v_take0 6 (wk0 rfl) rfl rfl rfl hE (by kernel_rfl) (by kernel_rfl) (by kernel_rfl) rfl (by kernel_rfl) hS (v := (.int .i64 lp1_0)) (fun _ => ex_move rfl hE rfl) ?_
                    intro a hE hS
                    obtain ⟨b10, b10o, b10c, b10r, b10k, b10f⟩ := RoSl.at hp0 slty22 ex4
                    obtain ⟨vb10_kids, rfl, hb10_kids⟩ := NodeAt.opens b10k
                    have b10f : AtP ρ b10 b10o [(.int .i64 x4.kind), (.string x4.text), (.int .i64 x4.at_), (.int .i64 x4.fin), vb10_kids] := b10f
                    refine v_take0 7 (wk0 rfl) rfl rfl rfl hE (by kernel_rfl) (by kernel_rfl) (by kernel_rfl) rfl (by kernel_rfl) hS (v := (.pointer (some ⟨b10, b10o, none⟩))) (fun _ => ex_index rfl hE rfl rfl b10r) ?_
                    intro a hE hS
                    refine v_take0 8 (wk0 rfl) rfl rfl rfl hE (by kernel_rfl) (by kernel_rfl) (by kernel_rfl) rfl (by kernel_rfl) hS (v := (.agg #[(.int .i64 x4.kind), (.string x4.text), (.int .i64 x4.at_), (.int .i64 x4.fin), vb10_kids])) (fun _ => ex_load rfl hE rfl (fun w hw => run_ldN (cs := [(.int .i64 x4.kind), (.string x4.text), (.int .i64 x4.at_), (.int .i64 x4.fin), vb10_kids]) varty24 (fun j u hj => cell_of hw.le (b10f j u hj)))) ?_
                    intro a hE hS
                    refine v_take0 9 (wk0 rfl) rfl rfl rfl hE (by kernel_rfl) (by kernel_rfl) (by kernel_rfl) rfl (by kernel_rfl) hS (v := vp0) (fun _ => ex_move rfl hE rfl) ?_
                    intro a hE hS
                    refine v_take0 10 (wk0 rfl) rfl rfl rfl hE (by kernel_rfl) (by kernel_rfl) (by kernel_rfl) rfl (by kernel_rfl) hS (v := (.int .i64 lp2_0)) (fun _ => ex_move rfl hE rfl) ?_
                    intro a hE hS
                    obtain ⟨b11, b11o, b11c, b11r, b11k, b11f⟩ := RoSl.at hp0 slty22 ex5
                    obtain ⟨vb11_kids, rfl, hb11_kids⟩ := NodeAt.opens b11k
                    have b11f : AtP ρ b11 b11o [(.int .i64 x5.kind), (.string x5.text), (.int .i64 x5.at_), (.int .i64 x5.fin), vb11_kids] := b11f
                    refine v_take0 11 (wk0 rfl) rfl rfl rfl hE (by kernel_rfl) (by kernel_rfl) (by kernel_rfl) rfl (by kernel_rfl) hS (v := (.pointer (some ⟨b11, b11o, none⟩))) (fun _ => ex_index rfl hE rfl rfl b11r) ?_
                    intro a hE hS
                    refine v_take0 12 (wk0 rfl) rfl rfl rfl hE (by kernel_rfl) (by kernel_rfl) (by kernel_rfl) rfl (by kernel_rfl) hS (v := (.agg #[(.int .i64 x5.kind), (.string x5.text), (.int .i64 x5.at_), (.int .i64 x5.fin), vb11_kids])) (fun _ => ex_load rfl hE rfl (fun w hw => run_ldN (cs := [(.int .i64 x5.kind), (.string x5.text), (.int .i64 x5.at_), (.int .i64 x5.fin), vb11_kids]) varty24 (fun j u hj => cell_of hw.le (b11f j u hj)))) ?_
                    intro a hE hS
                    refine v_all [13] (by kernel_rfl) rfl ?_
                    refine List.forall_mem_cons.2 ⟨?_, fun _ h => absurd h (by simp)⟩
                    ·
                      refine h_op rfl ?_
                      refine s_call (wk0 rfl) rfl rfl hE rfl [(.agg #[(.int .i64 x4.kind), (.string x4.text), (.int .i64 x4.at_), (.int .i64 x4.fin), vb10_kids]), (.agg #[(.int .i64 x5.kind), (.string x5.text), (.int .i64 x5.at_), (.int .i64 x5.fin), vb11_kids])] ⟨rfl, rfl, trivial⟩ ent30 (c_distance_subtrees x4 vb10_kids hb10_kids x5 vb11_kids hb11_kids hp x6 ex6) Ret.ret ?_
                      intro vr4 a w hR hE
                      obtain ⟨u, usr4, rfl, hp⟩ := Ret.of hR
                      have hp : Hp Z ρ (TblA 34 3 vr4 usr4 (x6 : (List (List Int))) :: _ :: L) w := hp
                      refine s_nil (and_with ⟨fun _ => ⟨_, hp⟩, fun _ => ⟨_, (hp.get 1 rfl)⟩, trivial⟩ fun hS => ?_)
                      obtain ⟨b12u, b12, b12o, b12h, b12r, b12v, b12f⟩ := TblA.hdr hp 0 rfl slty30 ex7
                      have b12f : ∀ (j : Nat) (u : Value), ([(Sl.v b12u)] : List Value)[j]? = some u → ∀ ρ' L' w, Hp Z ρ' (TblA 34 3 vr4 usr4 (x6 : (List (List Int))) :: L') w → w.cell? ⟨b12, b12o + j, none⟩ = some u := b12f
                      refine v_take0 14 (wk0 rfl) rfl rfl rfl hE (by kernel_rfl) (by kernel_rfl) (by kernel_rfl) rfl (by kernel_rfl) hS (v := (.pointer (some ⟨b12, b12o, none⟩))) (fun _ => ex_index rfl hE rfl rfl b12r) ?_
                      intro a hE hS
                      refine v_all [15] (by kernel_rfl) rfl ?_
                      refine List.forall_mem_cons.2 ⟨?_, fun _ h => absurd h (by simp)⟩
                      ·
                        refine h_op rfl ?_
                        refine s_val (wk0 rfl) rfl rfl hE hp (v := (Sl.v b12u)) (ex_load rfl hE rfl (fun w hw => run_ld1 varty34 (b12f 0 _ rfl _ _ w (hw.get 0 rfl)))) ?_
                        intro a hE
                        refine s_nil (and_with ⟨fun _ => ⟨_, hp⟩, fun _ => ⟨_, (hp.get 1 rfl)⟩, trivial⟩ fun hS => ?_)
                        obtain ⟨b13, b13o, b13r, b13v, b13f⟩ := TblA.at hp 0 rfl slty34 b12h ex7 ex8
                        have b13f : ∀ (j : Nat) (u : Value), ([(.int .i64 x8)] : List Value)[j]? = some u → ∀ ρ' L' w, Hp Z ρ' (TblA 34 3 vr4 usr4 (x6 : (List (List Int))) :: L') w → w.cell? ⟨b13, b13o + j, none⟩ = some u := b13f
                        refine v_take0 16 (wk0 rfl) rfl rfl rfl hE (by kernel_rfl) (by kernel_rfl) (by kernel_rfl) rfl (by kernel_rfl) hS (v := (.pointer (some ⟨b13, b13o, none⟩))) (fun _ => ex_index rfl hE rfl rfl b13r) ?_
                        intro a hE hS
                        refine v_all [17] (by kernel_rfl) rfl ?_
                        refine List.forall_mem_cons.2 ⟨?_, fun _ h => absurd h (by simp)⟩
                        ·
                          refine h_op rfl ?_
                          refine s_val (wk0 rfl) rfl rfl hE hp (v := (.int .i64 x8)) (ex_load rfl hE rfl (fun w hw => run_ld1 varty3 (b13f 0 _ rfl _ _ w (hw.get 0 rfl)))) ?_
                          intro a hE
                          refine s_nil (and_with ⟨fun _ => ⟨_, hp⟩, fun _ => ⟨_, (hp.get 1 rfl)⟩, trivial⟩ fun hS => ?_)
                          obtain ⟨b14, b14o, b14r, b14v, b14f⟩ := TblA.at hp 1 rfl slty34 b9h ex3 ex9
                          have b14f : ∀ (j : Nat) (u : Value), ([(.int .i64 x9)] : List Value)[j]? = some u → ∀ ρ' L' w, Hp Z ρ' (TblA 34 3 vr2 usr2 (lp2_1 : (List (List Int))) :: L') w → w.cell? ⟨b14, b14o + j, none⟩ = some u := b14f
                          refine v_take0 18 (wk0 rfl) rfl rfl rfl hE (by kernel_rfl) (by kernel_rfl) (by kernel_rfl) rfl (by kernel_rfl) hS (v := (.pointer (some ⟨b14, b14o, none⟩))) (fun _ => ex_index rfl hE rfl rfl b14r) ?_
                          intro a hE hS
                          refine v_all [19] (by kernel_rfl) rfl ?_
                          refine List.forall_mem_cons.2 ⟨?_, fun _ h => absurd h (by simp)⟩
                          ·
                            refine h_op rfl ?_
                            refine s_tstel (wk0 rfl) rfl hE hp rfl rfl rfl 1 rfl b9h ex3 ex9 b14v 0 (e' := x8) varty3.size_ rfl rfl rfl ⟨rfl, rfl⟩ ?_
                            intro w hp
                            have hp : Hp Z ρ (_ :: TblA 34 3 vr2 usr2 (lp2_1.set lp1_0.toNat (x3.set lp2_0.toNat x8) : (List (List Int))) :: L) w := hp
                            refine s_nil (and_with ⟨fun _ => ⟨_, hp⟩, dead (by kernel_rfl), trivial⟩ fun hS => ?_)
                            exact v_done (by kernel_rfl) ⟨_, _, hE.cut ⟨rfl, rfl, rfl, rfl, rfl, rfl, rfl, rfl, trivial⟩, hp⟩
                  · rintro a w ⟨y7, yus7, hE, hp⟩
                    obtain ⟨x10, ex10, hl2⟩ := bnd hl2
                    obtain ⟨x11, ex11, hl2⟩ := bnd hl2
                    obtain ⟨x12, ex12, hl2⟩ := bnd hl2
                    obtain ⟨x13, ex13, hl2⟩ := bnd hl2
                    have hp := hp.drew
                    refine k_heldV ([([], At0 Z ρ), ([13], At1 Z ρ (TblA 34 3 vr2 usr2 (lp2_1.set lp1_0.toNat (x3.set lp2_0.toNat x8) : (List (List Int)))))] : Facts) (fun a w => Env 63 [(0, vp0), (4, vr2), (5, (.int .i64 lp1_0)), (20, (.int .i64 (p0.length : Int))), (21, (.int .i64 lp1_0)), (24, (.int .i64 lp1_0)), (25, (.int .i64 lp2_0))] a ∧ Hp Z ρ (TblA 34 3 y7 yus7 (x6 : (List (List Int))) :: TblA 34 3 vr2 usr2 ((lp2_1.set lp1_0.toNat (x3.set lp2_0.toNat x8)).set lp2_0.toNat (x10.set lp1_0.toNat x12) : (List (List Int))) :: L) w) (by kernel_rfl) ⟨fun _ => ⟨_, hp⟩, fun _ => ⟨_, (hp.get 1 rfl)⟩, trivial⟩ (fun hS => ?_) ?_
                    ·
                      generalize w.drew = w at hS hp ⊢
                      refine v_take0 0 (wk0 rfl) rfl rfl rfl hE (by kernel_rfl) (by kernel_rfl) (by kernel_rfl) rfl (by kernel_rfl) hS (v := vr2) (fun _ => ex_move rfl hE rfl) ?_
                      intro a hE hS
                      refine v_take0 1 (wk0 rfl) rfl rfl rfl hE (by kernel_rfl) (by kernel_rfl) (by kernel_rfl) rfl (by kernel_rfl) hS (v := (.int .i64 lp2_0)) (fun _ => ex_move rfl hE rfl) ?_
                      intro a hE hS
                      obtain ⟨b19u, b19, b19o, b19h, b19r, b19v, b19f⟩ := TblA.hdr hp 1 rfl slty30 ex10
                      have b19f : ∀ (j : Nat) (u : Value), ([(Sl.v b19u)] : List Value)[j]? = some u → ∀ ρ' L' w, Hp Z ρ' (TblA 34 3 vr2 usr2 (lp2_1.set lp1_0.toNat (x3.set lp2_0.toNat x8) : (List (List Int))) :: L') w → w.cell? ⟨b19, b19o + j, none⟩ = some u := b19f
                      refine v_take0 2 (wk0 rfl) rfl rfl rfl hE (by kernel_rfl) (by kernel_rfl) (by kernel_rfl) rfl (by kernel_rfl) hS (v := (.pointer (some ⟨b19, b19o, none⟩))) (fun _ => ex_index rfl hE rfl rfl b19r) ?_
                      intro a hE hS
                      refine v_take1 3 1 (wk0 rfl) rfl rfl rfl hE (by kernel_rfl) (by kernel_rfl) (by kernel_rfl) rfl (by kernel_rfl) hS (v := (Sl.v b19u)) (fun _ => ex_load rfl hE rfl (fun w hw => run_ld1 varty34 (b19f 0 _ rfl _ _ w (hw.get 0 rfl)))) ?_
                      intro a hE hS
                      refine v_take0 4 (wk0 rfl) rfl rfl rfl hE (by kernel_rfl) (by kernel_rfl) (by kernel_rfl) rfl (by kernel_rfl) hS (v := (.int .i64 lp1_0)) (fun _ => ex_move rfl hE rfl) ?_
                      intro a hE hS
                      refine v_take0 5 (wk0 rfl) rfl rfl rfl hE (by kernel_rfl) (by kernel_rfl) (by kernel_rfl) rfl (by kernel_rfl) hS (v := vr2) (fun _ => ex_move rfl hE rfl) ?_
                      intro a hE hS
                      refine v_take0 6 (wk0 rfl) rfl rfl rfl hE (by kernel_rfl) (by kernel_rfl) (by kernel_rfl) rfl (by kernel_rfl) hS (v := (.int .i64 lp1_0)) (fun _ => ex_move rfl hE rfl) ?_
                      intro a hE hS
                      obtain ⟨b20u, b20, b20o, b20h, b20r, b20v, b20f⟩ := TblA.hdr hp 1 rfl slty30 ex11
                      have b20f : ∀ (j : Nat) (u : Value), ([(Sl.v b20u)] : List Value)[j]? = some u → ∀ ρ' L' w, Hp Z ρ' (TblA 34 3 vr2 usr2 (lp2_1.set lp1_0.toNat (x3.set lp2_0.toNat x8) : (List (List Int))) :: L') w → w.cell? ⟨b20, b20o + j, none⟩ = some u := b20f
                      refine v_take0 7 (wk0 rfl) rfl rfl rfl hE (by kernel_rfl) (by kernel_rfl) (by kernel_rfl) rfl (by kernel_rfl) hS (v := (.pointer (some ⟨b20, b20o, none⟩))) (fun _ => ex_index rfl hE rfl rfl b20r) ?_
                      intro a hE hS
                      refine v_take1 8 1 (wk0 rfl) rfl rfl rfl hE (by kernel_rfl) (by kernel_rfl) (by kernel_rfl) rfl (by kernel_rfl) hS (v := (Sl.v b20u)) (fun _ => ex_load rfl hE rfl (fun w hw => run_ld1 varty34 (b20f 0 _ rfl _ _ w (hw.get 0 rfl)))) ?_
                      intro a hE hS
                      refine v_take0 9 (wk0 rfl) rfl rfl rfl hE (by kernel_rfl) (by kernel_rfl) (by kernel_rfl) rfl (by kernel_rfl) hS (v := (.int .i64 lp2_0)) (fun _ => ex_move rfl hE rfl) ?_
                      intro a hE hS
                      obtain ⟨b21, b21o, b21r, b21v, b21f⟩ := TblA.at hp 1 rfl slty34 b20h ex11 ex12
                      have b21f : ∀ (j : Nat) (u : Value), ([(.int .i64 x12)] : List Value)[j]? = some u → ∀ ρ' L' w, Hp Z ρ' (TblA 34 3 vr2 usr2 (lp2_1.set lp1_0.toNat (x3.set lp2_0.toNat x8) : (List (List Int))) :: L') w → w.cell? ⟨b21, b21o + j, none⟩ = some u := b21f
                      refine v_take0 10 (wk0 rfl) rfl rfl rfl hE (by kernel_rfl) (by kernel_rfl) (by kernel_rfl) rfl (by kernel_rfl) hS (v := (.pointer (some ⟨b21, b21o, none⟩))) (fun _ => ex_index rfl hE rfl rfl b21r) ?_
                      intro a hE hS
                      refine v_take1 11 1 (wk0 rfl) rfl rfl rfl hE (by kernel_rfl) (by kernel_rfl) (by kernel_rfl) rfl (by kernel_rfl) hS (v := (.int .i64 x12)) (fun _ => ex_load rfl hE rfl (fun w hw => run_ld1 varty3 (b21f 0 _ rfl _ _ w (hw.get 0 rfl)))) ?_
                      intro a hE hS
                      obtain ⟨b22, b22o, b22r, b22v, b22f⟩ := TblA.at hp 1 rfl slty34 b19h ex10 ex13
                      have b22f : ∀ (j : Nat) (u : Value), ([(.int .i64 x13)] : List Value)[j]? = some u → ∀ ρ' L' w, Hp Z ρ' (TblA 34 3 vr2 usr2 (lp2_1.set lp1_0.toNat (x3.set lp2_0.toNat x8) : (List (List Int))) :: L') w → w.cell? ⟨b22, b22o + j, none⟩ = some u := b22f
                      refine v_take0 12 (wk0 rfl) rfl rfl rfl hE (by kernel_rfl) (by kernel_rfl) (by kernel_rfl) rfl (by kernel_rfl) hS (v := (.pointer (some ⟨b22, b22o, none⟩))) (fun _ => ex_index rfl hE rfl rfl b22r) ?_
                      intro a hE hS
                      refine v_all [13] (by kernel_rfl) rfl ?_
                      refine List.forall_mem_cons.2 ⟨?_, fun _ h => absurd h (by simp)⟩
                      ·
                        refine h_op rfl ?_
                        refine s_tstel (wk0 rfl) rfl hE hp rfl rfl rfl 1 rfl b19h ex10 ex13 b22v 0 (e' := x12) varty3.size_ rfl rfl rfl ⟨rfl, rfl⟩ ?_
                        intro w hp
                        have hp : Hp Z ρ (TblA 34 3 y7 yus7 (x6 : (List (List Int))) :: TblA 34 3 vr2 usr2 ((lp2_1.set lp1_0.toNat (x3.set lp2_0.toNat x8)).set lp2_0.toNat (x10.set lp1_0.toNat x12) : (List (List Int))) :: L) w := hp
                        refine s_nil (and_with ⟨fun _ => ⟨_, hp⟩, dead (by kernel_rfl), trivial⟩ fun hS => ?_)
                        exact v_done (by kernel_rfl) ⟨hE.cut ⟨rfl, rfl, rfl, rfl, rfl, rfl, rfl, trivial⟩, hp⟩
                    · rintro a w ⟨hE, hp⟩
                      refine k_region ?_
                      obtain ⟨x14, ex14, hl2⟩ := bnd hl2
                      refine s_val (wk0 rfl) rfl rfl hE hp (v := (.int .i64 x14)) (ex_add rfl hE rfl rfl (inK_some ex14)) ?_
                      intro a hE
                      refine s_val (wk0 rfl) rfl rfl hE hp (v := (.int .i64 x14)) (ex_move rfl hE rfl) ?_
                      intro a hE
                      refine s_nil ?_
                      exact ⟨_, (Option.some.inj hl2).symm, hE.cut ⟨rfl, rfl, rfl, rfl, rfl, rfl, rfl, trivial⟩, (hp.drop)⟩
                · replace hl2 := (ie hb6).symm.trans hl2
                  refine k_exit ?_
                  refine ⟨_, (Option.some.inj hl2).symm, fun hbb => ?_⟩
                  subst hbb
                  exact ⟨hE.cut ⟨rfl, rfl, rfl, rfl, trivial⟩, hp⟩
            · rintro a w ⟨hE, hp⟩
              refine k_region ?_
              obtain ⟨x15, ex15, hl1⟩ := bnd hl1
              refine s_val (wk0 rfl) rfl rfl hE hp (v := (.int .i64 x15)) (ex_add rfl hE rfl rfl (inK_some ex15)) ?_
              intro a hE
              refine s_val (wk0 rfl) rfl rfl hE hp (v := (.int .i64 x15)) (ex_move rfl hE rfl) ?_
              intro a hE
              refine s_nil ?_
              exact ⟨_, (Option.some.inj hl1).symm, hE.cut ⟨rfl, rfl, rfl, rfl, trivial⟩, hp⟩
          · replace hl1 := (ie hb4).symm.trans hl1
            refine k_exit ?_
            refine ⟨_, (Option.some.inj hl1).symm, fun hbb => ?_⟩
            subst hbb
            exact ⟨hE.cut ⟨rfl, trivial⟩, hp⟩
      · rintro a w ⟨hE, hp⟩
        refine k_seq ?_
        refine k_region ?_
        refine s_val (wk0 rfl) rfl rfl hE hp (v := vr2) (ex_move rfl hE rfl) ?_
        intro a hE
        refine s_val (wk0 rfl) rfl rfl hE hp (v := vr2) (ex_asn rfl hE rfl) ?_
        intro a hE
        refine s_val (wk0 rfl) rfl rfl hE hp (v := (.int .i64 0)) (ex_asn rfl hE rfl) ?_
        intro a hE
        refine s_nil ?_
        refine k_ret ?_
        obtain rfl := Option.some.inj hm
        exact ret2 hE rfl rfl rfl ⟨_, rfl, _, _, rfl, hp⟩
/- assessor/distance.Nearest -/
set_option maxRecDepth 100000 in
set_option maxHeartbeats 4000000 in
theorem c_distance_Nearest {Z : World} {ρ : PH} {L : List Atom} {w : World} (p0 : Node) (vp0_kids : Value) (hp0_kids : RoSl ρ vp0_kids p0.kids) (p1 : (List Node)) (vp1 : Value) (hp1 : RoSl ρ vp1 p1) (hp : Hp Z ρ (L) w) (r : (Int × Int × Int)) (hm : m_distance_Nearest p0 p1 = some r) :
    Calls Try.prog 24 #[(.agg #[(.int .i64 p0.kind), (.string p0.text), (.int .i64 p0.at_), (.int .i64 p0.fin), vp0_kids]), vp1] w (Ret fun v w' => v = .tuple #[(.int .i64 r.1), (.int .i64 r.2.1), (.int .i64 r.2.2)] ∧ Hp Z ρ (L) w') := by
  refine enter (N := 55) Try.func24 rfl rfl [(0, (.agg #[(.int .i64 p0.kind), (.string p0.text), (.int .i64 p0.at_), (.int .i64 p0.fin), vp0_kids])), (1, vp1)] rfl (argsIn_mem ⟨rfl, rfl, trivial⟩) fun a hE => ?_
  unfold m_distance_Nearest at hm
  refine k_seq ?_
  refine k_region ?_
  refine s_box (wk0 rfl) rfl rfl hE hp rfl (v := (.agg #[(.int .i64 p0.kind), (.string p0.text), (.int .i64 p0.at_), (.int .i64 p0.fin), vp0_kids])) rfl ?_
  intro a w b1 hE hp
  have hp : Hp Z ρ (Pt b1 (.cells #[(.int .i64 p0.kind), (.string p0.text), (.int .i64 p0.at_), (.int .i64 p0.fin), vp0_kids] 24 (0, 0)) :: L) w := hp
  refine s_val (wk0 rfl) rfl rfl hE hp (v := (.int .i64 0)) (ex_asn rfl hE rfl) ?_
  intro a hE
  refine s_val (wk0 rfl) rfl rfl hE hp (v := (.int .i64 0)) (ex_asn rfl hE rfl) ?_
  intro a hE
  refine s_val (wk0 rfl) rfl rfl hE hp (v := (.int .i64 0)) (ex_asn rfl hE rfl) ?_
  intro a hE
  refine s_nil ?_
  refine k_seq ?_
  refine k_plain ?_
  refine k_seq ?_
  refine k_region ?_
  refine s_val (wk0 rfl) rfl rfl hE hp (v := vp1) (ex_move rfl hE rfl) ?_
  intro a hE
  refine s_val (wk0 rfl) rfl rfl hE hp (v := (.int .i64 (p1.length : Int))) (ex_len rfl hE rfl (RoSl.len hp1 slty22)) ?_
  intro a hE
  refine s_val (wk0 rfl) rfl rfl hE hp (v := (.bool (decide (1024 < (p1.length : Int))))) (ex_gtr rfl hE rfl rfl) ?_
  intro a hE
  refine s_val (wk0 rfl) rfl rfl hE hp (v := (.bool (decide (1024 < (p1.length : Int))))) (ex_move rfl hE rfl) ?_
  intro a hE
  obtain ⟨m1, hg1, hm⟩ := bnd hm
  refine s_cut [_, _, _, _] (fun a w => Env 55 [(20, (.bool m1)), (1, vp1), (2, (.pointer (some ⟨b1, 0, none⟩)))] a ∧ Hp Z ρ (Pt b1 (.cells #[(.int .i64 p0.kind), (.string p0.text), (.int .i64 p0.at_), (.int .i64 p0.fin), vp0_kids] 24 (0, 0)) :: L) w) ?_ ?_
  · rcases Bool.eq_false_or_eq_true (decide (1024 < (p1.length : Int))) with hb1 | hb1
    ·
      replace hg1 := (it hb1).symm.trans hg1
      refine s_skip (wk2 hE rfl rfl rfl hb1) rfl rfl hE ?_
      intro a hE
      refine s_skip (wk2 hE rfl rfl rfl hb1) rfl rfl hE ?_
      intro a hE
      refine s_skip (wk2 hE rfl rfl rfl hb1) rfl rfl hE ?_
      intro a hE
      refine s_val (wk0 rfl) rfl rfl hE hp (v := (.bool true)) (ex_pick1 rfl hE rfl hb1 rfl) ?_
      intro a hE
      obtain rfl := Option.some.inj hg1
      exact s_nil ⟨hE.cut ⟨rfl, rfl, rfl, trivial⟩, hp⟩
    ·
      replace hg1 := (ie hb1).symm.trans hg1
      refine s_val (wk1 hE rfl rfl rfl hb1) rfl rfl hE hp (v := (.agg #[(.int .i64 p0.kind), (.string p0.text), (.int .i64 p0.at_), (.int .i64 p0.fin), vp0_kids])) (ex_load rfl hE rfl (fun w hw => run_ldN (cs := [(.int .i64 p0.kind), (.string p0.text), (.int .i64 p0.at_), (.int .i64 p0.fin), vp0_kids]) varty24 (Hp.cN 0 rfl 0 _ (sub_all rfl) w hw))) ?_
      intro a hE
      refine s_lit (wk1 hE rfl rfl rfl hb1) rfl rfl hE hp rfl [(0, (.agg #[(.int .i64 p0.kind), (.string p0.text), (.int .i64 p0.at_), (.int .i64 p0.fin), vp0_kids]))] ⟨⟨rfl, rfl⟩, trivial⟩ [(.int .i64 p0.kind), (.string p0.text), (.int .i64 p0.at_), (.int .i64 p0.fin), vp0_kids] 24 (fun w => by have hc0 := RoSl.cells hp0_kids; simp only [Value.cells] at hc0; simp [Instr.buildSlice, Instr.fill, Value.cells, hc0, go_sem]) ?_
      intro a w b2 hE hp
      have hp : Hp Z ρ (Pt b2 (.cells #[(.int .i64 p0.kind), (.string p0.text), (.int .i64 p0.at_), (.int .i64 p0.fin), vp0_kids] 24 (0, 0)) :: _ :: L) w := hp
      obtain ⟨k1, k1a, k1d, hp⟩ := (hp.get 0 rfl).lend
      have f1 : RoSl (ρ.un k1) (.slice (some ⟨b2, 0, none⟩) 1 1) ([p0] : List Node) := RoSl.of_all (l := (([p0] : List Node))) k1d k1a ⟨_, _, rfl, (show NodeAt (ρ.un k1) p0 [(.int .i64 p0.kind), (.string p0.text), (.int .i64 p0.at_), (.int .i64 p0.fin), vp0_kids] from NodeAt.shutv ((RoSl.mono hp0_kids (PH.le_un _ k1)))), rfl⟩
      have hp : Hp Z (ρ.un k1) (_ :: L) w := hp
      obtain ⟨x1, ex1, hg1⟩ := bnd hg1
      refine s_call (wk1 hE rfl rfl rfl hb1) rfl rfl hE rfl [(.slice (some ⟨b2, 0, none⟩) 1 1)] ⟨rfl, trivial⟩ ent29 (c_distance_large ([p0] : List Node) (.slice (some ⟨b2, 0, none⟩) 1 1) f1 hp x1 ex1) Ret.ret ?_
      intro v a w hR hE
      obtain ⟨rfl, hp⟩ := Ret.of hR
      have hp : Hp Z (ρ.un k1) (_ :: L) w := hp
      refine s_val (wk0 rfl) rfl rfl hE hp (v := (.bool x1)) (ex_pick0 rfl hE rfl hb1 rfl) ?_
      intro a hE
      obtain rfl := Option.some.inj hg1
      exact s_nil ⟨hE.cut ⟨rfl, rfl, rfl, trivial⟩, (hp.less (PH.le_un _ k1))⟩
  · rintro a w ⟨hE, hp⟩
    refine s_val (wk0 rfl) rfl rfl hE hp (v := (.bool m1)) (ex_move rfl hE rfl) ?_
    intro a hE
    obtain ⟨m2, hg2, hm⟩ := bnd hm
    refine s_cut [_, _, _] (fun a w => Env 55 [(24, (.bool m2)), (1, vp1), (2, (.pointer (some ⟨b1, 0, none⟩)))] a ∧ Hp Z ρ (Pt b1 (.cells #[(.int .i64 p0.kind), (.string p0.text), (.int .i64 p0.at_), (.int .i64 p0.fin), vp0_kids] 24 (0, 0)) :: L) w) ?_ ?_
    · rcases Bool.eq_false_or_eq_true m1 with hb2 | hb2
      ·
        replace hg2 := (it hb2).symm.trans hg2
        refine s_skip (wk2 hE rfl rfl rfl hb2) rfl rfl hE ?_
        intro a hE
        refine s_skip (wk2 hE rfl rfl rfl hb2) rfl rfl hE ?_
        intro a hE
        refine s_val (wk0 rfl) rfl rfl hE hp (v := (.bool true)) (ex_pick1 rfl hE rfl hb2 rfl) ?_
        intro a hE
        obtain rfl := Option.some.inj hg2
        exact s_nil ⟨hE.cut ⟨rfl, rfl, rfl, trivial⟩, hp⟩
      ·
        replace hg2 := (ie hb2).symm.trans hg2
        refine s_val (wk1 hE rfl rfl rfl hb2) rfl rfl hE hp (v := vp1) (ex_move rfl hE rfl) ?_
        intro a hE
        obtain ⟨x2, ex2, hg2⟩ := bnd hg2
        refine s_call (wk1 hE rfl rfl rfl hb2) rfl rfl hE rfl [vp1] ⟨rfl, trivial⟩ ent29 (c_distance_large p1 vp1 hp1 hp x2 ex2) Ret.ret ?_
        intro v a w hR hE
        obtain ⟨rfl, hp⟩ := Ret.of hR
        have hp : Hp Z ρ (_ :: L) w := hp
        refine s_val (wk0 rfl) rfl rfl hE hp (v := (.bool x2)) (ex_pick0 rfl hE rfl hb2 rfl) ?_
        intro a hE
        obtain rfl := Option.some.inj hg2
        exact s_nil ⟨hE.cut ⟨rfl, rfl, rfl, trivial⟩, hp⟩
    · rintro a w ⟨hE, hp⟩
      refine s_val (wk0 rfl) rfl rfl hE hp (v := (.bool m2)) (ex_asn rfl hE rfl) ?_
      intro a hE
      refine s_nil ?_
      refine k_if hE rfl (fun hb3 => ?_) (fun hb3 => ?_)
      · replace hm := (it hb3).symm.trans hm
        refine k_seq ?_
        refine k_region ?_
        refine s_val (wk0 rfl) rfl rfl hE hp (v := (.int .i64 0)) (ex_asn rfl hE rfl) ?_
        intro a hE
        refine s_val (wk0 rfl) rfl rfl hE hp (v := (.int .i64 0)) (ex_asn rfl hE rfl) ?_
        intro a hE
        refine s_val (wk0 rfl) rfl rfl hE hp (v := (.int .i64 8)) (ex_asn rfl hE rfl) ?_
        intro a hE
        refine s_nil ?_
        refine k_ret ?_
        obtain rfl := Option.some.inj hm
        exact ret3 hE rfl rfl rfl rfl ⟨_, rfl, rfl, (hp.drop)⟩
      · replace hm := (ie hb3).symm.trans hm
        refine k_seq ?_
        refine k_region ?_
        refine s_val (wk0 rfl) rfl rfl hE hp (v := vp1) (ex_move rfl hE rfl) ?_
        intro a hE
        refine s_val (wk0 rfl) rfl rfl hE hp (v := (.int .i64 (p1.length : Int))) (ex_len rfl hE rfl (RoSl.len hp1 slty22)) ?_
        intro a hE
        refine s_val (wk0 rfl) rfl rfl hE hp (v := (.bool (decide ((p1.length : Int) = 0)))) (ex_eql rfl hE rfl rfl) ?_
        intro a hE
        refine s_val (wk0 rfl) rfl rfl hE hp (v := (.bool (decide ((p1.length : Int) = 0)))) (ex_asn rfl hE rfl) ?_
        intro a hE
        refine s_nil ?_
        refine k_if hE rfl (fun hb4 => ?_) (fun hb4 => ?_)
        · replace hm := (it hb4).symm.trans hm
          refine k_seq ?_
          refine k_region ?_
          refine s_val (wk0 rfl) rfl rfl hE hp (v := (.int .i64 0)) (ex_asn rfl hE rfl) ?_
          intro a hE
          refine s_val (wk0 rfl) rfl rfl hE hp (v := (.int .i64 0)) (ex_asn rfl hE rfl) ?_
          intro a hE
          refine s_val (wk0 rfl) rfl rfl hE hp (v := (.int .i64 7)) (ex_asn rfl hE rfl) ?_
          intro a hE
          refine s_nil ?_
          refine k_ret ?_
          obtain rfl := Option.some.inj hm
          exact ret3 hE rfl rfl rfl rfl ⟨_, rfl, rfl, (hp.drop)⟩
        · replace hm := (ie hb4).symm.trans hm
          refine k_skip ?_
          refine k_seq ?_
          refine k_region ?_
          refine s_val (wk0 rfl) rfl rfl hE hp (v := (.int .i64 0)) (ex_asn rfl hE rfl) ?_
          intro a hE
          refine s_val (wk0 rfl) rfl rfl hE hp (v := (.int .i64 (-1))) (ex_asn rfl hE rfl) ?_
          intro a hE
          refine s_nil ?_
          refine k_seq ?_
          refine k_seq ?_
          refine k_region ?_
          refine s_val (wk0 rfl) rfl rfl hE hp (v := vp1) (ex_move rfl hE rfl) ?_
          intro a hE
          refine s_val (wk0 rfl) rfl rfl hE hp (v := (.int .i64 (p1.length : Int))) (ex_len rfl hE rfl (RoSl.len hp1 slty22)) ?_
          intro a hE
          refine s_val (wk0 rfl) rfl rfl hE hp (v := (.int .i64 0)) (ex_move rfl hE rfl) ?_
          intro a hE
          refine s_nil ?_
          obtain ⟨b3, hb5, hm⟩ := bnd hm
          refine k_block (fun a w => Env 55 [(7, (.int .i64 b3.1)), (8, (.int .i64 b3.2))] a ∧ Hp Z ρ (Pt b1 (.cells #[(.int .i64 p0.kind), (.string p0.text), (.int .i64 p0.at_), (.int .i64 p0.fin), vp0_kids] 24 (0, 0)) :: L) w) ?_ ?_
          · refine k_loop hb5 (fun s a w => Env 55 [(2, (.pointer (some ⟨b1, 0, none⟩))), (7, (.int .i64 s.1)), (8, (.int .i64 s.2.1)), (29, vp1), (30, (.int .i64 (p1.length : Int))), (31, (.int .i64 s.2.2))] a ∧ Hp Z ρ (Pt b1 (.cells #[(.int .i64 p0.kind), (.string p0.text), (.int .i64 p0.at_), (.int .i64 p0.fin), vp0_kids] 24 (0, 0)) :: L) w) ?_ ?_
            · exact ⟨hE.cut ⟨rfl, rfl, rfl, rfl, rfl, rfl, trivial⟩, hp⟩
            · rintro ⟨lp1_0, lp1_1, lp1_2⟩ st a w ⟨hE, hp⟩ hl1
              have hE : Env 55 [(2, (.pointer (some ⟨b1, 0, none⟩))), (7, (.int .i64 lp1_0)), (8, (.int .i64 lp1_1)), (29, vp1), (30, (.int .i64 (p1.length : Int))), (31, (.int .i64 lp1_2))] a := hE
              have hp : Hp Z ρ (_ :: L) w := hp
              replace hl1 : m_distance_Nearest_lp1 p0 p1 lp1_0 lp1_1 lp1_2 = some st := hl1
              unfold m_distance_Nearest_lp1 at hl1
              refine k_seq ?_
              refine k_region ?_
              refine s_val (wk0 rfl) rfl rfl hE hp (v := (.bool (decide (lp1_2 < (p1.length : Int))))) (ex_lss rfl hE rfl rfl) ?_
              intro a hE
              refine s_nil ?_
              refine k_seq ?_
              refine k_if hE rfl (fun hb6 => ?_) (fun hb6 => ?_)
              · replace hl1 := (it hb6).symm.trans hl1
                refine k_skip ?_
                refine k_seq ?_
                refine k_plain ?_
                refine k_seq ?_
                refine k_region ?_
                refine s_val (wk0 rfl) rfl rfl hE hp (v := (.int .i64 lp1_2)) (ex_move rfl hE rfl) ?_
                intro a hE
                obtain ⟨x3, ex3, hl1⟩ := bnd hl1
                obtain ⟨b4, b4o, b4c, b4r, b4k, b4f⟩ := RoSl.at hp1 slty22 ex3
                obtain ⟨vb4_kids, rfl, hb4_kids⟩ := NodeAt.opens b4k
                have b4f : AtP ρ b4 b4o [(.int .i64 x3.kind), (.string x3.text), (.int .i64 x3.at_), (.int .i64 x3.fin), vb4_kids] := b4f
                refine s_val (wk0 rfl) rfl rfl hE hp (v := (.pointer (some ⟨b4, b4o, none⟩))) (ex_index rfl hE rfl rfl b4r) ?_
                intro a hE
                refine s_val (wk0 rfl) rfl rfl hE hp (v := (.agg #[(.int .i64 x3.kind), (.string x3.text), (.int .i64 x3.at_), (.int .i64 x3.fin), vb4_kids])) (ex_load rfl hE rfl (fun w hw => run_ldN (cs := [(.int .i64 x3.kind), (.string x3.text), (.int .i64 x3.at_), (.int .i64 x3.fin), vb4_kids]) varty24 (fun j u hj => cell_of hw.le (b4f j u hj)))) ?_
                intro a hE
                refine s_new (wk0 rfl) rfl rfl hE hp rfl [(.int .i64 0), (.string ByteArray.empty), (.int .i64 0), (.int .i64 0), (.slice none 0 0)] (fun w => by simp [Instr.alloc, go_sem] <;> rfl) ?_
                intro a w b5 hE hp
                have hp : Hp Z ρ (Pt b5 (.cells #[(.int .i64 0), (.string ByteArray.empty), (.int .i64 0), (.int .i64 0), (.slice none 0 0)] 24 (0, 0)) :: _ :: L) w := hp
                refine s_val (wk0 rfl) rfl rfl hE hp (v := (.int .i64 lp1_2)) (ex_asn rfl hE rfl) ?_
                intro a hE
                refine s_store (wk0 rfl) rfl hE hp rfl rfl rfl 0 rfl varty24.size_ rfl (allOne_mem ⟨rfl, rfl, rfl, rfl, (RoSl.one hb4_kids), trivial⟩) [(.int .i64 x3.kind), (.string x3.text), (.int .i64 x3.at_), (.int .i64 x3.fin), vb4_kids] rfl ?_
                intro w hp
                have hp : Hp Z ρ (Pt b5 (.cells #[(.int .i64 x3.kind), (.string x3.text), (.int .i64 x3.at_), (.int .i64 x3.fin), vb4_kids] 24 (0, 0)) :: _ :: L) w := hp
                refine s_nil ?_
                refine k_seq ?_
                refine k_region ?_
                refine s_val (wk0 rfl) rfl rfl hE hp (v := (.agg #[(.int .i64 p0.kind), (.string p0.text), (.int .i64 p0.at_), (.int .i64 p0.fin), vp0_kids])) (ex_load rfl hE rfl (fun w hw => run_ldN (cs := [(.int .i64 p0.kind), (.string p0.text), (.int .i64 p0.at_), (.int .i64 p0.fin), vp0_kids]) varty24 (Hp.cN 1 rfl 0 _ (sub_all rfl) w hw))) ?_
                intro a hE
                refine s_val (wk0 rfl) rfl rfl hE hp (v := (.agg #[(.int .i64 x3.kind), (.string x3.text), (.int .i64 x3.at_), (.int .i64 x3.fin), vb4_kids])) (ex_load rfl hE rfl (fun w hw => run_ldN (cs := [(.int .i64 x3.kind), (.string x3.text), (.int .i64 x3.at_), (.int .i64 x3.fin), vb4_kids]) varty24 (Hp.cN 0 rfl 0 _ (sub_all rfl) w hw))) ?_
                intro a hE
                obtain ⟨x4, ex4, hl1⟩ := bnd hl1
                refine s_call (wk0 rfl) rfl rfl hE rfl [(.agg #[(.int .i64 p0.kind), (.string p0.text), (.int .i64 p0.at_), (.int .i64 p0.fin), vp0_kids]), (.agg #[(.int .i64 x3.kind), (.string x3.text), (.int .i64 x3.at_), (.int .i64 x3.fin), vb4_kids])] ⟨rfl, rfl, trivial⟩ ent30 (c_distance_subtrees p0 vp0_kids hp0_kids x3 vb4_kids hb4_kids hp x4 ex4) Ret.ret ?_
                intro vr3 a w hR hE
                obtain ⟨u, usr3, rfl, hp⟩ := Ret.of hR
                have hp : Hp Z ρ (TblA 34 3 vr3 usr3 (x4 : (List (List Int))) :: _ :: _ :: L) w := hp
                obtain ⟨x5, ex5, hl1⟩ := bnd hl1
                obtain ⟨b6u, b6, b6o, b6h, b6r, b6v, b6f⟩ := TblA.hdr hp 0 rfl slty30 ex5
                have b6f : ∀ (j : Nat) (u : Value), ([(Sl.v b6u)] : List Value)[j]? = some u → ∀ ρ' L' w, Hp Z ρ' (TblA 34 3 vr3 usr3 (x4 : (List (List Int))) :: L') w → w.cell? ⟨b6, b6o + j, none⟩ = some u := b6f
                refine s_val (wk0 rfl) rfl rfl hE hp (v := (.pointer (some ⟨b6, b6o, none⟩))) (ex_index rfl hE rfl rfl b6r) ?_
                intro a hE
                refine s_val (wk0 rfl) rfl rfl hE hp (v := (Sl.v b6u)) (ex_load rfl hE rfl (fun w hw => run_ld1 varty34 (b6f 0 _ rfl _ _ w (hw.get 0 rfl)))) ?_
                intro a hE
                obtain ⟨x6, ex6, hl1⟩ := bnd hl1
                obtain ⟨b7, b7o, b7r, b7v, b7f⟩ := TblA.at hp 0 rfl slty34 b6h ex5 ex6
                have b7f : ∀ (j : Nat) (u : Value), ([(.int .i64 x6)] : List Value)[j]? = some u → ∀ ρ' L' w, Hp Z ρ' (TblA 34 3 vr3 usr3 (x4 : (List (List Int))) :: L') w → w.cell? ⟨b7, b7o + j, none⟩ = some u := b7f
                refine s_val (wk0 rfl) rfl rfl hE hp (v := (.pointer (some ⟨b7, b7o, none⟩))) (ex_index rfl hE rfl rfl b7r) ?_
                intro a hE
                refine s_val (wk0 rfl) rfl rfl hE hp (v := (.int .i64 x6)) (ex_load rfl hE rfl (fun w hw => run_ld1 varty3 (b7f 0 _ rfl _ _ w (hw.get 0 rfl)))) ?_
                intro a hE
                refine s_val (wk0 rfl) rfl rfl hE hp (v := (.int .i64 x6)) (ex_asn rfl hE rfl) ?_
                intro a hE
                refine s_nil ?_
                have hE := hE.cut (E' := [(2, (.pointer (some ⟨b1, 0, none⟩))), (7, (.int .i64 lp1_0)), (8, (.int .i64 lp1_1)), (9, (.int .i64 lp1_2)), (11, (.int .i64 x6)), (29, vp1), (30, (.int .i64 (p1.length : Int))), (31, (.int .i64 lp1_2))]) ⟨rfl, rfl, rfl, rfl, rfl, rfl, rfl, rfl, trivial⟩
                refine k_seq ?_
                refine k_region ?_
                refine s_val (wk0 rfl) rfl rfl hE hp (v := (.int .i64 lp1_1)) (ex_move rfl hE rfl) ?_
                intro a hE
                refine s_val (wk0 rfl) rfl rfl hE hp (v := (.bool (decide (lp1_1 < 0)))) (ex_lss rfl hE rfl rfl) ?_
                intro a hE
                refine s_val (wk0 rfl) rfl rfl hE hp (v := (.bool (decide (lp1_1 < 0)))) (ex_move rfl hE rfl) ?_
                intro a hE
                refine s_cut [_, _, _, _] (fun a w => Env 55 [(49, (.bool ((decide (lp1_1 < 0)) || (decide (x6 < lp1_1))))), (2, (.pointer (some ⟨b1, 0, none⟩))), (7, (.int .i64 lp1_0)), (8, (.int .i64 lp1_1)), (9, (.int .i64 lp1_2)), (11, (.int .i64 x6)), (29, vp1), (30, (.int .i64 (p1.length : Int))), (31, (.int .i64 lp1_2))] a ∧ Hp Z ρ (TblA 34 3 vr3 usr3 (x4 : (List (List Int))) :: Pt b5 (.cells #[(.int .i64 x3.kind), (.string x3.text), (.int .i64 x3.at_), (.int .i64 x3.fin), vb4_kids] 24 (0, 0)) :: Pt b1 (.cells #[(.int .i64 p0.kind), (.string p0.text), (.int .i64 p0.at_), (.int .i64 p0.fin), vp0_kids] 24 (0, 0)) :: L) w) ?_ ?_
                · rcases Bool.eq_false_or_eq_true (decide (lp1_1 < 0)) with hb7 | hb7
                  ·
                    refine s_skip (wk2 hE rfl rfl rfl hb7) rfl rfl hE ?_
                    intro a hE
                    refine s_skip (wk2 hE rfl rfl rfl hb7) rfl rfl hE ?_
                    intro a hE
                    refine s_skip (wk2 hE rfl rfl rfl hb7) rfl rfl hE ?_
                    intro a hE
                    refine s_val (wk0 rfl) rfl rfl hE hp (v := (.bool true)) (ex_pick1 rfl hE rfl hb7 rfl) ?_
                    intro a hE
                    have hE := hE.eqv (v' := (.bool ((decide (lp1_1 < 0)) || (decide (x6 < lp1_1))))) (by rw [hb7]; rfl)
                    exact s_nil ⟨hE.cut ⟨rfl, rfl, rfl, rfl, rfl, rfl, rfl, rfl, rfl, trivial⟩, hp⟩
                  ·
                    refine s_val (wk1 hE rfl rfl rfl hb7) rfl rfl hE hp (v := (.int .i64 x6)) (ex_move rfl hE rfl) ?_
                    intro a hE
                    refine s_val (wk1 hE rfl rfl rfl hb7) rfl rfl hE hp (v := (.int .i64 lp1_1)) (ex_move rfl hE rfl) ?_
                    intro a hE
                    refine s_val (wk1 hE rfl rfl rfl hb7) rfl rfl hE hp (v := (.bool (decide (x6 < lp1_1)))) (ex_lss rfl hE rfl rfl) ?_
                    intro a hE
                    refine s_val (wk0 rfl) rfl rfl hE hp (v := (.bool (decide (x6 < lp1_1)))) (ex_pick0 rfl hE rfl hb7 rfl) ?_
                    intro a hE
                    have hE := hE.eqv (v' := (.bool ((decide (lp1_1 < 0)) || (decide (x6 < lp1_1))))) (by rw [hb7]; rfl)
                    exact s_nil ⟨hE.cut ⟨rfl, rfl, rfl, rfl, rfl, rfl, rfl, rfl, rfl, trivial⟩, hp⟩
                · rintro a w ⟨hE, hp⟩
                  refine s_nil ?_
                  refine k_if hE rfl (fun hb8 => ?_) (fun hb8 => ?_)
                  · replace hl1 := (it hb8).symm.trans hl1
                    refine k_region ?_
                    refine s_val (wk0 rfl) rfl rfl hE hp (v := (.int .i64 lp1_2)) (ex_move rfl hE rfl) ?_
                    intro a hE
                    refine s_val (wk0 rfl) rfl rfl hE hp (v := (.int .i64 x6)) (ex_move rfl hE rfl) ?_
                    intro a hE
                    refine s_val (wk0 rfl) rfl rfl hE hp (v := (.int .i64 lp1_2)) (ex_asn rfl hE rfl) ?_
                    intro a hE
                    refine s_val (wk0 rfl) rfl rfl hE hp (v := (.int .i64 x6)) (ex_asn rfl hE rfl) ?_
                    intro a hE
                    refine s_nil ?_
                    refine k_region ?_
                    obtain ⟨x7, ex7, hl1⟩ := bnd hl1
                    refine s_val (wk0 rfl) rfl rfl hE hp (v := (.int .i64 x7)) (ex_add rfl hE rfl rfl (inK_some ex7)) ?_
                    intro a hE
                    refine s_val (wk0 rfl) rfl rfl hE hp (v := (.int .i64 x7)) (ex_move rfl hE rfl) ?_
                    intro a hE
                    refine s_nil ?_
                    exact ⟨_, (Option.some.inj hl1).symm, hE.cut ⟨rfl, rfl, rfl, rfl, rfl, rfl, trivial⟩, (((hp.get 1 rfl).drop).drop)⟩
                  · replace hl1 := (ie hb8).symm.trans hl1
                    refine k_skip ?_
                    refine k_region ?_
                    obtain ⟨x8, ex8, hl1⟩ := bnd hl1
                    refine s_val (wk0 rfl) rfl rfl hE hp (v := (.int .i64 x8)) (ex_add rfl hE rfl rfl (inK_some ex8)) ?_
                    intro a hE
                    refine s_val (wk0 rfl) rfl rfl hE hp (v := (.int .i64 x8)) (ex_move rfl hE rfl) ?_
                    intro a hE
                    refine s_nil ?_
                    exact ⟨_, (Option.some.inj hl1).symm, hE.cut ⟨rfl, rfl, rfl, rfl, rfl, rfl, trivial⟩, (((hp.get 1 rfl).drop).drop)⟩
              · replace hl1 := (ie hb6).symm.trans hl1
                refine k_exit ?_
                refine ⟨_, (Option.some.inj hl1).symm, fun hbb => ?_⟩
                subst hbb
                exact ⟨hE.cut ⟨rfl, rfl, trivial⟩, hp⟩
          · rintro a w ⟨hE, hp⟩
            refine k_seq ?_
            refine k_region ?_
            refine s_val (wk0 rfl) rfl rfl hE hp (v := (.int .i64 b3.1)) (ex_move rfl hE rfl) ?_
            intro a hE
            refine s_val (wk0 rfl) rfl rfl hE hp (v := (.int .i64 b3.2)) (ex_move rfl hE rfl) ?_
            intro a hE
            refine s_val (wk0 rfl) rfl rfl hE hp (v := (.int .i64 b3.1)) (ex_asn rfl hE rfl) ?_
            intro a hE
            refine s_val (wk0 rfl) rfl rfl hE hp (v := (.int .i64 b3.2)) (ex_asn rfl hE rfl) ?_
            intro a hE
            refine s_val (wk0 rfl) rfl rfl hE hp (v := (.int .i64 0)) (ex_asn rfl hE rfl) ?_
            intro a hE
            refine s_nil ?_
            refine k_ret ?_
            obtain rfl := Option.some.inj hm
            exact ret3 hE rfl rfl rfl rfl ⟨_, rfl, rfl, (hp.drop)⟩
/- assessor/distance.Subtrees -/
set_option maxRecDepth 100000 in
set_option maxHeartbeats 4000000 in
theorem c_distance_Subtrees {Z : World} {ρ : PH} {L : List Atom} {w : World} (p0 : Node) (vp0_kids : Value) (hp0_kids : RoSl ρ vp0_kids p0.kids) (p1 : Node) (vp1_kids : Value) (hp1_kids : RoSl ρ vp1_kids p1.kids) (hp : Hp Z ρ (L) w) (r : ((List (List Int)) × Int)) (hm : m_distance_Subtrees p0 p1 = some r) :
    Calls Try.prog 13 #[(.agg #[(.int .i64 p0.kind), (.string p0.text), (.int .i64 p0.at_), (.int .i64 p0.fin), vp0_kids]), (.agg #[(.int .i64 p1.kind), (.string p1.text), (.int .i64 p1.at_), (.int .i64 p1.fin), vp1_kids])] w (Ret fun v w' => ∃ (vr1 : Value) (usr1 : List Sl), v = .tuple #[vr1, (.int .i64 r.2)] ∧ Hp Z ρ (TblA 34 3 vr1 usr1 (r.1 : (List (List Int))) :: L) w') := by
  refine enter (N := 13) Try.func13 rfl rfl [(0, (.agg #[(.int .i64 p0.kind), (.string p0.text), (.int .i64 p0.at_), (.int .i64 p0.fin), vp0_kids])), (1, (.agg #[(.int .i64 p1.kind), (.string p1.text), (.int .i64 p1.at_), (.int .i64 p1.fin), vp1_kids]))] rfl (argsIn_mem ⟨rfl, rfl, trivial⟩) fun a hE => ?_
  unfold m_distance_Subtrees at hm
  refine k_seq ?_
  refine k_region ?_
  refine s_box (wk0 rfl) rfl rfl hE hp rfl (v := (.agg #[(.int .i64 p0.kind), (.string p0.text), (.int .i64 p0.at_), (.int .i64 p0.fin), vp0_kids])) rfl ?_
  intro a w b1 hE hp
  have hp : Hp Z ρ (Pt b1 (.cells #[(.int .i64 p0.kind), (.string p0.text), (.int .i64 p0.at_), (.int .i64 p0.fin), vp0_kids] 24 (0, 0)) :: L) w := hp
  refine s_box (wk0 rfl) rfl rfl hE hp rfl (v := (.agg #[(.int .i64 p1.kind), (.string p1.text), (.int .i64 p1.at_), (.int .i64 p1.fin), vp1_kids])) rfl ?_
  intro a w b2 hE hp
  have hp : Hp Z ρ (Pt b2 (.cells #[(.int .i64 p1.kind), (.string p1.text), (.int .i64 p1.at_), (.int .i64 p1.fin), vp1_kids] 24 (0, 0)) :: _ :: L) w := hp
  refine s_val (wk0 rfl) rfl rfl hE hp (v := (.slice none 0 0)) (ex_asn rfl hE rfl) ?_
  intro a hE
  refine s_val (wk0 rfl) rfl rfl hE hp (v := (.int .i64 0)) (ex_asn rfl hE rfl) ?_
  intro a hE
  refine s_nil ?_
  refine k_seq ?_
  refine k_seq ?_
  refine k_region ?_
  refine s_val (wk0 rfl) rfl rfl hE hp (v := (.agg #[(.int .i64 p0.kind), (.string p0.text), (.int .i64 p0.at_), (.int .i64 p0.fin), vp0_kids])) (ex_load rfl hE rfl (fun w hw => run_ldN (cs := [(.int .i64 p0.kind), (.string p0.text), (.int .i64 p0.at_), (.int .i64 p0.fin), vp0_kids]) varty24 (Hp.cN 1 rfl 0 _ (sub_all rfl) w hw))) ?_
  intro a hE
  refine s_val (wk0 rfl) rfl rfl hE hp (v := (.agg #[(.int .i64 p1.kind), (.string p1.text), (.int .i64 p1.at_), (.int .i64 p1.fin), vp1_kids])) (ex_load rfl hE rfl (fun w hw => run_ldN (cs := [(.int .i64 p1.kind), (.string p1.text), (.int .i64 p1.at_), (.int .i64 p1.fin), vp1_kids]) varty24 (Hp.cN 0 rfl 0 _ (sub_all rfl) w hw))) ?_
  intro a hE
  refine s_lit (wk0 rfl) rfl rfl hE hp rfl [(0, (.agg #[(.int .i64 p0.kind), (.string p0.text), (.int .i64 p0.at_), (.int .i64 p0.fin), vp0_kids])), (1, (.agg #[(.int .i64 p1.kind), (.string p1.text), (.int .i64 p1.at_), (.int .i64 p1.fin), vp1_kids]))] ⟨⟨rfl, rfl⟩, ⟨rfl, rfl⟩, trivial⟩ [(.int .i64 p0.kind), (.string p0.text), (.int .i64 p0.at_), (.int .i64 p0.fin), vp0_kids, (.int .i64 p1.kind), (.string p1.text), (.int .i64 p1.at_), (.int .i64 p1.fin), vp1_kids] 24 (fun w => by have hc0 := RoSl.cells hp0_kids; simp only [Value.cells] at hc0; have hc1 := RoSl.cells hp1_kids; simp only [Value.cells] at hc1; simp [Instr.buildSlice, Instr.fill, Value.cells, hc0, hc1, go_sem]) ?_
  intro a w b3 hE hp
  have hp : Hp Z ρ (Pt b3 (.cells #[(.int .i64 p0.kind), (.string p0.text), (.int .i64 p0.at_), (.int .i64 p0.fin), vp0_kids, (.int .i64 p1.kind), (.string p1.text), (.int .i64 p1.at_), (.int .i64 p1.fin), vp1_kids] 24 (0, 0)) :: _ :: _ :: L) w := hp
  obtain ⟨k1, k1a, k1d, hp⟩ := (hp.get 0 rfl).lend
  have f1 : RoSl (ρ.un k1) (.slice (some ⟨b3, 0, none⟩) 2 2) ([p0, p1] : List Node) := RoSl.of_all (l := (([p0, p1] : List Node))) k1d k1a ⟨_, _, rfl, (show NodeAt (ρ.un k1) p0 [(.int .i64 p0.kind), (.string p0.text), (.int .i64 p0.at_), (.int .i64 p0.fin), vp0_kids] from NodeAt.shutv ((RoSl.mono hp0_kids (PH.le_un _ k1)))), ⟨_, _, rfl, (show NodeAt (ρ.un k1) p1 [(.int .i64 p1.kind), (.string p1.text), (.int .i64 p1.at_), (.int .i64 p1.fin), vp1_kids] from NodeAt.shutv ((RoSl.mono hp1_kids (PH.le_un _ k1)))), rfl⟩⟩
  have hp : Hp Z (ρ.un k1) (_ :: _ :: L) w := hp
  obtain ⟨x1, ex1, hm⟩ := bnd hm
  refine s_call (wk0 rfl) rfl rfl hE rfl [(.slice (some ⟨b3, 0, none⟩) 2 2)] ⟨rfl, trivial⟩ ent29 (c_distance_large ([p0, p1] : List Node) (.slice (some ⟨b3, 0, none⟩) 2 2) f1 hp x1 ex1) Ret.ret ?_
  intro v a w hR hE
  obtain ⟨rfl, hp⟩ := Ret.of hR
  have hp : Hp Z (ρ.un k1) (_ :: _ :: L) w := hp
  refine s_nil ?_
  refine k_if hE rfl (fun hb1 => ?_) (fun hb1 => ?_)
  · replace hm := (it hb1).symm.trans hm
    refine k_seq ?_
    refine k_region ?_
    refine s_val (wk0 rfl) rfl rfl hE hp (v := (.slice none 0 0)) (ex_asn rfl hE rfl) ?_
    intro a hE
    refine s_val (wk0 rfl) rfl rfl hE hp (v := (.int .i64 8)) (ex_asn rfl hE rfl) ?_
    intro a hE
    refine s_nil ?_
    refine k_ret ?_
    have hp := hp.emp (TblA.none (α := Int) 34 3 none)
    have hp : Hp Z (ρ.un k1) (TblA 34 3 (.slice none 0 0) ([]) ([] : (List (List Int))) :: _ :: _ :: L) w := hp
    obtain rfl := Option.some.inj hm
    exact ret2 hE rfl rfl rfl ⟨_, rfl, _, _, rfl, (((((hp.get 2 rfl).drop).get 1 rfl).drop).less (PH.le_un _ k1))⟩
  · replace hm := (ie hb1).symm.trans hm
    refine k_skip ?_
    refine k_seq ?_
    refine k_region ?_
    refine s_val (wk0 rfl) rfl rfl hE hp (v := (.agg #[(.int .i64 p0.kind), (.string p0.text), (.int .i64 p0.at_), (.int .i64 p0.fin), vp0_kids])) (ex_load rfl hE rfl (fun w hw => run_ldN (cs := [(.int .i64 p0.kind), (.string p0.text), (.int .i64 p0.at_), (.int .i64 p0.fin), vp0_kids]) varty24 (Hp.cN 1 rfl 0 _ (sub_all rfl) w hw))) ?_
    intro a hE
    refine s_val (wk0 rfl) rfl rfl hE hp (v := (.agg #[(.int .i64 p1.kind), (.string p1.text), (.int .i64 p1.at_), (.int .i64 p1.fin), vp1_kids])) (ex_load rfl hE rfl (fun w hw => run_ldN (cs := [(.int .i64 p1.kind), (.string p1.text), (.int .i64 p1.at_), (.int .i64 p1.fin), vp1_kids]) varty24 (Hp.cN 0 rfl 0 _ (sub_all rfl) w hw))) ?_
    intro a hE
    obtain ⟨x2, ex2, hm⟩ := bnd hm
    refine s_call (wk0 rfl) rfl rfl hE rfl [(.agg #[(.int .i64 p0.kind), (.string p0.text), (.int .i64 p0.at_), (.int .i64 p0.fin), vp0_kids]), (.agg #[(.int .i64 p1.kind), (.string p1.text), (.int .i64 p1.at_), (.int .i64 p1.fin), vp1_kids])] ⟨rfl, rfl, trivial⟩ ent30 (c_distance_subtrees p0 vp0_kids (RoSl.mono hp0_kids (PH.le_un _ k1)) p1 vp1_kids (RoSl.mono hp1_kids (PH.le_un _ k1)) hp x2 ex2) Ret.ret ?_
    intro vr2 a w hR hE
    obtain ⟨u, usr2, rfl, hp⟩ := Ret.of hR
    have hp : Hp Z (ρ.un k1) (TblA 34 3 vr2 usr2 (x2 : (List (List Int))) :: _ :: _ :: L) w := hp
    refine s_val (wk0 rfl) rfl rfl hE hp (v := vr2) (ex_asn rfl hE rfl) ?_
    intro a hE
    refine s_val (wk0 rfl) rfl rfl hE hp (v := (.int .i64 0)) (ex_asn rfl hE rfl) ?_
    intro a hE
    refine s_nil ?_
    refine k_ret ?_
    obtain rfl := Option.some.inj hm
    exact ret2 hE rfl rfl rfl ⟨_, rfl, _, _, rfl, (((((hp.get 2 rfl).drop).get 1 rfl).drop).less (PH.le_un _ k1))⟩
/- assessor/distance.Bound -/
set_option maxRecDepth 100000 in
set_option maxHeartbeats 4000000 in
theorem c_distance_Bound {Z : World} {ρ : PH} {L : List Atom} {w : World} (p0 : Node) (vp0_kids : Value) (hp0_kids : RoSl ρ vp0_kids p0.kids) (p1 : Node) (vp1_kids : Value) (hp1_kids : RoSl ρ vp1_kids p1.kids) (hp : Hp Z ρ (L) w) (r : Int) (hm : m_distance_Bound p0 p1 = some r) :
    Calls Try.prog 15 #[(.agg #[(.int .i64 p0.kind), (.string p0.text), (.int .i64 p0.at_), (.int .i64 p0.fin), vp0_kids]), (.agg #[(.int .i64 p1.kind), (.string p1.text), (.int .i64 p1.at_), (.int .i64 p1.fin), vp1_kids])] w (Ret fun v w' => v = (.int .i64 r) ∧ Hp Z ρ (L) w') := by
  refine enter (N := 59) Try.func15 rfl rfl [(0, (.agg #[(.int .i64 p0.kind), (.string p0.text), (.int .i64 p0.at_), (.int .i64 p0.fin), vp0_kids])), (1, (.agg #[(.int .i64 p1.kind), (.string p1.text), (.int .i64 p1.at_), (.int .i64 p1.fin), vp1_kids]))] rfl (argsIn_mem ⟨rfl, rfl, trivial⟩) fun a hE => ?_
  unfold m_distance_Bound at hm
  refine k_seq ?_
  refine k_region ?_
  refine s_box (wk0 rfl) rfl rfl hE hp rfl (v := (.agg #[(.int .i64 p0.kind), (.string p0.text), (.int .i64 p0.at_), (.int .i64 p0.fin), vp0_kids])) rfl ?_
  intro a w b1 hE hp
  have hp : Hp Z ρ (Pt b1 (.cells #[(.int .i64 p0.kind), (.string p0.text), (.int .i64 p0.at_), (.int .i64 p0.fin), vp0_kids] 24 (0, 0)) :: L) w := hp
  refine s_box (wk0 rfl) rfl rfl hE hp rfl (v := (.agg #[(.int .i64 p1.kind), (.string p1.text), (.int .i64 p1.at_), (.int .i64 p1.fin), vp1_kids])) rfl ?_
  intro a w b2 hE hp
  have hp : Hp Z ρ (Pt b2 (.cells #[(.int .i64 p1.kind), (.string p1.text), (.int .i64 p1.at_), (.int .i64 p1.fin), vp1_kids] 24 (0, 0)) :: _ :: L) w := hp
  refine s_val (wk0 rfl) rfl rfl hE hp (v := (.int .i64 0)) (ex_asn rfl hE rfl) ?_
  intro a hE
  refine s_nil ?_
  refine k_seq ?_
  obtain ⟨x1, ex1, hm⟩ := bnd hm
  obtain ⟨x2, ex2, hm⟩ := bnd hm
  have hp := hp.drew
  refine k_heldV ([([], At0 Z ρ), ([], At1 Z ρ (Pt b2 (.cells #[(.int .i64 p1.kind), (.string p1.text), (.int .i64 p1.at_), (.int .i64 p1.fin), vp1_kids] 24 (0, 0)))), ([], At1 Z ρ (Pt b1 (.cells #[(.int .i64 p0.kind), (.string p0.text), (.int .i64 p0.at_), (.int .i64 p0.fin), vp0_kids] 24 (0, 0))))] : Facts) (fun a w => ∃ y6 : Value, ∃ y7 : Value, ∃ y8 : Value, ∃ y3 : Value, ∃ y4 : Value, ∃ y5 : Value, Env 59 [(5, y3), (6, y6)] a ∧ Hp Z ρ (OwnSl 70 y6 x2.labels :: OwnSl 3 y7 x2.left :: OwnSl 3 y8 x2.numbers :: OwnSl 70 y3 x1.labels :: OwnSl 3 y4 x1.left :: OwnSl 3 y5 x1.numbers :: Pt b2 (.cells #[(.int .i64 p1.kind), (.string p1.text), (.int .i64 p1.at_), (.int .i64 p1.fin), vp1_kids] 24 (0, 0)) :: Pt b1 (.cells #[(.int .i64 p0.kind), (.string p0.text), (.int .i64 p0.at_), (.int .i64 p0.fin), vp0_kids] 24 (0, 0)) :: L) w) (by kernel_rfl) ⟨fun _ => ⟨_, hp⟩, fun _ => ⟨_, (hp.get 0 rfl)⟩, fun _ => ⟨_, (hp.get 1 rfl)⟩, trivial⟩ (fun hS => ?_) ?_
  ·
    generalize w.drew = w at hS hp ⊢
    refine v_take1 0 2 (wk0 rfl) rfl rfl rfl hE (by kernel_rfl) (by kernel_rfl) (by kernel_rfl) rfl (by kernel_rfl) hS (v := (.agg #[(.int .i64 p0.kind), (.string p0.text), (.int .i64 p0.at_), (.int .i64 p0.fin), vp0_kids])) (fun _ => ex_load rfl hE rfl (fun w hw => run_ldN (cs := [(.int .i64 p0.kind), (.string p0.text), (.int .i64 p0.at_), (.int .i64 p0.fin), vp0_kids]) varty24 (Hp.cN 0 rfl 0 _ (sub_all rfl) w hw))) ?_
    intro a hE hS
    refine v_take1 3 1 (wk0 rfl) rfl rfl rfl hE (by kernel_rfl) (by kernel_rfl) (by kernel_rfl) rfl (by kernel_rfl) hS (v := (.agg #[(.int .i64 p1.kind), (.string p1.text), (.int .i64 p1.at_), (.int .i64 p1.fin), vp1_kids])) (fun _ => ex_load rfl hE rfl (fun w hw => run_ldN (cs := [(.int .i64 p1.kind), (.string p1.text), (.int .i64 p1.at_), (.int .i64 p1.fin), vp1_kids]) varty24 (Hp.cN 0 rfl 0 _ (sub_all rfl) w hw))) ?_
    intro a hE hS
    refine v_all [1] (by kernel_rfl) rfl ?_
    refine List.forall_mem_cons.2 ⟨?_, fun _ h => absurd h (by simp)⟩
    ·
      refine h_op rfl ?_
      refine s_call (wk0 rfl) rfl rfl hE rfl [(.agg #[(.int .i64 p0.kind), (.string p0.text), (.int .i64 p0.at_), (.int .i64 p0.fin), vp0_kids])] ⟨rfl, trivial⟩ ent34 (c_distance_flatten p0 vp0_kids hp0_kids hp x1 ex1) Ret.ret ?_
      intro v a w hR hE
      obtain ⟨vr3_labels, vr3_left, vr3_numbers, rfl, hp⟩ := Ret.of hR
      have hp : Hp Z ρ (OwnSl 70 vr3_labels x1.labels :: OwnSl 3 vr3_left x1.left :: OwnSl 3 vr3_numbers x1.numbers :: _ :: _ :: L) w := hp
      refine s_nil (and_with ⟨fun _ => ⟨_, hp⟩, fun _ => ⟨_, (hp.get 3 rfl)⟩, fun _ => ⟨_, (hp.get 4 rfl)⟩, trivial⟩ fun hS => ?_)
      refine v_take0 2 (wk0 rfl) rfl rfl rfl hE (by kernel_rfl) (by kernel_rfl) (by kernel_rfl) rfl (by kernel_rfl) hS (v := vr3_labels) (fun _ => ex_fieldV rfl hE rfl (fun w => by simp [Instr.field, asAgg, go_sem])) ?_
      intro a hE hS
      refine v_all [4] (by kernel_rfl) rfl ?_
      refine List.forall_mem_cons.2 ⟨?_, fun _ h => absurd h (by simp)⟩
      ·
        refine h_op rfl ?_
        refine s_call (wk0 rfl) rfl rfl hE rfl [(.agg #[(.int .i64 p1.kind), (.string p1.text), (.int .i64 p1.at_), (.int .i64 p1.fin), vp1_kids])] ⟨rfl, trivial⟩ ent34 (c_distance_flatten p1 vp1_kids hp1_kids hp x2 ex2) Ret.ret ?_
        intro v a w hR hE
        obtain ⟨vr4_labels, vr4_left, vr4_numbers, rfl, hp⟩ := Ret.of hR
        have hp : Hp Z ρ (OwnSl 70 vr4_labels x2.labels :: OwnSl 3 vr4_left x2.left :: OwnSl 3 vr4_numbers x2.numbers :: _ :: _ :: _ :: _ :: _ :: L) w := hp
        refine s_nil (and_with ⟨fun _ => ⟨_, hp⟩, fun _ => ⟨_, (hp.get 6 rfl)⟩, fun _ => ⟨_, (hp.get 7 rfl)⟩, trivial⟩ fun hS => ?_)
        refine v_take0 5 (wk0 rfl) rfl rfl rfl hE (by kernel_rfl) (by kernel_rfl) (by kernel_rfl) rfl (by kernel_rfl) hS (v := vr4_labels) (fun _ => ex_fieldV rfl hE rfl (fun w => by simp [Instr.field, asAgg, go_sem])) ?_
        intro a hE hS
        refine v_take0 6 (wk0 rfl) rfl rfl rfl hE (by kernel_rfl) (by kernel_rfl) (by kernel_rfl) rfl (by kernel_rfl) hS (v := vr3_labels) (fun _ => ex_asn rfl hE rfl) ?_
        intro a hE hS
        refine v_take0 7 (wk0 rfl) rfl rfl rfl hE (by kernel_rfl) (by kernel_rfl) (by kernel_rfl) rfl (by kernel_rfl) hS (v := vr4_labels) (fun _ => ex_asn rfl hE rfl) ?_
        intro a hE hS
        exact v_done (by kernel_rfl) ⟨_, _, _, _, _, _, hE.cut ⟨rfl, rfl, trivial⟩, hp⟩
  · rintro a w ⟨y6, y7, y8, y3, y4, y5, hE, hp⟩
    refine k_seq ?_
    refine k_region ?_
    refine s_mkmap (κ := Lbl) (β := Int) (wk0 rfl) rfl rfl hE hp rfl ?_
    intro a w b3 hE hp
    have hp : Hp Z ρ (MapA b3 ([] : List (Lbl × Int)) :: OwnSl 70 y6 x2.labels :: OwnSl 3 y7 x2.left :: OwnSl 3 y8 x2.numbers :: OwnSl 70 y3 x1.labels :: OwnSl 3 y4 x1.left :: OwnSl 3 y5 x1.numbers :: _ :: _ :: L) w := hp
    refine s_val (wk0 rfl) rfl rfl hE hp (v := (.map (some b3))) (ex_asn rfl hE rfl) ?_
    intro a hE
    refine s_nil ?_
    refine k_seq ?_
    refine k_seq ?_
    refine k_region ?_
    refine s_val (wk0 rfl) rfl rfl hE hp (v := y3) (ex_move rfl hE rfl) ?_
    intro a hE
    refine s_val (wk0 rfl) rfl rfl hE hp (v := (.int .i64 (x1.labels.length : Int))) (ex_len rfl hE rfl (OwnSl.len hp 4 rfl slty64)) ?_
    intro a hE
    refine s_val (wk0 rfl) rfl rfl hE hp (v := (.int .i64 0)) (ex_move rfl hE rfl) ?_
    intro a hE
    refine s_nil ?_
    obtain ⟨b4, hb1, hm⟩ := bnd hm
    refine k_block (fun a w => Env 59 [(5, y3), (6, y6), (7, (.map (some b3)))] a ∧ Hp Z ρ (MapA b3 (b4 : List (Lbl × Int)) :: OwnSl 70 y6 x2.labels :: OwnSl 3 y7 x2.left :: OwnSl 3 y8 x2.numbers :: OwnSl 70 y3 x1.labels :: OwnSl 3 y4 x1.left :: OwnSl 3 y5 x1.numbers :: Pt b2 (.cells #[(.int .i64 p1.kind), (.string p1.text), (.int .i64 p1.at_), (.int .i64 p1.fin), vp1_kids] 24 (0, 0)) :: Pt b1 (.cells #[(.int .i64 p0.kind), (.string p0.text), (.int .i64 p0.at_), (.int .i64 p0.fin), vp0_kids] 24 (0, 0)) :: L) w) ?_ ?_
    · refine k_loop hb1 (fun s a w => Env 59 [(5, y3), (6, y6), (7, (.map (some b3))), (20, y3), (21, (.int .i64 (x1.labels.length : Int))), (22, (.int .i64 s.1))] a ∧ Hp Z ρ (MapA b3 (s.2 : List (Lbl × Int)) :: OwnSl 70 y6 x2.labels :: OwnSl 3 y7 x2.left :: OwnSl 3 y8 x2.numbers :: OwnSl 70 y3 x1.labels :: OwnSl 3 y4 x1.left :: OwnSl 3 y5 x1.numbers :: Pt b2 (.cells #[(.int .i64 p1.kind), (.string p1.text), (.int .i64 p1.at_), (.int .i64 p1.fin), vp1_kids] 24 (0, 0)) :: Pt b1 (.cells #[(.int .i64 p0.kind), (.string p0.text), (.int .i64 p0.at_), (.int .i64 p0.fin), vp0_kids] 24 (0, 0)) :: L) w) ?_ ?_
      · exact ⟨hE.cut ⟨rfl, rfl, rfl, rfl, rfl, rfl, trivial⟩, hp⟩
      · rintro ⟨lp1_0, lp1_1⟩ st a w ⟨hE, hp⟩ hl1
        have hE : Env 59 [(5, y3), (6, y6), (7, (.map (some b3))), (20, y3), (21, (.int .i64 (x1.labels.length : Int))), (22, (.int .i64 lp1_0))] a := hE
        have hp : Hp Z ρ (MapA b3 (lp1_1 : List (Lbl × Int)) :: _ :: _ :: _ :: _ :: _ :: _ :: _ :: _ :: L) w := hp
        replace hl1 : m_distance_Bound_lp1 x1 lp1_0 lp1_1 = some st := hl1
        unfold m_distance_Bound_lp1 at hl1
        refine k_seq ?_
        refine k_region ?_
        refine s_val (wk0 rfl) rfl rfl hE hp (v := (.bool (decide (lp1_0 < (x1.labels.length : Int))))) (ex_lss rfl hE rfl rfl) ?_
        intro a hE
        refine s_nil ?_
        refine k_seq ?_
        refine k_if hE rfl (fun hb2 => ?_) (fun hb2 => ?_)
        · replace hl1 := (it hb2).symm.trans hl1
          refine k_skip ?_
          refine k_seq ?_
          refine k_plain ?_
          refine k_seq ?_
          refine k_region ?_
          obtain ⟨x3, ex3, hl1⟩ := bnd hl1
          obtain ⟨b5, b5o, b5r, b5v, b5f⟩ := OwnSl.at hp 4 rfl slty64 ex3
          have b5f : ∀ (j : Nat) (u : Value), ([(.int .i64 x3.kind), (.string x3.text)] : List Value)[j]? = some u → ∀ ρ' L' w, Hp Z ρ' (OwnSl 70 y3 x1.labels :: L') w → w.cell? ⟨b5, b5o + j, none⟩ = some u := b5f
          refine s_val (wk0 rfl) rfl rfl hE hp (v := (.pointer (some ⟨b5, b5o, none⟩))) (ex_index rfl hE rfl rfl b5r) ?_
          intro a hE
          refine s_val (wk0 rfl) rfl rfl hE hp (v := (.agg #[(.int .i64 x3.kind), (.string x3.text)])) (ex_load rfl hE rfl (fun w hw => run_ldN (cs := [(.int .i64 x3.kind), (.string x3.text)]) varty70 (fun j u hj => b5f j u hj _ _ w (hw.get 4 rfl)))) ?_
          intro a hE
          refine s_new (wk0 rfl) rfl rfl hE hp rfl [(.int .i64 0), (.string ByteArray.empty)] (fun w => by simp [Instr.alloc, go_sem] <;> rfl) ?_
          intro a w b6 hE hp
          have hp : Hp Z ρ (Pt b6 (.cells #[(.int .i64 0), (.string ByteArray.empty)] 70 (0, 0)) :: _ :: _ :: _ :: _ :: _ :: _ :: _ :: _ :: _ :: L) w := hp
          refine s_store (wk0 rfl) rfl hE hp rfl rfl rfl 0 rfl varty70.size_ rfl (allOne_mem ⟨rfl, rfl, trivial⟩) [(.int .i64 x3.kind), (.string x3.text)] rfl ?_
          intro w hp
          have hp : Hp Z ρ (Pt b6 (.cells #[(.int .i64 x3.kind), (.string x3.text)] 70 (0, 0)) :: _ :: _ :: _ :: _ :: _ :: _ :: _ :: _ :: _ :: L) w := hp
          refine s_nil ?_
          obtain ⟨x4, ex4, hl1⟩ := bnd hl1
          have hp := hp.drew
          refine k_heldV ([([], At0 Z ρ), ([], At1 Z ρ (Pt b6 (.cells #[(.int .i64 x3.kind), (.string x3.text)] 70 (0, 0)))), ([4, 6], At1 Z ρ (MapA b3 (lp1_1 : List (Lbl × Int))))] : Facts) (fun a w => Env 59 [(5, y3), (6, y6), (7, (.map (some b3))), (20, y3), (21, (.int .i64 (x1.labels.length : Int))), (22, (.int .i64 lp1_0))] a ∧ Hp Z ρ (Pt b6 (.cells #[(.int .i64 x3.kind), (.string x3.text)] 70 (0, 0)) :: MapA b3 (mput (mput lp1_1 x3 ((mget (lp1_1 : List (Lbl × Int)) x3).getD 0)) x3 x4 : List (Lbl × Int)) :: OwnSl 70 y6 x2.labels :: OwnSl 3 y7 x2.left :: OwnSl 3 y8 x2.numbers :: OwnSl 70 y3 x1.labels :: OwnSl 3 y4 x1.left :: OwnSl 3 y5 x1.numbers :: Pt b2 (.cells #[(.int .i64 p1.kind), (.string p1.text), (.int .i64 p1.at_), (.int .i64 p1.fin), vp1_kids] 24 (0, 0)) :: Pt b1 (.cells #[(.int .i64 p0.kind), (.string p0.text), (.int .i64 p0.at_), (.int .i64 p0.fin), vp0_kids] 24 (0, 0)) :: L) w) (by kernel_rfl) ⟨fun _ => ⟨_, hp⟩, fun _ => ⟨_, (hp.get 0 rfl)⟩, fun _ => ⟨_, (hp.get 1 rfl)⟩, trivial⟩ (fun hS => ?_) ?_
          ·
            generalize w.drew = w at hS hp ⊢
            refine v_take0 0 (wk0 rfl) rfl rfl rfl hE (by kernel_rfl) (by kernel_rfl) (by kernel_rfl) rfl (by kernel_rfl) hS (v := (.map (some b3))) (fun _ => ex_move rfl hE rfl) ?_
            intro a hE hS
            refine v_take1 1 1 (wk0 rfl) rfl rfl rfl hE (by kernel_rfl) (by kernel_rfl) (by kernel_rfl) rfl (by kernel_rfl) hS (v := (.agg #[(.int .i64 x3.kind), (.string x3.text)])) (fun _ => ex_load rfl hE rfl (fun w hw => run_ldN (cs := [(.int .i64 x3.kind), (.string x3.text)]) varty70 (Hp.cN 0 rfl 0 _ (sub_all rfl) w hw))) ?_
            intro a hE hS
            refine v_all [2, 4] (by kernel_rfl) rfl ?_
            refine List.forall_mem_cons.2 ⟨?_, List.forall_mem_cons.2 ⟨?_, fun _ h => absurd h (by simp)⟩⟩
            ·
              refine h_op rfl ?_
              refine s_val (wk0 rfl) rfl rfl hE hp (v := (.int .i64 ((mget (lp1_1 : List (Lbl × Int)) x3).getD 0))) (ex_mget0 (zd := (0 : Int)) kt70 mapty68 zero3 rfl hE 1 (k := x3) rfl rfl rfl) ?_
              intro a hE
              refine s_nil (and_with ⟨fun _ => ⟨_, hp⟩, fun _ => ⟨_, (hp.get 0 rfl)⟩, fun _ => ⟨_, (hp.get 1 rfl)⟩, trivial⟩ fun hS => ?_)
              refine v_take0 3 (wk0 rfl) rfl rfl rfl hE (by kernel_rfl) (by kernel_rfl) (by kernel_rfl) rfl (by kernel_rfl) hS (v := (.int .i64 x4)) (fun _ => ex_add rfl hE rfl rfl (inK_some ex4)) ?_
              intro a hE hS
              refine v_all [4] (by kernel_rfl) rfl ?_
              refine List.forall_mem_cons.2 ⟨?_, fun _ h => absurd h (by simp)⟩
              ·
                refine h_op rfl ?_
                refine s_mentry (zd := (0 : Int)) kt70 mapty68 zero3 (wk0 rfl) rfl rfl hE hp rfl 1 (k := x3) rfl rfl rfl ?_
                intro a w st2 hE hp
                have hp : Hp Z ρ (_ :: MapS b3 (mput lp1_1 x3 ((mget (lp1_1 : List (Lbl × Int)) x3).getD 0) : List (Lbl × Int)) x3 st2 :: _ :: _ :: _ :: _ :: _ :: _ :: _ :: _ :: L) w := hp
                refine s_nil (and_with ⟨fun _ => ⟨_, hp⟩, fun _ => ⟨_, (hp.get 0 rfl)⟩, dead (by kernel_rfl), trivial⟩ fun hS => ?_)
                refine v_take0 5 (wk0 rfl) rfl rfl rfl hE (by kernel_rfl) (by kernel_rfl) (by kernel_rfl) rfl (by kernel_rfl) hS (v := (.int .i64 st2)) (fun _ => ex_extract rfl hE rfl rfl) ?_
                intro a hE hS
                refine v_all [6] (by kernel_rfl) rfl ?_
                refine List.forall_mem_cons.2 ⟨?_, fun _ h => absurd h (by simp)⟩
                ·
                  refine h_op rfl ?_
                  refine s_mestore (wk0 rfl) rfl hE hp rfl 1 (v := x4) rfl rfl rfl rfl ?_
                  intro w hp
                  have hp : Hp Z ρ (_ :: MapA b3 (mput (mput lp1_1 x3 ((mget (lp1_1 : List (Lbl × Int)) x3).getD 0)) x3 x4 : List (Lbl × Int)) :: _ :: _ :: _ :: _ :: _ :: _ :: _ :: _ :: L) w := hp
                  refine s_nil (and_with ⟨fun _ => ⟨_, hp⟩, fun _ => ⟨_, (hp.get 0 rfl)⟩, dead (by kernel_rfl), trivial⟩ fun hS => ?_)
                  exact v_done (by kernel_rfl) ⟨hE.cut ⟨rfl, rfl, rfl, rfl, rfl, rfl, trivial⟩, hp⟩
            ·
              refine h_op rfl ?_
              refine s_mentry (zd := (0 : Int)) kt70 mapty68 zero3 (wk0 rfl) rfl rfl hE hp rfl 1 (k := x3) rfl rfl rfl ?_
              intro a w st3 hE hp
              have hp : Hp Z ρ (_ :: MapS b3 (mput lp1_1 x3 ((mget (lp1_1 : List (Lbl × Int)) x3).getD 0) : List (Lbl × Int)) x3 st3 :: _ :: _ :: _ :: _ :: _ :: _ :: _ :: _ :: L) w := hp
              refine s_nil (and_with ⟨fun _ => ⟨_, hp⟩, fun _ => ⟨_, (hp.get 0 rfl)⟩, dead (by kernel_rfl), trivial⟩ fun hS => ?_)
              refine v_take0 5 (wk0 rfl) rfl rfl rfl hE (by kernel_rfl) (by kernel_rfl) (by kernel_rfl) rfl (by kernel_rfl) hS (v := (.int .i64 st3)) (fun _ => ex_extract rfl hE rfl rfl) ?_
              intro a hE hS
              refine v_all [2] (by kernel_rfl) rfl ?_
              refine List.forall_mem_cons.2 ⟨?_, fun _ h => absurd h (by simp)⟩
              ·
                refine h_op rfl ?_
                have hpm := MapS.toA (hp.get 1 rfl)
                refine s_val (wk0 rfl) rfl rfl hE hpm (v := (.int .i64 ((mget (mput lp1_1 x3 ((mget (lp1_1 : List (Lbl × Int)) x3).getD 0) : List (Lbl × Int)) x3).getD 0))) (ex_mget0 (zd := (0 : Int)) kt70 mapty68 zero3 rfl hE 0 (k := x3) rfl rfl rfl) ?_
                intro a hE
                have hE := hE.eqv (v' := (.int .i64 ((mget (lp1_1 : List (Lbl × Int)) x3).getD 0))) (by rw [mget_entry])
                refine s_nil (and_with ⟨fun _ => ⟨_, hp⟩, fun _ => ⟨_, (hp.get 0 rfl)⟩, dead (by kernel_rfl), trivial⟩ fun hS => ?_)
                refine v_take0 3 (wk0 rfl) rfl rfl rfl hE (by kernel_rfl) (by kernel_rfl) (by kernel_rfl) rfl (by kernel_rfl) hS (v := (.int .i64 x4)) (fun _ => ex_add rfl hE rfl rfl (inK_some ex4)) ?_
                intro a hE hS
                refine v_all [6] (by kernel_rfl) rfl ?_
                refine List.forall_mem_cons.2 ⟨?_, fun _ h => absurd h (by simp)⟩
                ·
                  refine h_op rfl ?_
                  refine s_mestore (wk0 rfl) rfl hE hp rfl 1 (v := x4) rfl rfl rfl rfl ?_
                  intro w hp
                  have hp : Hp Z ρ (_ :: MapA b3 (mput (mput lp1_1 x3 ((mget (lp1_1 : List (Lbl × Int)) x3).getD 0)) x3 x4 : List (Lbl × Int)) :: _ :: _ :: _ :: _ :: _ :: _ :: _ :: _ :: L) w := hp
                  refine s_nil (and_with ⟨fun _ => ⟨_, hp⟩, fun _ => ⟨_, (hp.get 0 rfl)⟩, dead (by kernel_rfl), trivial⟩ fun hS => ?_)
                  exact v_done (by kernel_rfl) ⟨hE.cut ⟨rfl, rfl, rfl, rfl, rfl, rfl, trivial⟩, hp⟩
          · rintro a w ⟨hE, hp⟩
            refine k_region ?_
            obtain ⟨x5, ex5, hl1⟩ := bnd hl1
            refine s_val (wk0 rfl) rfl rfl hE hp (v := (.int .i64 x5)) (ex_add rfl hE rfl rfl (inK_some ex5)) ?_
            intro a hE
            refine s_val (wk0 rfl) rfl rfl hE hp (v := (.int .i64 x5)) (ex_move rfl hE rfl) ?_
            intro a hE
            refine s_nil ?_
            exact ⟨_, (Option.some.inj hl1).symm, hE.cut ⟨rfl, rfl, rfl, rfl, rfl, rfl, trivial⟩, (hp.drop)⟩
        · replace hl1 := (ie hb2).symm.trans hl1
          refine k_exit ?_
          refine ⟨_, (Option.some.inj hl1).symm, fun hbb => ?_⟩
          subst hbb
          exact ⟨hE.cut ⟨rfl, rfl, rfl, trivial⟩, hp⟩
    · rintro a w ⟨hE, hp⟩
      refine k_seq ?_
      refine k_region ?_
      refine s_val (wk0 rfl) rfl rfl hE hp (v := (.int .i64 0)) (ex_asn rfl hE rfl) ?_
      intro a hE
      refine s_nil ?_
      refine k_seq ?_
      refine k_seq ?_
      refine k_region ?_
      refine s_val (wk0 rfl) rfl rfl hE hp (v := y6) (ex_move rfl hE rfl) ?_
      intro a hE
      refine s_val (wk0 rfl) rfl rfl hE hp (v := (.int .i64 (x2.labels.length : Int))) (ex_len rfl hE rfl (OwnSl.len hp 1 rfl slty64)) ?_
      intro a hE
      refine s_val (wk0 rfl) rfl rfl hE hp (v := (.int .i64 0)) (ex_move rfl hE rfl) ?_
      intro a hE
      refine s_nil ?_
      obtain ⟨b7, hb3, hm⟩ := bnd hm
      refine k_block (fun a w => Env 59 [(5, y3), (6, y6), (10, (.int .i64 b7.1))] a ∧ Hp Z ρ (MapA b3 (b7.2 : List (Lbl × Int)) :: OwnSl 70 y6 x2.labels :: OwnSl 3 y7 x2.left :: OwnSl 3 y8 x2.numbers :: OwnSl 70 y3 x1.labels :: OwnSl 3 y4 x1.left :: OwnSl 3 y5 x1.numbers :: Pt b2 (.cells #[(.int .i64 p1.kind), (.string p1.text), (.int .i64 p1.at_), (.int .i64 p1.fin), vp1_kids] 24 (0, 0)) :: Pt b1 (.cells #[(.int .i64 p0.kind), (.string p0.text), (.int .i64 p0.at_), (.int .i64 p0.fin), vp0_kids] 24 (0, 0)) :: L) w) ?_ ?_
      · refine k_loop hb3 (fun s a w => Env 59 [(5, y3), (6, y6), (7, (.map (some b3))), (10, (.int .i64 s.1)), (33, y6), (34, (.int .i64 (x2.labels.length : Int))), (35, (.int .i64 s.2.1))] a ∧ Hp Z ρ (MapA b3 (s.2.2 : List (Lbl × Int)) :: OwnSl 70 y6 x2.labels :: OwnSl 3 y7 x2.left :: OwnSl 3 y8 x2.numbers :: OwnSl 70 y3 x1.labels :: OwnSl 3 y4 x1.left :: OwnSl 3 y5 x1.numbers :: Pt b2 (.cells #[(.int .i64 p1.kind), (.string p1.text), (.int .i64 p1.at_), (.int .i64 p1.fin), vp1_kids] 24 (0, 0)) :: Pt b1 (.cells #[(.int .i64 p0.kind), (.string p0.text), (.int .i64 p0.at_), (.int .i64 p0.fin), vp0_kids] 24 (0, 0)) :: L) w) ?_ ?_
        · exact ⟨hE.cut ⟨rfl, rfl, rfl, rfl, rfl, rfl, rfl, trivial⟩, hp⟩
        · rintro ⟨lp2_0, lp2_1, lp2_2⟩ st a w ⟨hE, hp⟩ hl2
          have hE : Env 59 [(5, y3), (6, y6), (7, (.map (some b3))), (10, (.int .i64 lp2_0)), (33, y6), (34, (.int .i64 (x2.labels.length : Int))), (35, (.int .i64 lp2_1))] a := hE
          have hp : Hp Z ρ (MapA b3 (lp2_2 : List (Lbl × Int)) :: _ :: _ :: _ :: _ :: _ :: _ :: _ :: _ :: L) w := hp
          replace hl2 : m_distance_Bound_lp2 x2 lp2_0 lp2_1 lp2_2 = some st := hl2
          unfold m_distance_Bound_lp2 at hl2
          refine k_seq ?_
          refine k_region ?_
          refine s_val (wk0 rfl) rfl rfl hE hp (v := (.bool (decide (lp2_1 < (x2.labels.length : Int))))) (ex_lss rfl hE rfl rfl) ?_
          intro a hE
          refine s_nil ?_
          refine k_seq ?_
          refine k_if hE rfl (fun hb4 => ?_) (fun hb4 => ?_)
          · replace hl2 := (it hb4).symm.trans hl2
            refine k_skip ?_
            refine k_seq ?_
            refine k_plain ?_
            refine k_seq ?_
            refine k_region ?_
            obtain ⟨x6, ex6, hl2⟩ := bnd hl2
            obtain ⟨b8, b8o, b8r, b8v, b8f⟩ := OwnSl.at hp 1 rfl slty64 ex6
            have b8f : ∀ (j : Nat) (u : Value), ([(.int .i64 x6.kind), (.string x6.text)] : List Value)[j]? = some u → ∀ ρ' L' w, Hp Z ρ' (OwnSl 70 y6 x2.labels :: L') w → w.cell? ⟨b8, b8o + j, none⟩ = some u := b8f
            refine s_val (wk0 rfl) rfl rfl hE hp (v := (.pointer (some ⟨b8, b8o, none⟩))) (ex_index rfl hE rfl rfl b8r) ?_
            intro a hE
            refine s_val (wk0 rfl) rfl rfl hE hp (v := (.agg #[(.int .i64 x6.kind), (.string x6.text)])) (ex_load rfl hE rfl (fun w hw => run_ldN (cs := [(.int .i64 x6.kind), (.string x6.text)]) varty70 (fun j u hj => b8f j u hj _ _ w (hw.get 1 rfl)))) ?_
            intro a hE
            refine s_new (wk0 rfl) rfl rfl hE hp rfl [(.int .i64 0), (.string ByteArray.empty)] (fun w => by simp [Instr.alloc, go_sem] <;> rfl) ?_
            intro a w b9 hE hp
            have hp : Hp Z ρ (Pt b9 (.cells #[(.int .i64 0), (.string ByteArray.empty)] 70 (0, 0)) :: _ :: _ :: _ :: _ :: _ :: _ :: _ :: _ :: _ :: L) w := hp
            refine s_store (wk0 rfl) rfl hE hp rfl rfl rfl 0 rfl varty70.size_ rfl (allOne_mem ⟨rfl, rfl, trivial⟩) [(.int .i64 x6.kind), (.string x6.text)] rfl ?_
            intro w hp
            have hp : Hp Z ρ (Pt b9 (.cells #[(.int .i64 x6.kind), (.string x6.text)] 70 (0, 0)) :: _ :: _ :: _ :: _ :: _ :: _ :: _ :: _ :: _ :: L) w := hp
            refine s_nil ?_
            refine k_seq ?_
            refine k_region ?_
            refine s_val (wk0 rfl) rfl rfl hE hp (v := (.map (some b3))) (ex_move rfl hE rfl) ?_
            intro a hE
            refine s_val (wk0 rfl) rfl rfl hE hp (v := (.agg #[(.int .i64 x6.kind), (.string x6.text)])) (ex_load rfl hE rfl (fun w hw => run_ldN (cs := [(.int .i64 x6.kind), (.string x6.text)]) varty70 (Hp.cN 0 rfl 0 _ (sub_all rfl) w hw))) ?_
            intro a hE
            refine s_val (wk0 rfl) rfl rfl hE hp (v := (.int .i64 ((mget (lp2_2 : List (Lbl × Int)) x6).getD 0))) (ex_mget0 (zd := (0 : Int)) kt70 mapty68 zero3 rfl hE 1 (k := x6) rfl rfl rfl) ?_
            intro a hE
            refine s_val (wk0 rfl) rfl rfl hE hp (v := (.bool (decide (0 < ((mget (lp2_2 : List (Lbl × Int)) x6).getD 0))))) (ex_gtr rfl hE rfl rfl) ?_
            intro a hE
            refine s_nil ?_
            refine k_if hE rfl (fun hb5 => ?_) (fun hb5 => ?_)
            · replace hl2 := (it hb5).symm.trans hl2
              refine k_seq ?_
              obtain ⟨x7, ex7, hl2⟩ := bnd hl2
              have hp := hp.drew
              refine k_heldV ([([], At0 Z ρ), ([], At1 Z ρ (Pt b9 (.cells #[(.int .i64 x6.kind), (.string x6.text)] 70 (0, 0)))), ([4, 6], At1 Z ρ (MapA b3 (lp2_2 : List (Lbl × Int))))] : Facts) (fun a w => Env 59 [(5, y3), (6, y6), (7, (.map (some b3))), (10, (.int .i64 lp2_0)), (33, y6), (34, (.int .i64 (x2.labels.length : Int))), (35, (.int .i64 lp2_1))] a ∧ Hp Z ρ (Pt b9 (.cells #[(.int .i64 x6.kind), (.string x6.text)] 70 (0, 0)) :: MapA b3 (mput (mput lp2_2 x6 ((mget (lp2_2 : List (Lbl × Int)) x6).getD 0)) x6 x7 : List (Lbl × Int)) :: OwnSl 70 y6 x2.labels :: OwnSl 3 y7 x2.left :: OwnSl 3 y8 x2.numbers :: OwnSl 70 y3 x1.labels :: OwnSl 3 y4 x1.left :: OwnSl 3 y5 x1.numbers :: Pt b2 (.cells #[(.int .i64 p1.kind), (.string p1.text), (.int .i64 p1.at_), (.int .i64 p1.fin), vp1_kids] 24 (0, 0)) :: Pt b1 (.cells #[(.int .i64 p0.kind), (.string p0.text), (.int .i64 p0.at_), (.int .i64 p0.fin), vp0_kids] 24 (0, 0)) :: L) w) (by kernel_rfl) ⟨fun _ => ⟨_, hp⟩, fun _ => ⟨_, (hp.get 0 rfl)⟩, fun _ => ⟨_, (hp.get 1 rfl)⟩, trivial⟩ (fun hS => ?_) ?_
              ·
                generalize w.drew = w at hS hp ⊢
                refine v_take0 0 (wk0 rfl) rfl rfl rfl hE (by kernel_rfl) (by kernel_rfl) (by kernel_rfl) rfl (by kernel_rfl) hS (v := (.map (some b3))) (fun _ => ex_move rfl hE rfl) ?_
                intro a hE hS
                refine v_take1 1 1 (wk0 rfl) rfl rfl rfl hE (by kernel_rfl) (by kernel_rfl) (by kernel_rfl) rfl (by kernel_rfl) hS (v := (.agg #[(.int .i64 x6.kind), (.string x6.text)])) (fun _ => ex_load rfl hE rfl (fun w hw => run_ldN (cs := [(.int .i64 x6.kind), (.string x6.text)]) varty70 (Hp.cN 0 rfl 0 _ (sub_all rfl) w hw))) ?_
                intro a hE hS
                refine v_all [2, 4] (by kernel_rfl) rfl ?_
                refine List.forall_mem_cons.2 ⟨?_, List.forall_mem_cons.2 ⟨?_, fun _ h => absurd h (by simp)⟩⟩
                ·
                  refine h_op rfl ?_
                  refine s_val (wk0 rfl) rfl rfl hE hp (v := (.int .i64 ((mget (lp2_2 : List (Lbl × Int)) x6).getD 0))) (ex_mget0 (zd := (0 : Int)) kt70 mapty68 zero3 rfl hE 1 (k := x6) rfl rfl rfl) ?_
                  intro a hE
                  refine s_nil (and_with ⟨fun _ => ⟨_, hp⟩, fun _ => ⟨_, (hp.get 0 rfl)⟩, fun _ => ⟨_, (hp.get 1 rfl)⟩, trivial⟩ fun hS => ?_)
                  refine v_take0 3 (wk0 rfl) rfl rfl rfl hE (by kernel_rfl) (by kernel_rfl) (by kernel_rfl) rfl (by kernel_rfl) hS (v := (.int .i64 x7)) (fun _ => ex_sub rfl hE rfl rfl (inK_some ex7)) ?_
                  intro a hE hS
                  refine v_all [4] (by kernel_rfl) rfl ?_
                  refine List.forall_mem_cons.2 ⟨?_, fun _ h => absurd h (by simp)⟩
                  ·
                    refine h_op rfl ?_
                    refine s_mentry (zd := (0 : Int)) kt70 mapty68 zero3 (wk0 rfl) rfl rfl hE hp rfl 1 (k := x6) rfl rfl rfl ?_
                    intro a w st5 hE hp
                    have hp : Hp Z ρ (_ :: MapS b3 (mput lp2_2 x6 ((mget (lp2_2 : List (Lbl × Int)) x6).getD 0) : List (Lbl × Int)) x6 st5 :: _ :: _ :: _ :: _ :: _ :: _ :: _ :: _ :: L) w := hp
                    refine s_nil (and_with ⟨fun _ => ⟨_, hp⟩, fun _ => ⟨_, (hp.get 0 rfl)⟩, dead (by kernel_rfl), trivial⟩ fun hS => ?_)
                    refine v_take0 5 (wk0 rfl) rfl rfl rfl hE (by kernel_rfl) (by kernel_rfl) (by kernel_rfl) rfl (by kernel_rfl) hS (v := (.int .i64 st5)) (fun _ => ex_extract rfl hE rfl rfl) ?_
                    intro a hE hS
                    refine v_all [6] (by kernel_rfl) rfl ?_
                    refine List.forall_mem_cons.2 ⟨?_, fun _ h => absurd h (by simp)⟩
                    ·
                      refine h_op rfl ?_
                      refine s_mestore (wk0 rfl) rfl hE hp rfl 1 (v := x7) rfl rfl rfl rfl ?_
                      intro w hp
                      have hp : Hp Z ρ (_ :: MapA b3 (mput (mput lp2_2 x6 ((mget (lp2_2 : List (Lbl × Int)) x6).getD 0)) x6 x7 : List (Lbl × Int)) :: _ :: _ :: _ :: _ :: _ :: _ :: _ :: _ :: L) w := hp
                      refine s_nil (and_with ⟨fun _ => ⟨_, hp⟩, fun _ => ⟨_, (hp.get 0 rfl)⟩, dead (by kernel_rfl), trivial⟩ fun hS => ?_)
                      exact v_done (by kernel_rfl) ⟨hE.cut ⟨rfl, rfl, rfl, rfl, rfl, rfl, rfl, trivial⟩, hp⟩
                ·
                  refine h_op rfl ?_
                  refine s_mentry (zd := (0 : Int)) kt70 mapty68 zero3 (wk0 rfl) rfl rfl hE hp rfl 1 (k := x6) rfl rfl rfl ?_
                  intro a w st6 hE hp
                  have hp : Hp Z ρ (_ :: MapS b3 (mput lp2_2 x6 ((mget (lp2_2 : List (Lbl × Int)) x6).getD 0) : List (Lbl × Int)) x6 st6 :: _ :: _ :: _ :: _ :: _ :: _ :: _ :: _ :: L) w := hp
                  refine s_nil (and_with ⟨fun _ => ⟨_, hp⟩, fun _ => ⟨_, (hp.get 0 rfl)⟩, dead (by kernel_rfl), trivial⟩ fun hS => ?_)
                  refine v_take0 5 (wk0 rfl) rfl rfl rfl hE (by kernel_rfl) (by kernel_rfl) (by kernel_rfl) rfl (by kernel_rfl) hS (v := (.int .i64 st6)) (fun _ => ex_extract rfl hE rfl rfl) ?_
                  intro a hE hS
                  refine v_all [2] (by kernel_rfl) rfl ?_
                  refine List.forall_mem_cons.2 ⟨?_, fun _ h => absurd h (by simp)⟩
                  ·
                    refine h_op rfl ?_
                    have hpm := MapS.toA (hp.get 1 rfl)
                    refine s_val (wk0 rfl) rfl rfl hE hpm (v := (.int .i64 ((mget (mput lp2_2 x6 ((mget (lp2_2 : List (Lbl × Int)) x6).getD 0) : List (Lbl × Int)) x6).getD 0))) (ex_mget0 (zd := (0 : Int)) kt70 mapty68 zero3 rfl hE 0 (k := x6) rfl rfl rfl) ?_
                    intro a hE
                    have hE := hE.eqv (v' := (.int .i64 ((mget (lp2_2 : List (Lbl × Int)) x6).getD 0))) (by rw [mget_entry])
                    refine s_nil (and_with ⟨fun _ => ⟨_, hp⟩, fun _ => ⟨_, (hp.get 0 rfl)⟩, dead (by kernel_rfl), trivial⟩ fun hS => ?_)
                    refine v_take0 3 (wk0 rfl) rfl rfl rfl hE (by kernel_rfl) (by kernel_rfl) (by kernel_rfl) rfl (by kernel_rfl) hS (v := (.int .i64 x7)) (fun _ => ex_sub rfl hE rfl rfl (inK_some ex7)) ?_
                    intro a hE hS
                    refine v_all [6] (by kernel_rfl) rfl ?_
                    refine List.forall_mem_cons.2 ⟨?_, fun _ h => absurd h (by simp)⟩
                    ·
                      refine h_op rfl ?_
                      refine s_mestore (wk0 rfl) rfl hE hp rfl 1 (v := x7) rfl rfl rfl rfl ?_
                      intro w hp
                      have hp : Hp Z ρ (_ :: MapA b3 (mput (mput lp2_2 x6 ((mget (lp2_2 : List (Lbl × Int)) x6).getD 0)) x6 x7 : List (Lbl × Int)) :: _ :: _ :: _ :: _ :: _ :: _ :: _ :: _ :: L) w := hp
                      refine s_nil (and_with ⟨fun _ => ⟨_, hp⟩, fun _ => ⟨_, (hp.get 0 rfl)⟩, dead (by kernel_rfl), trivial⟩ fun hS => ?_)
                      exact v_done (by kernel_rfl) ⟨hE.cut ⟨rfl, rfl, rfl, rfl, rfl, rfl, rfl, trivial⟩, hp⟩
              · rintro a w ⟨hE, hp⟩
                refine k_region ?_
                refine s_val (wk0 rfl) rfl rfl hE hp (v := (.int .i64 lp2_0)) (ex_move rfl hE rfl) ?_
                intro a hE
                obtain ⟨x8, ex8, hl2⟩ := bnd hl2
                refine s_val (wk0 rfl) rfl rfl hE hp (v := (.int .i64 x8)) (ex_add rfl hE rfl rfl (inK_some ex8)) ?_
                intro a hE
                refine s_val (wk0 rfl) rfl rfl hE hp (v := (.int .i64 x8)) (ex_asn rfl hE rfl) ?_
                intro a hE
                refine s_nil ?_
                refine k_region ?_
                obtain ⟨x9, ex9, hl2⟩ := bnd hl2
                refine s_val (wk0 rfl) rfl rfl hE hp (v := (.int .i64 x9)) (ex_add rfl hE rfl rfl (inK_some ex9)) ?_
                intro a hE
                refine s_val (wk0 rfl) rfl rfl hE hp (v := (.int .i64 x9)) (ex_move rfl hE rfl) ?_
                intro a hE
                refine s_nil ?_
                exact ⟨_, (Option.some.inj hl2).symm, hE.cut ⟨rfl, rfl, rfl, rfl, rfl, rfl, rfl, trivial⟩, (hp.drop)⟩
            · replace hl2 := (ie hb5).symm.trans hl2
              refine k_skip ?_
              refine k_region ?_
              obtain ⟨x10, ex10, hl2⟩ := bnd hl2
              refine s_val (wk0 rfl) rfl rfl hE hp (v := (.int .i64 x10)) (ex_add rfl hE rfl rfl (inK_some ex10)) ?_
              intro a hE
              refine s_val (wk0 rfl) rfl rfl hE hp (v := (.int .i64 x10)) (ex_move rfl hE rfl) ?_
              intro a hE
              refine s_nil ?_
              exact ⟨_, (Option.some.inj hl2).symm, hE.cut ⟨rfl, rfl, rfl, rfl, rfl, rfl, rfl, trivial⟩, (hp.drop)⟩
          · replace hl2 := (ie hb4).symm.trans hl2
            refine k_exit ?_
            refine ⟨_, (Option.some.inj hl2).symm, fun hbb => ?_⟩
            subst hbb
            exact ⟨hE.cut ⟨rfl, rfl, rfl, trivial⟩, hp⟩
      · rintro a w ⟨hE, hp⟩
        refine k_seq ?_
        refine k_region ?_
        refine s_val (wk0 rfl) rfl rfl hE hp (v := y3) (ex_move rfl hE rfl) ?_
        intro a hE
        refine s_val (wk0 rfl) rfl rfl hE hp (v := (.int .i64 (x1.labels.length : Int))) (ex_len rfl hE rfl (OwnSl.len hp 4 rfl slty64)) ?_
        intro a hE
        refine s_val (wk0 rfl) rfl rfl hE hp (v := y6) (ex_move rfl hE rfl) ?_
        intro a hE
        refine s_val (wk0 rfl) rfl rfl hE hp (v := (.int .i64 (x2.labels.length : Int))) (ex_len rfl hE rfl (OwnSl.len hp 1 rfl slty64)) ?_
        intro a hE
        refine s_val (wk0 rfl) rfl rfl hE hp (v := (.int .i64 (max (x1.labels.length : Int) (x2.labels.length : Int)))) (ex_max rfl hE rfl rfl) ?_
        intro a hE
        refine s_val (wk0 rfl) rfl rfl hE hp (v := (.int .i64 b7.1)) (ex_move rfl hE rfl) ?_
        intro a hE
        obtain ⟨x11, ex11, hm⟩ := bnd hm
        refine s_val (wk0 rfl) rfl rfl hE hp (v := (.int .i64 x11)) (ex_sub rfl hE rfl rfl (inK_some ex11)) ?_
        intro a hE
        refine s_val (wk0 rfl) rfl rfl hE hp (v := (.int .i64 x11)) (ex_asn rfl hE rfl) ?_
        intro a hE
        refine s_nil ?_
        refine k_ret ?_
        obtain rfl := Option.some.inj hm
        exact ret1 hE rfl rfl ⟨_, rfl, rfl, (((((((((((((((((hp.get 8 rfl).drop).get 7 rfl).drop).get 6 rfl).drop).get 5 rfl).drop).get 4 rfl).drop).get 3 rfl).drop).get 2 rfl).drop).get 1 rfl).drop).drop)⟩
end Go.Proofs.Ytnnccbagbgndpaa

/-
  The code goes as its model: assessor/assessorref37.Subtrees, assessor/assessorref37.Bound. (Printed by wip/sp/gen.py.)
-/
import Derived.Test.YtnnccbagbgndpaaRBM
import Derived.Test.YtnnccbagbgndpaaFct
import Derived.Test.YtnnccbagbgndpaaRRS
set_option linter.unusedVariables false
set_option linter.unusedSimpArgs false
namespace Go.Proofs.Ytnnccbagbgndpaa
open Go.RowKit

/- assessor/assessorref37.Subtrees -/
set_option maxRecDepth 100000 in
set_option maxHeartbeats 4000000 in
theorem c_assessorref37_Subtrees {Z : World} {ρ : PH} {L : List Atom} {w : World} (p0 : Node) (vp0_kids : Value) (hp0_kids : RoSl ρ vp0_kids p0.kids) (p1 : Node) (vp1_kids : Value) (hp1_kids : RoSl ρ vp1_kids p1.kids) (hp : Hp Z ρ (L) w) (r : (List (List Int))) (hm : m_assessorref37_Subtrees p0 p1 = some r) :
    Calls Try.prog 14 #[(.agg #[(.int .i64 p0.kind), (.string p0.text), (.int .i64 p0.at_), (.int .i64 p0.fin), vp0_kids]), (.agg #[(.int .i64 p1.kind), (.string p1.text), (.int .i64 p1.at_), (.int .i64 p1.fin), vp1_kids])] w (Ret fun v w' => ∃ (vr1 : Value) (usr1 : List Sl), v = vr1 ∧ Hp Z ρ (TblA 34 3 vr1 usr1 (r : (List (List Int))) :: L) w') := by
  refine enter (N := 89) Try.func14 rfl rfl [(0, (.agg #[(.int .i64 p0.kind), (.string p0.text), (.int .i64 p0.at_), (.int .i64 p0.fin), vp0_kids])), (1, (.agg #[(.int .i64 p1.kind), (.string p1.text), (.int .i64 p1.at_), (.int .i64 p1.fin), vp1_kids]))] rfl (argsIn_mem ⟨rfl, rfl, trivial⟩) fun a hE => ?_
  unfold m_assessorref37_Subtrees at hm
  refine k_seq ?_
  refine k_region ?_
  refine s_box (wk0 rfl) rfl rfl hE hp rfl (v := (.agg #[(.int .i64 p0.kind), (.string p0.text), (.int .i64 p0.at_), (.int .i64 p0.fin), vp0_kids])) rfl ?_
  intro a w b1 hE hp
  have hp : Hp Z ρ (Pt b1 (.cells #[(.int .i64 p0.kind), (.string p0.text), (.int .i64 p0.at_), (.int .i64 p0.fin), vp0_kids] 24 (0, 0)) :: L) w := hp
  refine s_box (wk0 rfl) rfl rfl hE hp rfl (v := (.agg #[(.int .i64 p1.kind), (.string p1.text), (.int .i64 p1.at_), (.int .i64 p1.fin), vp1_kids])) rfl ?_
  intro a w b2 hE hp
  have hp : Hp Z ρ (Pt b2 (.cells #[(.int .i64 p1.kind), (.string p1.text), (.int .i64 p1.at_), (.int .i64 p1.fin), vp1_kids] 24 (0, 0)) :: _ :: L) w := hp
  refine s_val (wk0 rfl) rfl rfl hE hp (v := (.slice none 0 0)) (ex_asn rfl hE rfl) ?_
  intro a hE
  refine s_nil ?_
  refine k_seq ?_
  obtain ⟨x1, ex1, hm⟩ := bnd hm
  obtain ⟨x2, ex2, hm⟩ := bnd hm
  have hp := hp.drew
  refine k_heldV ([([], At0 Z ρ), ([], At1 Z ρ (Pt b2 (.cells #[(.int .i64 p1.kind), (.string p1.text), (.int .i64 p1.at_), (.int .i64 p1.fin), vp1_kids] 24 (0, 0)))), ([], At1 Z ρ (Pt b1 (.cells #[(.int .i64 p0.kind), (.string p0.text), (.int .i64 p0.at_), (.int .i64 p0.fin), vp0_kids] 24 (0, 0))))] : Facts) (fun a w => ∃ y13 : Nat, ∃ y12 : Nat, ∃ y8 : Value, ∃ y9 : Value, ∃ y10 : Value, ∃ y11 : Value, ∃ y4 : Value, ∃ y5 : Value, ∃ y6 : Value, ∃ y7 : Value, Env 89 [(5, (.pointer (some ⟨y12, 0, none⟩))), (6, (.pointer (some ⟨y13, 0, none⟩)))] a ∧ Hp Z ρ (Pt y13 (.cells #[y8, y9, y10, y11] 60 (0, 0)) :: Pt y12 (.cells #[y4, y5, y6, y7] 60 (0, 0)) :: OwnSl 3 y8 x2.kinds :: OwnSl 9 y9 x2.texts :: OwnSl 3 y10 x2.left :: OwnSl 3 y11 x2.numbers :: OwnSl 3 y4 x1.kinds :: OwnSl 9 y5 x1.texts :: OwnSl 3 y6 x1.left :: OwnSl 3 y7 x1.numbers :: Pt b2 (.cells #[(.int .i64 p1.kind), (.string p1.text), (.int .i64 p1.at_), (.int .i64 p1.fin), vp1_kids] 24 (0, 0)) :: Pt b1 (.cells #[(.int .i64 p0.kind), (.string p0.text), (.int .i64 p0.at_), (.int .i64 p0.fin), vp0_kids] 24 (0, 0)) :: L) w) (by kernel_rfl) ⟨fun _ => ⟨_, hp⟩, fun _ => ⟨_, (hp.get 0 rfl)⟩, fun _ => ⟨_, (hp.get 1 rfl)⟩, trivial⟩ (fun hS => ?_) ?_
  ·
    generalize w.drew = w at hS hp ⊢
    refine v_take0 0 (wk0 rfl) rfl rfl rfl hE (by kernel_rfl) (by kernel_rfl) (by kernel_rfl) rfl (by kernel_rfl) hS (v := (.agg #[(.slice none 0 0), (.slice none 0 0), (.slice none 0 0), (.slice none 0 0)])) (fun _ => ex_bld rfl hE [] (by exact trivial) (fun w => by simp [Instr.build, Instr.fill, Value.cells, go_sem])) ?_
    intro a hE hS
    refine v_take1 1 2 (wk0 rfl) rfl rfl rfl hE (by kernel_rfl) (by kernel_rfl) (by kernel_rfl) rfl (by kernel_rfl) hS (v := (.agg #[(.int .i64 p0.kind), (.string p0.text), (.int .i64 p0.at_), (.int .i64 p0.fin), vp0_kids])) (fun _ => ex_load rfl hE rfl (fun w hw => run_ldN (cs := [(.int .i64 p0.kind), (.string p0.text), (.int .i64 p0.at_), (.int .i64 p0.fin), vp0_kids]) varty24 (Hp.cN 0 rfl 0 _ (sub_all rfl) w hw))) ?_
    intro a hE hS
    refine v_take0 3 (wk0 rfl) rfl rfl rfl hE (by kernel_rfl) (by kernel_rfl) (by kernel_rfl) rfl (by kernel_rfl) hS (v := (.agg #[(.slice none 0 0), (.slice none 0 0), (.slice none 0 0), (.slice none 0 0)])) (fun _ => ex_bld rfl hE [] (by exact trivial) (fun w => by simp [Instr.build, Instr.fill, Value.cells, go_sem])) ?_
    intro a hE hS
    refine v_take1 4 1 (wk0 rfl) rfl rfl rfl hE (by kernel_rfl) (by kernel_rfl) (by kernel_rfl) rfl (by kernel_rfl) hS (v := (.agg #[(.int .i64 p1.kind), (.string p1.text), (.int .i64 p1.at_), (.int .i64 p1.fin), vp1_kids])) (fun _ => ex_load rfl hE rfl (fun w hw => run_ldN (cs := [(.int .i64 p1.kind), (.string p1.text), (.int .i64 p1.at_), (.int .i64 p1.fin), vp1_kids]) varty24 (Hp.cN 0 rfl 0 _ (sub_all rfl) w hw))) ?_
    intro a hE hS
    refine v_all [2, 6, 7] (by kernel_rfl) rfl ?_
    refine List.forall_mem_cons.2 ⟨?_, List.forall_mem_cons.2 ⟨?_, List.forall_mem_cons.2 ⟨?_, fun _ h => absurd h (by simp)⟩⟩⟩
    ·
      refine h_op rfl ?_
      have hp := hp.emp (OwnSl.nil (α := Int) 3)
      have hp : Hp Z ρ (OwnSl 3 (.slice none 0 0) ([] : List Int) :: _ :: _ :: L) w := hp
      have hp := hp.emp (OwnSl.nil (α := ByteArray) 9)
      have hp : Hp Z ρ (OwnSl 9 (.slice none 0 0) ([] : List ByteArray) :: _ :: _ :: _ :: L) w := hp
      have hp := hp.emp (OwnSl.nil (α := Int) 3)
      have hp : Hp Z ρ (OwnSl 3 (.slice none 0 0) ([] : List Int) :: _ :: _ :: _ :: _ :: L) w := hp
      have hp := hp.emp (OwnSl.nil (α := Int) 3)
      have hp : Hp Z ρ (OwnSl 3 (.slice none 0 0) ([] : List Int) :: _ :: _ :: _ :: _ :: _ :: L) w := hp
      refine s_call (wk0 rfl) rfl rfl hE rfl [(.agg #[(.slice none 0 0), (.slice none 0 0), (.slice none 0 0), (.slice none 0 0)]), (.agg #[(.int .i64 p0.kind), (.string p0.text), (.int .i64 p0.at_), (.int .i64 p0.fin), vp0_kids]), (.int .i64 0)] ⟨rfl, rfl, rfl, trivial⟩ ent31 (c_assessorref37_flat (RFlat.mk ([]) ([]) ([]) ([])) (.slice none 0 0) (.slice none 0 0) (.slice none 0 0) (.slice none 0 0) p0 vp0_kids hp0_kids 0 (((hp.get 1 rfl).get 2 rfl).get 3 rfl) x1 ex1) Ret.ret ?_
      intro v a w hR hE
      obtain ⟨vr3_kinds, vr3_texts, vr3_left, vr3_numbers, rfl, hp⟩ := Ret.of hR
      have hp : Hp Z ρ (OwnSl 3 vr3_kinds x1.kinds :: OwnSl 9 vr3_texts x1.texts :: OwnSl 3 vr3_left x1.left :: OwnSl 3 vr3_numbers x1.numbers :: _ :: _ :: L) w := hp
      refine s_nil (and_with ⟨fun _ => ⟨_, hp⟩, fun _ => ⟨_, (hp.get 4 rfl)⟩, fun _ => ⟨_, (hp.get 5 rfl)⟩, trivial⟩ fun hS => ?_)
      refine v_all [5, 6, 7] (by kernel_rfl) rfl ?_
      refine List.forall_mem_cons.2 ⟨?_, List.forall_mem_cons.2 ⟨?_, List.forall_mem_cons.2 ⟨?_, fun _ h => absurd h (by simp)⟩⟩⟩
      ·
        refine h_op rfl ?_
        have hp := hp.emp (OwnSl.nil (α := Int) 3)
        have hp : Hp Z ρ (OwnSl 3 (.slice none 0 0) ([] : List Int) :: _ :: _ :: _ :: _ :: _ :: _ :: L) w := hp
        have hp := hp.emp (OwnSl.nil (α := ByteArray) 9)
        have hp : Hp Z ρ (OwnSl 9 (.slice none 0 0) ([] : List ByteArray) :: _ :: _ :: _ :: _ :: _ :: _ :: _ :: L) w := hp
        have hp := hp.emp (OwnSl.nil (α := Int) 3)
        have hp : Hp Z ρ (OwnSl 3 (.slice none 0 0) ([] : List Int) :: _ :: _ :: _ :: _ :: _ :: _ :: _ :: _ :: L) w := hp
        have hp := hp.emp (OwnSl.nil (α := Int) 3)
        have hp : Hp Z ρ (OwnSl 3 (.slice none 0 0) ([] : List Int) :: _ :: _ :: _ :: _ :: _ :: _ :: _ :: _ :: _ :: L) w := hp
        refine s_call (wk0 rfl) rfl rfl hE rfl [(.agg #[(.slice none 0 0), (.slice none 0 0), (.slice none 0 0), (.slice none 0 0)]), (.agg #[(.int .i64 p1.kind), (.string p1.text), (.int .i64 p1.at_), (.int .i64 p1.fin), vp1_kids]), (.int .i64 0)] ⟨rfl, rfl, rfl, trivial⟩ ent31 (c_assessorref37_flat (RFlat.mk ([]) ([]) ([]) ([])) (.slice none 0 0) (.slice none 0 0) (.slice none 0 0) (.slice none 0 0) p1 vp1_kids hp1_kids 0 (((hp.get 1 rfl).get 2 rfl).get 3 rfl) x2 ex2) Ret.ret ?_
        intro v a w hR hE
        obtain ⟨vr4_kinds, vr4_texts, vr4_left, vr4_numbers, rfl, hp⟩ := Ret.of hR
        have hp : Hp Z ρ (OwnSl 3 vr4_kinds x2.kinds :: OwnSl 9 vr4_texts x2.texts :: OwnSl 3 vr4_left x2.left :: OwnSl 3 vr4_numbers x2.numbers :: _ :: _ :: _ :: _ :: _ :: _ :: L) w := hp
        refine s_nil (and_with ⟨fun _ => ⟨_, hp⟩, fun _ => ⟨_, (hp.get 8 rfl)⟩, fun _ => ⟨_, (hp.get 9 rfl)⟩, trivial⟩ fun hS => ?_)
        refine v_all [6, 7] (by kernel_rfl) rfl ?_
        refine List.forall_mem_cons.2 ⟨?_, List.forall_mem_cons.2 ⟨?_, fun _ h => absurd h (by simp)⟩⟩
        ·
          refine h_op rfl ?_
          refine s_new (wk0 rfl) rfl rfl hE hp rfl [(.slice none 0 0), (.slice none 0 0), (.slice none 0 0), (.slice none 0 0)] (fun w => by simp [Instr.alloc, go_sem] <;> rfl) ?_
          intro a w b5 hE hp
          have hp : Hp Z ρ (Pt b5 (.cells #[(.slice none 0 0), (.slice none 0 0), (.slice none 0 0), (.slice none 0 0)] 60 (0, 0)) :: _ :: _ :: _ :: _ :: _ :: _ :: _ :: _ :: _ :: _ :: L) w := hp
          refine s_nil (and_with ⟨fun _ => ⟨_, hp⟩, fun _ => ⟨_, (hp.get 9 rfl)⟩, fun _ => ⟨_, (hp.get 10 rfl)⟩, trivial⟩ fun hS => ?_)
          refine v_all [7] (by kernel_rfl) rfl ?_
          refine List.forall_mem_cons.2 ⟨?_, fun _ h => absurd h (by simp)⟩
          ·
            refine h_op rfl ?_
            refine s_new (wk0 rfl) rfl rfl hE hp rfl [(.slice none 0 0), (.slice none 0 0), (.slice none 0 0), (.slice none 0 0)] (fun w => by simp [Instr.alloc, go_sem] <;> rfl) ?_
            intro a w b6 hE hp
            have hp : Hp Z ρ (Pt b6 (.cells #[(.slice none 0 0), (.slice none 0 0), (.slice none 0 0), (.slice none 0 0)] 60 (0, 0)) :: _ :: _ :: _ :: _ :: _ :: _ :: _ :: _ :: _ :: _ :: _ :: L) w := hp
            refine s_nil (and_with ⟨fun _ => ⟨_, hp⟩, fun _ => ⟨_, (hp.get 10 rfl)⟩, fun _ => ⟨_, (hp.get 11 rfl)⟩, trivial⟩ fun hS => ?_)
            refine v_all [8] (by kernel_rfl) rfl ?_
            refine List.forall_mem_cons.2 ⟨?_, fun _ h => absurd h (by simp)⟩
            ·
              refine h_op rfl ?_
              refine s_store (wk0 rfl) rfl hE hp rfl rfl rfl 1 rfl varty60.size_ rfl (allOne_mem ⟨(OwnSl.one hp 6 rfl), (OwnSl.one hp 7 rfl), (OwnSl.one hp 8 rfl), (OwnSl.one hp 9 rfl), trivial⟩) [vr3_kinds, vr3_texts, vr3_left, vr3_numbers] rfl ?_
              intro w hp
              have hp : Hp Z ρ (_ :: Pt b5 (.cells #[vr3_kinds, vr3_texts, vr3_left, vr3_numbers] 60 (0, 0)) :: _ :: _ :: _ :: _ :: _ :: _ :: _ :: _ :: _ :: _ :: L) w := hp
              refine s_nil (and_with ⟨fun _ => ⟨_, hp⟩, fun _ => ⟨_, (hp.get 10 rfl)⟩, fun _ => ⟨_, (hp.get 11 rfl)⟩, trivial⟩ fun hS => ?_)
              refine v_all [9] (by kernel_rfl) rfl ?_
              refine List.forall_mem_cons.2 ⟨?_, fun _ h => absurd h (by simp)⟩
              ·
                refine h_op rfl ?_
                refine s_store (wk0 rfl) rfl hE hp rfl rfl rfl 0 rfl varty60.size_ rfl (allOne_mem ⟨(OwnSl.one hp 2 rfl), (OwnSl.one hp 3 rfl), (OwnSl.one hp 4 rfl), (OwnSl.one hp 5 rfl), trivial⟩) [vr4_kinds, vr4_texts, vr4_left, vr4_numbers] rfl ?_
                intro w hp
                have hp : Hp Z ρ (Pt b6 (.cells #[vr4_kinds, vr4_texts, vr4_left, vr4_numbers] 60 (0, 0)) :: _ :: _ :: _ :: _ :: _ :: _ :: _ :: _ :: _ :: _ :: _ :: L) w := hp
                refine s_nil (and_with ⟨fun _ => ⟨_, hp⟩, fun _ => ⟨_, (hp.get 10 rfl)⟩, fun _ => ⟨_, (hp.get 11 rfl)⟩, trivial⟩ fun hS => ?_)
                exact v_done (by kernel_rfl) ⟨_, _, _, _, _, _, _, _, _, _, hE.cut ⟨rfl, rfl, trivial⟩, hp⟩
        ·
          refine h_op rfl ?_
          refine s_new (wk0 rfl) rfl rfl hE hp rfl [(.slice none 0 0), (.slice none 0 0), (.slice none 0 0), (.slice none 0 0)] (fun w => by simp [Instr.alloc, go_sem] <;> rfl) ?_
          intro a w b7 hE hp
          have hp : Hp Z ρ (Pt b7 (.cells #[(.slice none 0 0), (.slice none 0 0), (.slice none 0 0), (.slice none 0 0)] 60 (0, 0)) :: _ :: _ :: _ :: _ :: _ :: _ :: _ :: _ :: _ :: _ :: L) w := hp
          refine s_nil (and_with ⟨fun _ => ⟨_, hp⟩, fun _ => ⟨_, (hp.get 9 rfl)⟩, fun _ => ⟨_, (hp.get 10 rfl)⟩, trivial⟩ fun hS => ?_)
          refine v_all [6] (by kernel_rfl) rfl ?_
          refine List.forall_mem_cons.2 ⟨?_, fun _ h => absurd h (by simp)⟩
          ·
            refine h_op rfl ?_
            refine s_new (wk0 rfl) rfl rfl hE hp rfl [(.slice none 0 0), (.slice none 0 0), (.slice none 0 0), (.slice none 0 0)] (fun w => by simp [Instr.alloc, go_sem] <;> rfl) ?_
            intro a w b8 hE hp
            have hp : Hp Z ρ (Pt b8 (.cells #[(.slice none 0 0), (.slice none 0 0), (.slice none 0 0), (.slice none 0 0)] 60 (0, 0)) :: _ :: _ :: _ :: _ :: _ :: _ :: _ :: _ :: _ :: _ :: _ :: L) w := hp
            refine s_nil (and_with ⟨fun _ => ⟨_, hp⟩, fun _ => ⟨_, (hp.get 10 rfl)⟩, fun _ => ⟨_, (hp.get 11 rfl)⟩, trivial⟩ fun hS => ?_)
            refine v_all [8] (by kernel_rfl) rfl ?_
            refine List.forall_mem_cons.2 ⟨?_, fun _ h => absurd h (by simp)⟩
            ·
              refine h_op rfl ?_
              refine s_store (wk0 rfl) rfl hE hp rfl rfl rfl 0 rfl varty60.size_ rfl (allOne_mem ⟨(OwnSl.one hp 6 rfl), (OwnSl.one hp 7 rfl), (OwnSl.one hp 8 rfl), (OwnSl.one hp 9 rfl), trivial⟩) [vr3_kinds, vr3_texts, vr3_left, vr3_numbers] rfl ?_
              intro w hp
              have hp : Hp Z ρ (Pt b8 (.cells #[vr3_kinds, vr3_texts, vr3_left, vr3_numbers] 60 (0, 0)) :: _ :: _ :: _ :: _ :: _ :: _ :: _ :: _ :: _ :: _ :: _ :: L) w := hp
              refine s_nil (and_with ⟨fun _ => ⟨_, hp⟩, fun _ => ⟨_, (hp.get 10 rfl)⟩, fun _ => ⟨_, (hp.get 11 rfl)⟩, trivial⟩ fun hS => ?_)
              refine v_all [9] (by kernel_rfl) rfl ?_
              refine List.forall_mem_cons.2 ⟨?_, fun _ h => absurd h (by simp)⟩
              ·
                refine h_op rfl ?_
                refine s_store (wk0 rfl) rfl hE hp rfl rfl rfl 1 rfl varty60.size_ rfl (allOne_mem ⟨(OwnSl.one hp 2 rfl), (OwnSl.one hp 3 rfl), (OwnSl.one hp 4 rfl), (OwnSl.one hp 5 rfl), trivial⟩) [vr4_kinds, vr4_texts, vr4_left, vr4_numbers] rfl ?_
                intro w hp
                have hp : Hp Z ρ (_ :: Pt b7 (.cells #[vr4_kinds, vr4_texts, vr4_left, vr4_numbers] 60 (0, 0)) :: _ :: _ :: _ :: _ :: _ :: _ :: _ :: _ :: _ :: _ :: L) w := hp
                refine s_nil (and_with ⟨fun _ => ⟨_, hp⟩, fun _ => ⟨_, (hp.get 10 rfl)⟩, fun _ => ⟨_, (hp.get 11 rfl)⟩, trivial⟩ fun hS => ?_)
                exact v_done (by kernel_rfl) ⟨_, _, _, _, _, _, _, _, _, _, hE.cut ⟨rfl, rfl, trivial⟩, ((((((((((((hp.get 11 rfl).get 11 rfl).get 11 rfl).get 11 rfl).get 11 rfl).get 11 rfl).get 11 rfl).get 11 rfl).get 11 rfl).get 11 rfl).get 10 rfl).get 11 rfl)⟩
      ·
        refine h_op rfl ?_
        refine s_new (wk0 rfl) rfl rfl hE hp rfl [(.slice none 0 0), (.slice none 0 0), (.slice none 0 0), (.slice none 0 0)] (fun w => by simp [Instr.alloc, go_sem] <;> rfl) ?_
        intro a w b9 hE hp
        have hp : Hp Z ρ (Pt b9 (.cells #[(.slice none 0 0), (.slice none 0 0), (.slice none 0 0), (.slice none 0 0)] 60 (0, 0)) :: _ :: _ :: _ :: _ :: _ :: _ :: L) w := hp
        refine s_nil (and_with ⟨fun _ => ⟨_, hp⟩, fun _ => ⟨_, (hp.get 5 rfl)⟩, fun _ => ⟨_, (hp.get 6 rfl)⟩, trivial⟩ fun hS => ?_)
        refine v_all [5, 7] (by kernel_rfl) rfl ?_
        refine List.forall_mem_cons.2 ⟨?_, List.forall_mem_cons.2 ⟨?_, fun _ h => absurd h (by simp)⟩⟩
        ·
          refine h_op rfl ?_
          have hp := hp.emp (OwnSl.nil (α := Int) 3)
          have hp : Hp Z ρ (OwnSl 3 (.slice none 0 0) ([] : List Int) :: _ :: _ :: _ :: _ :: _ :: _ :: _ :: L) w := hp
          have hp := hp.emp (OwnSl.nil (α := ByteArray) 9)
          have hp : Hp Z ρ (OwnSl 9 (.slice none 0 0) ([] : List ByteArray) :: _ :: _ :: _ :: _ :: _ :: _ :: _ :: _ :: L) w := hp
          have hp := hp.emp (OwnSl.nil (α := Int) 3)
          have hp : Hp Z ρ (OwnSl 3 (.slice none 0 0) ([] : List Int) :: _ :: _ :: _ :: _ :: _ :: _ :: _ :: _ :: _ :: L) w := hp
          have hp := hp.emp (OwnSl.nil (α := Int) 3)
          have hp : Hp Z ρ (OwnSl 3 (.slice none 0 0) ([] : List Int) :: _ :: _ :: _ :: _ :: _ :: _ :: _ :: _ :: _ :: _ :: L) w := hp
          refine s_call (wk0 rfl) rfl rfl hE rfl [(.agg #[(.slice none 0 0), (.slice none 0 0), (.slice none 0 0), (.slice none 0 0)]), (.agg #[(.int .i64 p1.kind), (.string p1.text), (.int .i64 p1.at_), (.int .i64 p1.fin), vp1_kids]), (.int .i64 0)] ⟨rfl, rfl, rfl, trivial⟩ ent31 (c_assessorref37_flat (RFlat.mk ([]) ([]) ([]) ([])) (.slice none 0 0) (.slice none 0 0) (.slice none 0 0) (.slice none 0 0) p1 vp1_kids hp1_kids 0 (((hp.get 1 rfl).get 2 rfl).get 3 rfl) x2 ex2) Ret.ret ?_
          intro v a w hR hE
          obtain ⟨vr5_kinds, vr5_texts, vr5_left, vr5_numbers, rfl, hp⟩ := Ret.of hR
          have hp : Hp Z ρ (OwnSl 3 vr5_kinds x2.kinds :: OwnSl 9 vr5_texts x2.texts :: OwnSl 3 vr5_left x2.left :: OwnSl 3 vr5_numbers x2.numbers :: _ :: _ :: _ :: _ :: _ :: _ :: _ :: L) w := hp
          refine s_nil (and_with ⟨fun _ => ⟨_, hp⟩, fun _ => ⟨_, (hp.get 9 rfl)⟩, fun _ => ⟨_, (hp.get 10 rfl)⟩, trivial⟩ fun hS => ?_)
          refine v_all [7] (by kernel_rfl) rfl ?_
          refine List.forall_mem_cons.2 ⟨?_, fun _ h => absurd h (by simp)⟩
          ·
            refine h_op rfl ?_
            refine s_new (wk0 rfl) rfl rfl hE hp rfl [(.slice none 0 0), (.slice none 0 0), (.slice none 0 0), (.slice none 0 0)] (fun w => by simp [Instr.alloc, go_sem] <;> rfl) ?_
            intro a w b10 hE hp
            have hp : Hp Z ρ (Pt b10 (.cells #[(.slice none 0 0), (.slice none 0 0), (.slice none 0 0), (.slice none 0 0)] 60 (0, 0)) :: _ :: _ :: _ :: _ :: _ :: _ :: _ :: _ :: _ :: _ :: _ :: L) w := hp
            refine s_nil (and_with ⟨fun _ => ⟨_, hp⟩, fun _ => ⟨_, (hp.get 10 rfl)⟩, fun _ => ⟨_, (hp.get 11 rfl)⟩, trivial⟩ fun hS => ?_)
            refine v_all [8] (by kernel_rfl) rfl ?_
            refine List.forall_mem_cons.2 ⟨?_, fun _ h => absurd h (by simp)⟩
            ·
              refine h_op rfl ?_
              refine s_store (wk0 rfl) rfl hE hp rfl rfl rfl 5 rfl varty60.size_ rfl (allOne_mem ⟨(OwnSl.one hp 6 rfl), (OwnSl.one hp 7 rfl), (OwnSl.one hp 8 rfl), (OwnSl.one hp 9 rfl), trivial⟩) [vr3_kinds, vr3_texts, vr3_left, vr3_numbers] rfl ?_
              intro w hp
              have hp : Hp Z ρ (_ :: _ :: _ :: _ :: _ :: Pt b9 (.cells #[vr3_kinds, vr3_texts, vr3_left, vr3_numbers] 60 (0, 0)) :: _ :: _ :: _ :: _ :: _ :: _ :: L) w := hp
              refine s_nil (and_with ⟨fun _ => ⟨_, hp⟩, fun _ => ⟨_, (hp.get 10 rfl)⟩, fun _ => ⟨_, (hp.get 11 rfl)⟩, trivial⟩ fun hS => ?_)
              refine v_all [9] (by kernel_rfl) rfl ?_
              refine List.forall_mem_cons.2 ⟨?_, fun _ h => absurd h (by simp)⟩
              ·
                refine h_op rfl ?_
                refine s_store (wk0 rfl) rfl hE hp rfl rfl rfl 0 rfl varty60.size_ rfl (allOne_mem ⟨(OwnSl.one hp 1 rfl), (OwnSl.one hp 2 rfl), (OwnSl.one hp 3 rfl), (OwnSl.one hp 4 rfl), trivial⟩) [vr5_kinds, vr5_texts, vr5_left, vr5_numbers] rfl ?_
                intro w hp
                have hp : Hp Z ρ (Pt b10 (.cells #[vr5_kinds, vr5_texts, vr5_left, vr5_numbers] 60 (0, 0)) :: _ :: _ :: _ :: _ :: _ :: _ :: _ :: _ :: _ :: _ :: _ :: L) w := hp
                refine s_nil (and_with ⟨fun _ => ⟨_, hp⟩, fun _ => ⟨_, (hp.get 10 rfl)⟩, fun _ => ⟨_, (hp.get 11 rfl)⟩, trivial⟩ fun hS => ?_)
                exact v_done (by kernel_rfl) ⟨_, _, _, _, _, _, _, _, _, _, hE.cut ⟨rfl, rfl, trivial⟩, ((((((((((((hp.get 11 rfl).get 11 rfl).get 11 rfl).get 11 rfl).get 11 rfl).get 11 rfl).get 10 rfl).get 10 rfl).get 10 rfl).get 10 rfl).get 11 rfl).get 11 rfl)⟩
        ·
          refine h_op rfl ?_
          refine s_new (wk0 rfl) rfl rfl hE hp rfl [(.slice none 0 0), (.slice none 0 0), (.slice none 0 0), (.slice none 0 0)] (fun w => by simp [Instr.alloc, go_sem] <;> rfl) ?_
          intro a w b11 hE hp
          have hp : Hp Z ρ (Pt b11 (.cells #[(.slice none 0 0), (.slice none 0 0), (.slice none 0 0), (.slice none 0 0)] 60 (0, 0)) :: _ :: _ :: _ :: _ :: _ :: _ :: _ :: L) w := hp
          refine s_nil (and_with ⟨fun _ => ⟨_, hp⟩, fun _ => ⟨_, (hp.get 6 rfl)⟩, fun _ => ⟨_, (hp.get 7 rfl)⟩, trivial⟩ fun hS => ?_)
          refine v_all [5] (by kernel_rfl) rfl ?_
          refine List.forall_mem_cons.2 ⟨?_, fun _ h => absurd h (by simp)⟩
          ·
            refine h_op rfl ?_
            have hp := hp.emp (OwnSl.nil (α := Int) 3)
            have hp : Hp Z ρ (OwnSl 3 (.slice none 0 0) ([] : List Int) :: _ :: _ :: _ :: _ :: _ :: _ :: _ :: _ :: L) w := hp
            have hp := hp.emp (OwnSl.nil (α := ByteArray) 9)
            have hp : Hp Z ρ (OwnSl 9 (.slice none 0 0) ([] : List ByteArray) :: _ :: _ :: _ :: _ :: _ :: _ :: _ :: _ :: _ :: L) w := hp
            have hp := hp.emp (OwnSl.nil (α := Int) 3)
            have hp : Hp Z ρ (OwnSl 3 (.slice none 0 0) ([] : List Int) :: _ :: _ :: _ :: _ :: _ :: _ :: _ :: _ :: _ :: _ :: L) w := hp
            have hp := hp.emp (OwnSl.nil (α := Int) 3)
            have hp : Hp Z ρ (OwnSl 3 (.slice none 0 0) ([] : List Int) :: _ :: _ :: _ :: _ :: _ :: _ :: _ :: _ :: _ :: _ :: _ :: L) w := hp
            refine s_call (wk0 rfl) rfl rfl hE rfl [(.agg #[(.slice none 0 0), (.slice none 0 0), (.slice none 0 0), (.slice none 0 0)]), (.agg #[(.int .i64 p1.kind), (.string p1.text), (.int .i64 p1.at_), (.int .i64 p1.fin), vp1_kids]), (.int .i64 0)] ⟨rfl, rfl, rfl, trivial⟩ ent31 (c_assessorref37_flat (RFlat.mk ([]) ([]) ([]) ([])) (.slice none 0 0) (.slice none 0 0) (.slice none 0 0) (.slice none 0 0) p1 vp1_kids hp1_kids 0 (((hp.get 1 rfl).get 2 rfl).get 3 rfl) x2 ex2) Ret.ret ?_
            intro v a w hR hE
            obtain ⟨vr6_kinds, vr6_texts, vr6_left, vr6_numbers, rfl, hp⟩ := Ret.of hR
            have hp : Hp Z ρ (OwnSl 3 vr6_kinds x2.kinds :: OwnSl 9 vr6_texts x2.texts :: OwnSl 3 vr6_left x2.left :: OwnSl 3 vr6_numbers x2.numbers :: _ :: _ :: _ :: _ :: _ :: _ :: _ :: _ :: L) w := hp
            refine s_nil (and_with ⟨fun _ => ⟨_, hp⟩, fun _ => ⟨_, (hp.get 10 rfl)⟩, fun _ => ⟨_, (hp.get 11 rfl)⟩, trivial⟩ fun hS => ?_)
            refine v_all [8] (by kernel_rfl) rfl ?_
            refine List.forall_mem_cons.2 ⟨?_, fun _ h => absurd h (by simp)⟩
            ·
              refine h_op rfl ?_
              refine s_store (wk0 rfl) rfl hE hp rfl rfl rfl 5 rfl varty60.size_ rfl (allOne_mem ⟨(OwnSl.one hp 6 rfl), (OwnSl.one hp 7 rfl), (OwnSl.one hp 8 rfl), (OwnSl.one hp 9 rfl), trivial⟩) [vr3_kinds, vr3_texts, vr3_left, vr3_numbers] rfl ?_
              intro w hp
              have hp : Hp Z ρ (_ :: _ :: _ :: _ :: _ :: Pt b9 (.cells #[vr3_kinds, vr3_texts, vr3_left, vr3_numbers] 60 (0, 0)) :: _ :: _ :: _ :: _ :: _ :: _ :: L) w := hp
              refine s_nil (and_with ⟨fun _ => ⟨_, hp⟩, fun _ => ⟨_, (hp.get 10 rfl)⟩, fun _ => ⟨_, (hp.get 11 rfl)⟩, trivial⟩ fun hS => ?_)
              refine v_all [9] (by kernel_rfl) rfl ?_
              refine List.forall_mem_cons.2 ⟨?_, fun _ h => absurd h (by simp)⟩
              ·
                refine h_op rfl ?_
                refine s_store (wk0 rfl) rfl hE hp rfl rfl rfl 4 rfl varty60.size_ rfl (allOne_mem ⟨(OwnSl.one hp 0 rfl), (OwnSl.one hp 1 rfl), (OwnSl.one hp 2 rfl), (OwnSl.one hp 3 rfl), trivial⟩) [vr6_kinds, vr6_texts, vr6_left, vr6_numbers] rfl ?_
                intro w hp
                have hp : Hp Z ρ (_ :: _ :: _ :: _ :: Pt b11 (.cells #[vr6_kinds, vr6_texts, vr6_left, vr6_numbers] 60 (0, 0)) :: _ :: _ :: _ :: _ :: _ :: _ :: _ :: L) w := hp
                refine s_nil (and_with ⟨fun _ => ⟨_, hp⟩, fun _ => ⟨_, (hp.get 10 rfl)⟩, fun _ => ⟨_, (hp.get 11 rfl)⟩, trivial⟩ fun hS => ?_)
                exact v_done (by kernel_rfl) ⟨_, _, _, _, _, _, _, _, _, _, hE.cut ⟨rfl, rfl, trivial⟩, ((((((((((((hp.get 11 rfl).get 11 rfl).get 11 rfl).get 11 rfl).get 11 rfl).get 11 rfl).get 9 rfl).get 9 rfl).get 9 rfl).get 9 rfl).get 11 rfl).get 11 rfl)⟩
      ·
        refine h_op rfl ?_
        refine s_new (wk0 rfl) rfl rfl hE hp rfl [(.slice none 0 0), (.slice none 0 0), (.slice none 0 0), (.slice none 0 0)] (fun w => by simp [Instr.alloc, go_sem] <;> rfl) ?_
        intro a w b12 hE hp
        have hp : Hp Z ρ (Pt b12 (.cells #[(.slice none 0 0), (.slice none 0 0), (.slice none 0 0), (.slice none 0 0)] 60 (0, 0)) :: _ :: _ :: _ :: _ :: _ :: _ :: L) w := hp
        refine s_nil (and_with ⟨fun _ => ⟨_, hp⟩, fun _ => ⟨_, (hp.get 5 rfl)⟩, fun _ => ⟨_, (hp.get 6 rfl)⟩, trivial⟩ fun hS => ?_)
        refine v_all [5, 6] (by kernel_rfl) rfl ?_
        refine List.forall_mem_cons.2 ⟨?_, List.forall_mem_cons.2 ⟨?_, fun _ h => absurd h (by simp)⟩⟩
        ·
          refine h_op rfl ?_
          have hp := hp.emp (OwnSl.nil (α := Int) 3)
          have hp : Hp Z ρ (OwnSl 3 (.slice none 0 0) ([] : List Int) :: _ :: _ :: _ :: _ :: _ :: _ :: _ :: L) w := hp
          have hp := hp.emp (OwnSl.nil (α := ByteArray) 9)
          have hp : Hp Z ρ (OwnSl 9 (.slice none 0 0) ([] : List ByteArray) :: _ :: _ :: _ :: _ :: _ :: _ :: _ :: _ :: L) w := hp
          have hp := hp.emp (OwnSl.nil (α := Int) 3)
          have hp : Hp Z ρ (OwnSl 3 (.slice none 0 0) ([] : List Int) :: _ :: _ :: _ :: _ :: _ :: _ :: _ :: _ :: _ :: L) w := hp
          have hp := hp.emp (OwnSl.nil (α := Int) 3)
          have hp : Hp Z ρ (OwnSl 3 (.slice none 0 0) ([] : List Int) :: _ :: _ :: _ :: _ :: _ :: _ :: _ :: _ :: _ :: _ :: L) w := hp
          refine s_call (wk0 rfl) rfl rfl hE rfl [(.agg #[(.slice none 0 0), (.slice none 0 0), (.slice none 0 0), (.slice none 0 0)]), (.agg #[(.int .i64 p1.kind), (.string p1.text), (.int .i64 p1.at_), (.int .i64 p1.fin), vp1_kids]), (.int .i64 0)] ⟨rfl, rfl, rfl, trivial⟩ ent31 (c_assessorref37_flat (RFlat.mk ([]) ([]) ([]) ([])) (.slice none 0 0) (.slice none 0 0) (.slice none 0 0) (.slice none 0 0) p1 vp1_kids hp1_kids 0 (((hp.get 1 rfl).get 2 rfl).get 3 rfl) x2 ex2) Ret.ret ?_
          intro v a w hR hE
          obtain ⟨vr7_kinds, vr7_texts, vr7_left, vr7_numbers, rfl, hp⟩ := Ret.of hR
          have hp : Hp Z ρ (OwnSl 3 vr7_kinds x2.kinds :: OwnSl 9 vr7_texts x2.texts :: OwnSl 3 vr7_left x2.left :: OwnSl 3 vr7_numbers x2.numbers :: _ :: _ :: _ :: _ :: _ :: _ :: _ :: L) w := hp
          refine s_nil (and_with ⟨fun _ => ⟨_, hp⟩, fun _ => ⟨_, (hp.get 9 rfl)⟩, fun _ => ⟨_, (hp.get 10 rfl)⟩, trivial⟩ fun hS => ?_)
          refine v_all [6] (by kernel_rfl) rfl ?_
          refine List.forall_mem_cons.2 ⟨?_, fun _ h => absurd h (by simp)⟩
          ·
            refine h_op rfl ?_
            refine s_new (wk0 rfl) rfl rfl hE hp rfl [(.slice none 0 0), (.slice none 0 0), (.slice none 0 0), (.slice none 0 0)] (fun w => by simp [Instr.alloc, go_sem] <;> rfl) ?_
            intro a w b13 hE hp
            have hp : Hp Z ρ (Pt b13 (.cells #[(.slice none 0 0), (.slice none 0 0), (.slice none 0 0), (.slice none 0 0)] 60 (0, 0)) :: _ :: _ :: _ :: _ :: _ :: _ :: _ :: _ :: _ :: _ :: _ :: L) w := hp
            refine s_nil (and_with ⟨fun _ => ⟨_, hp⟩, fun _ => ⟨_, (hp.get 10 rfl)⟩, fun _ => ⟨_, (hp.get 11 rfl)⟩, trivial⟩ fun hS => ?_)
            refine v_all [8] (by kernel_rfl) rfl ?_
            refine List.forall_mem_cons.2 ⟨?_, fun _ h => absurd h (by simp)⟩
            ·
              refine h_op rfl ?_
              refine s_store (wk0 rfl) rfl hE hp rfl rfl rfl 0 rfl varty60.size_ rfl (allOne_mem ⟨(OwnSl.one hp 6 rfl), (OwnSl.one hp 7 rfl), (OwnSl.one hp 8 rfl), (OwnSl.one hp 9 rfl), trivial⟩) [vr3_kinds, vr3_texts, vr3_left, vr3_numbers] rfl ?_
              intro w hp
              have hp : Hp Z ρ (Pt b13 (.cells #[vr3_kinds, vr3_texts, vr3_left, vr3_numbers] 60 (0, 0)) :: _ :: _ :: _ :: _ :: _ :: _ :: _ :: _ :: _ :: _ :: _ :: L) w := hp
              refine s_nil (and_with ⟨fun _ => ⟨_, hp⟩, fun _ => ⟨_, (hp.get 10 rfl)⟩, fun _ => ⟨_, (hp.get 11 rfl)⟩, trivial⟩ fun hS => ?_)
              refine v_all [9] (by kernel_rfl) rfl ?_
              refine List.forall_mem_cons.2 ⟨?_, fun _ h => absurd h (by simp)⟩
              ·
                refine h_op rfl ?_
                refine s_store (wk0 rfl) rfl hE hp rfl rfl rfl 5 rfl varty60.size_ rfl (allOne_mem ⟨(OwnSl.one hp 1 rfl), (OwnSl.one hp 2 rfl), (OwnSl.one hp 3 rfl), (OwnSl.one hp 4 rfl), trivial⟩) [vr7_kinds, vr7_texts, vr7_left, vr7_numbers] rfl ?_
                intro w hp
                have hp : Hp Z ρ (_ :: _ :: _ :: _ :: _ :: Pt b12 (.cells #[vr7_kinds, vr7_texts, vr7_left, vr7_numbers] 60 (0, 0)) :: _ :: _ :: _ :: _ :: _ :: _ :: L) w := hp
                refine s_nil (and_with ⟨fun _ => ⟨_, hp⟩, fun _ => ⟨_, (hp.get 10 rfl)⟩, fun _ => ⟨_, (hp.get 11 rfl)⟩, trivial⟩ fun hS => ?_)
                exact v_done (by kernel_rfl) ⟨_, _, _, _, _, _, _, _, _, _, hE.cut ⟨rfl, rfl, trivial⟩, ((((((((((((hp.get 11 rfl).get 11 rfl).get 11 rfl).get 11 rfl).get 11 rfl).get 11 rfl).get 10 rfl).get 10 rfl).get 10 rfl).get 10 rfl).get 10 rfl).get 11 rfl)⟩
        ·
          refine h_op rfl ?_
          refine s_new (wk0 rfl) rfl rfl hE hp rfl [(.slice none 0 0), (.slice none 0 0), (.slice none 0 0), (.slice none 0 0)] (fun w => by simp [Instr.alloc, go_sem] <;> rfl) ?_
          intro a w b14 hE hp
          have hp : Hp Z ρ (Pt b14 (.cells #[(.slice none 0 0), (.slice none 0 0), (.slice none 0 0), (.slice none 0 0)] 60 (0, 0)) :: _ :: _ :: _ :: _ :: _ :: _ :: _ :: L) w := hp
          refine s_nil (and_with ⟨fun _ => ⟨_, hp⟩, fun _ => ⟨_, (hp.get 6 rfl)⟩, fun _ => ⟨_, (hp.get 7 rfl)⟩, trivial⟩ fun hS => ?_)
          refine v_all [5] (by kernel_rfl) rfl ?_
          refine List.forall_mem_cons.2 ⟨?_, fun _ h => absurd h (by simp)⟩
          ·
            refine h_op rfl ?_
            have hp := hp.emp (OwnSl.nil (α := Int) 3)
            have hp : Hp Z ρ (OwnSl 3 (.slice none 0 0) ([] : List Int) :: _ :: _ :: _ :: _ :: _ :: _ :: _ :: _ :: L) w := hp
            have hp := hp.emp (OwnSl.nil (α := ByteArray) 9)
            have hp : Hp Z ρ (OwnSl 9 (.slice none 0 0) ([] : List ByteArray) :: _ :: _ :: _ :: _ :: _ :: _ :: _ :: _ :: _ :: L) w := hp
            have hp := hp.emp (OwnSl.nil (α := Int) 3)
            have hp : Hp Z ρ (OwnSl 3 (.slice none 0 0) ([] : List Int) :: _ :: _ :: _ :: _ :: _ :: _ :: _ :: _ :: _ :: _ :: L) w := hp
            have hp := hp.emp (OwnSl.nil (α := Int) 3)
            have hp : Hp Z ρ (OwnSl 3 (.slice none 0 0) ([] : List Int) :: _ :: _ :: _ :: _ :: _ :: _ :: _ :: _ :: _ :: _ :: _ :: L) w := hp
            refine s_call (wk0 rfl) rfl rfl hE rfl [(.agg #[(.slice none 0 0), (.slice none 0 0), (.slice none 0 0), (.slice none 0 0)]), (.agg #[(.int .i64 p1.kind), (.string p1.text), (.int .i64 p1.at_), (.int .i64 p1.fin), vp1_kids]), (.int .i64 0)] ⟨rfl, rfl, rfl, trivial⟩ ent31 (c_assessorref37_flat (RFlat.mk ([]) ([]) ([]) ([])) (.slice none 0 0) (.slice none 0 0) (.slice none 0 0) (.slice none 0 0) p1 vp1_kids hp1_kids 0 (((hp.get 1 rfl).get 2 rfl).get 3 rfl) x2 ex2) Ret.ret ?_
            intro v a w hR hE
            obtain ⟨vr8_kinds, vr8_texts, vr8_left, vr8_numbers, rfl, hp⟩ := Ret.of hR
            have hp : Hp Z ρ (OwnSl 3 vr8_kinds x2.kinds :: OwnSl 9 vr8_texts x2.texts :: OwnSl 3 vr8_left x2.left :: OwnSl 3 vr8_numbers x2.numbers :: _ :: _ :: _ :: _ :: _ :: _ :: _ :: _ :: L) w := hp
            refine s_nil (and_with ⟨fun _ => ⟨_, hp⟩, fun _ => ⟨_, (hp.get 10 rfl)⟩, fun _ => ⟨_, (hp.get 11 rfl)⟩, trivial⟩ fun hS => ?_)
            refine v_all [8] (by kernel_rfl) rfl ?_
            refine List.forall_mem_cons.2 ⟨?_, fun _ h => absurd h (by simp)⟩
            ·
              refine h_op rfl ?_
              refine s_store (wk0 rfl) rfl hE hp rfl rfl rfl 4 rfl varty60.size_ rfl (allOne_mem ⟨(OwnSl.one hp 6 rfl), (OwnSl.one hp 7 rfl), (OwnSl.one hp 8 rfl), (OwnSl.one hp 9 rfl), trivial⟩) [vr3_kinds, vr3_texts, vr3_left, vr3_numbers] rfl ?_
              intro w hp
              have hp : Hp Z ρ (_ :: _ :: _ :: _ :: Pt b14 (.cells #[vr3_kinds, vr3_texts, vr3_left, vr3_numbers] 60 (0, 0)) :: _ :: _ :: _ :: _ :: _ :: _ :: _ :: L) w := hp
              refine s_nil (and_with ⟨fun _ => ⟨_, hp⟩, fun _ => ⟨_, (hp.get 10 rfl)⟩, fun _ => ⟨_, (hp.get 11 rfl)⟩, trivial⟩ fun hS => ?_)
              refine v_all [9] (by kernel_rfl) rfl ?_
              refine List.forall_mem_cons.2 ⟨?_, fun _ h => absurd h (by simp)⟩
              ·
                refine h_op rfl ?_
                refine s_store (wk0 rfl) rfl hE hp rfl rfl rfl 5 rfl varty60.size_ rfl (allOne_mem ⟨(OwnSl.one hp 0 rfl), (OwnSl.one hp 1 rfl), (OwnSl.one hp 2 rfl), (OwnSl.one hp 3 rfl), trivial⟩) [vr8_kinds, vr8_texts, vr8_left, vr8_numbers] rfl ?_
                intro w hp
                have hp : Hp Z ρ (_ :: _ :: _ :: _ :: _ :: Pt b12 (.cells #[vr8_kinds, vr8_texts, vr8_left, vr8_numbers] 60 (0, 0)) :: _ :: _ :: _ :: _ :: _ :: _ :: L) w := hp
                refine s_nil (and_with ⟨fun _ => ⟨_, hp⟩, fun _ => ⟨_, (hp.get 10 rfl)⟩, fun _ => ⟨_, (hp.get 11 rfl)⟩, trivial⟩ fun hS => ?_)
                exact v_done (by kernel_rfl) ⟨_, _, _, _, _, _, _, _, _, _, hE.cut ⟨rfl, rfl, trivial⟩, ((((((((((((hp.get 11 rfl).get 11 rfl).get 11 rfl).get 11 rfl).get 11 rfl).get 11 rfl).get 9 rfl).get 9 rfl).get 9 rfl).get 9 rfl).get 10 rfl).get 11 rfl)⟩
    ·
      refine h_op rfl ?_
      refine s_new (wk0 rfl) rfl rfl hE hp rfl [(.slice none 0 0), (.slice none 0 0), (.slice none 0 0), (.slice none 0 0)] (fun w => by simp [Instr.alloc, go_sem] <;> rfl) ?_
      intro a w b15 hE hp
      have hp : Hp Z ρ (Pt b15 (.cells #[(.slice none 0 0), (.slice none 0 0), (.slice none 0 0), (.slice none 0 0)] 60 (0, 0)) :: _ :: _ :: L) w := hp
      refine s_nil (and_with ⟨fun _ => ⟨_, hp⟩, fun _ => ⟨_, (hp.get 1 rfl)⟩, fun _ => ⟨_, (hp.get 2 rfl)⟩, trivial⟩ fun hS => ?_)
      refine v_all [2, 7] (by kernel_rfl) rfl ?_
      refine List.forall_mem_cons.2 ⟨?_, List.forall_mem_cons.2 ⟨?_, fun _ h => absurd h (by simp)⟩⟩
      ·
        refine h_op rfl ?_
        have hp := hp.emp (OwnSl.nil (α := Int) 3)
        have hp : Hp Z ρ (OwnSl 3 (.slice none 0 0) ([] : List Int) :: _ :: _ :: _ :: L) w := hp
        have hp := hp.emp (OwnSl.nil (α := ByteArray) 9)
        have hp : Hp Z ρ (OwnSl 9 (.slice none 0 0) ([] : List ByteArray) :: _ :: _ :: _ :: _ :: L) w := hp
        have hp := hp.emp (OwnSl.nil (α := Int) 3)
        have hp : Hp Z ρ (OwnSl 3 (.slice none 0 0) ([] : List Int) :: _ :: _ :: _ :: _ :: _ :: L) w := hp
        have hp := hp.emp (OwnSl.nil (α := Int) 3)
        have hp : Hp Z ρ (OwnSl 3 (.slice none 0 0) ([] : List Int) :: _ :: _ :: _ :: _ :: _ :: _ :: L) w := hp
        refine s_call (wk0 rfl) rfl rfl hE rfl [(.agg #[(.slice none 0 0), (.slice none 0 0), (.slice none 0 0), (.slice none 0 0)]), (.agg #[(.int .i64 p0.kind), (.string p0.text), (.int .i64 p0.at_), (.int .i64 p0.fin), vp0_kids]), (.int .i64 0)] ⟨rfl, rfl, rfl, trivial⟩ ent31 (c_assessorref37_flat (RFlat.mk ([]) ([]) ([]) ([])) (.slice none 0 0) (.slice none 0 0) (.slice none 0 0) (.slice none 0 0) p0 vp0_kids hp0_kids 0 (((hp.get 1 rfl).get 2 rfl).get 3 rfl) x1 ex1) Ret.ret ?_
        intro v a w hR hE
        obtain ⟨vr9_kinds, vr9_texts, vr9_left, vr9_numbers, rfl, hp⟩ := Ret.of hR
        have hp : Hp Z ρ (OwnSl 3 vr9_kinds x1.kinds :: OwnSl 9 vr9_texts x1.texts :: OwnSl 3 vr9_left x1.left :: OwnSl 3 vr9_numbers x1.numbers :: _ :: _ :: _ :: L) w := hp
        refine s_nil (and_with ⟨fun _ => ⟨_, hp⟩, fun _ => ⟨_, (hp.get 5 rfl)⟩, fun _ => ⟨_, (hp.get 6 rfl)⟩, trivial⟩ fun hS => ?_)
        refine v_all [5, 7] (by kernel_rfl) rfl ?_
        refine List.forall_mem_cons.2 ⟨?_, List.forall_mem_cons.2 ⟨?_, fun _ h => absurd h (by simp)⟩⟩
        ·
          refine h_op rfl ?_
          have hp := hp.emp (OwnSl.nil (α := Int) 3)
          have hp : Hp Z ρ (OwnSl 3 (.slice none 0 0) ([] : List Int) :: _ :: _ :: _ :: _ :: _ :: _ :: _ :: L) w := hp
          have hp := hp.emp (OwnSl.nil (α := ByteArray) 9)
          have hp : Hp Z ρ (OwnSl 9 (.slice none 0 0) ([] : List ByteArray) :: _ :: _ :: _ :: _ :: _ :: _ :: _ :: _ :: L) w := hp
          have hp := hp.emp (OwnSl.nil (α := Int) 3)
          have hp : Hp Z ρ (OwnSl 3 (.slice none 0 0) ([] : List Int) :: _ :: _ :: _ :: _ :: _ :: _ :: _ :: _ :: _ :: L) w := hp
          have hp := hp.emp (OwnSl.nil (α := Int) 3)
          have hp : Hp Z ρ (OwnSl 3 (.slice none 0 0) ([] : List Int) :: _ :: _ :: _ :: _ :: _ :: _ :: _ :: _ :: _ :: _ :: L) w := hp
          refine s_call (wk0 rfl) rfl rfl hE rfl [(.agg #[(.slice none 0 0), (.slice none 0 0), (.slice none 0 0), (.slice none 0 0)]), (.agg #[(.int .i64 p1.kind), (.string p1.text), (.int .i64 p1.at_), (.int .i64 p1.fin), vp1_kids]), (.int .i64 0)] ⟨rfl, rfl, rfl, trivial⟩ ent31 (c_assessorref37_flat (RFlat.mk ([]) ([]) ([]) ([])) (.slice none 0 0) (.slice none 0 0) (.slice none 0 0) (.slice none 0 0) p1 vp1_kids hp1_kids 0 (((hp.get 1 rfl).get 2 rfl).get 3 rfl) x2 ex2) Ret.ret ?_
          intro v a w hR hE
          obtain ⟨vr10_kinds, vr10_texts, vr10_left, vr10_numbers, rfl, hp⟩ := Ret.of hR
          have hp : Hp Z ρ (OwnSl 3 vr10_kinds x2.kinds :: OwnSl 9 vr10_texts x2.texts :: OwnSl 3 vr10_left x2.left :: OwnSl 3 vr10_numbers x2.numbers :: _ :: _ :: _ :: _ :: _ :: _ :: _ :: L) w := hp
          refine s_nil (and_with ⟨fun _ => ⟨_, hp⟩, fun _ => ⟨_, (hp.get 9 rfl)⟩, fun _ => ⟨_, (hp.get 10 rfl)⟩, trivial⟩ fun hS => ?_)
          refine v_all [7] (by kernel_rfl) rfl ?_
          refine List.forall_mem_cons.2 ⟨?_, fun _ h => absurd h (by simp)⟩
          ·
            refine h_op rfl ?_
            refine s_new (wk0 rfl) rfl rfl hE hp rfl [(.slice none 0 0), (.slice none 0 0), (.slice none 0 0), (.slice none 0 0)] (fun w => by simp [Instr.alloc, go_sem] <;> rfl) ?_
            intro a w b16 hE hp
            have hp : Hp Z ρ (Pt b16 (.cells #[(.slice none 0 0), (.slice none 0 0), (.slice none 0 0), (.slice none 0 0)] 60 (0, 0)) :: _ :: _ :: _ :: _ :: _ :: _ :: _ :: _ :: _ :: _ :: _ :: L) w := hp
            refine s_nil (and_with ⟨fun _ => ⟨_, hp⟩, fun _ => ⟨_, (hp.get 10 rfl)⟩, fun _ => ⟨_, (hp.get 11 rfl)⟩, trivial⟩ fun hS => ?_)
            refine v_all [8] (by kernel_rfl) rfl ?_
            refine List.forall_mem_cons.2 ⟨?_, fun _ h => absurd h (by simp)⟩
            ·
              refine h_op rfl ?_
              refine s_store (wk0 rfl) rfl hE hp rfl rfl rfl 9 rfl varty60.size_ rfl (allOne_mem ⟨(OwnSl.one hp 5 rfl), (OwnSl.one hp 6 rfl), (OwnSl.one hp 7 rfl), (OwnSl.one hp 8 rfl), trivial⟩) [vr9_kinds, vr9_texts, vr9_left, vr9_numbers] rfl ?_
              intro w hp
              have hp : Hp Z ρ (_ :: _ :: _ :: _ :: _ :: _ :: _ :: _ :: _ :: Pt b15 (.cells #[vr9_kinds, vr9_texts, vr9_left, vr9_numbers] 60 (0, 0)) :: _ :: _ :: L) w := hp
              refine s_nil (and_with ⟨fun _ => ⟨_, hp⟩, fun _ => ⟨_, (hp.get 10 rfl)⟩, fun _ => ⟨_, (hp.get 11 rfl)⟩, trivial⟩ fun hS => ?_)
              refine v_all [9] (by kernel_rfl) rfl ?_
              refine List.forall_mem_cons.2 ⟨?_, fun _ h => absurd h (by simp)⟩
              ·
                refine h_op rfl ?_
                refine s_store (wk0 rfl) rfl hE hp rfl rfl rfl 0 rfl varty60.size_ rfl (allOne_mem ⟨(OwnSl.one hp 1 rfl), (OwnSl.one hp 2 rfl), (OwnSl.one hp 3 rfl), (OwnSl.one hp 4 rfl), trivial⟩) [vr10_kinds, vr10_texts, vr10_left, vr10_numbers] rfl ?_
                intro w hp
                have hp : Hp Z ρ (Pt b16 (.cells #[vr10_kinds, vr10_texts, vr10_left, vr10_numbers] 60 (0, 0)) :: _ :: _ :: _ :: _ :: _ :: _ :: _ :: _ :: _ :: _ :: _ :: L) w := hp
                refine s_nil (and_with ⟨fun _ => ⟨_, hp⟩, fun _ => ⟨_, (hp.get 10 rfl)⟩, fun _ => ⟨_, (hp.get 11 rfl)⟩, trivial⟩ fun hS => ?_)
                exact v_done (by kernel_rfl) ⟨_, _, _, _, _, _, _, _, _, _, hE.cut ⟨rfl, rfl, trivial⟩, ((((((((((((hp.get 11 rfl).get 11 rfl).get 10 rfl).get 10 rfl).get 10 rfl).get 10 rfl).get 10 rfl).get 10 rfl).get 10 rfl).get 10 rfl).get 11 rfl).get 11 rfl)⟩
        ·
          refine h_op rfl ?_
          refine s_new (wk0 rfl) rfl rfl hE hp rfl [(.slice none 0 0), (.slice none 0 0), (.slice none 0 0), (.slice none 0 0)] (fun w => by simp [Instr.alloc, go_sem] <;> rfl) ?_
          intro a w b17 hE hp
          have hp : Hp Z ρ (Pt b17 (.cells #[(.slice none 0 0), (.slice none 0 0), (.slice none 0 0), (.slice none 0 0)] 60 (0, 0)) :: _ :: _ :: _ :: _ :: _ :: _ :: _ :: L) w := hp
          refine s_nil (and_with ⟨fun _ => ⟨_, hp⟩, fun _ => ⟨_, (hp.get 6 rfl)⟩, fun _ => ⟨_, (hp.get 7 rfl)⟩, trivial⟩ fun hS => ?_)
          refine v_all [5] (by kernel_rfl) rfl ?_
          refine List.forall_mem_cons.2 ⟨?_, fun _ h => absurd h (by simp)⟩
          ·
            refine h_op rfl ?_
            have hp := hp.emp (OwnSl.nil (α := Int) 3)
            have hp : Hp Z ρ (OwnSl 3 (.slice none 0 0) ([] : List Int) :: _ :: _ :: _ :: _ :: _ :: _ :: _ :: _ :: L) w := hp
            have hp := hp.emp (OwnSl.nil (α := ByteArray) 9)
            have hp : Hp Z ρ (OwnSl 9 (.slice none 0 0) ([] : List ByteArray) :: _ :: _ :: _ :: _ :: _ :: _ :: _ :: _ :: _ :: L) w := hp
            have hp := hp.emp (OwnSl.nil (α := Int) 3)
            have hp : Hp Z ρ (OwnSl 3 (.slice none 0 0) ([] : List Int) :: _ :: _ :: _ :: _ :: _ :: _ :: _ :: _ :: _ :: _ :: L) w := hp
            have hp := hp.emp (OwnSl.nil (α := Int) 3)
            have hp : Hp Z ρ (OwnSl 3 (.slice none 0 0) ([] : List Int) :: _ :: _ :: _ :: _ :: _ :: _ :: _ :: _ :: _ :: _ :: _ :: L) w := hp
            refine s_call (wk0 rfl) rfl rfl hE rfl [(.agg #[(.slice none 0 0), (.slice none 0 0), (.slice none 0 0), (.slice none 0 0)]), (.agg #[(.int .i64 p1.kind), (.string p1.text), (.int .i64 p1.at_), (.int .i64 p1.fin), vp1_kids]), (.int .i64 0)] ⟨rfl, rfl, rfl, trivial⟩ ent31 (c_assessorref37_flat (RFlat.mk ([]) ([]) ([]) ([])) (.slice none 0 0) (.slice none 0 0) (.slice none 0 0) (.slice none 0 0) p1 vp1_kids hp1_kids 0 (((hp.get 1 rfl).get 2 rfl).get 3 rfl) x2 ex2) Ret.ret ?_
            intro v a w hR hE
            obtain ⟨vr11_kinds, vr11_texts, vr11_left, vr11_numbers, rfl, hp⟩ := Ret.of hR
            have hp : Hp Z ρ (OwnSl 3 vr11_kinds x2.kinds :: OwnSl 9 vr11_texts x2.texts :: OwnSl 3 vr11_left x2.left :: OwnSl 3 vr11_numbers x2.numbers :: _ :: _ :: _ :: _ :: _ :: _ :: _ :: _ :: L) w := hp
            refine s_nil (and_with ⟨fun _ => ⟨_, hp⟩, fun _ => ⟨_, (hp.get 10 rfl)⟩, fun _ => ⟨_, (hp.get 11 rfl)⟩, trivial⟩ fun hS => ?_)
            refine v_all [8] (by kernel_rfl) rfl ?_
            refine List.forall_mem_cons.2 ⟨?_, fun _ h => absurd h (by simp)⟩
            ·
              refine h_op rfl ?_
              refine s_store (wk0 rfl) rfl hE hp rfl rfl rfl 9 rfl varty60.size_ rfl (allOne_mem ⟨(OwnSl.one hp 5 rfl), (OwnSl.one hp 6 rfl), (OwnSl.one hp 7 rfl), (OwnSl.one hp 8 rfl), trivial⟩) [vr9_kinds, vr9_texts, vr9_left, vr9_numbers] rfl ?_
              intro w hp
              have hp : Hp Z ρ (_ :: _ :: _ :: _ :: _ :: _ :: _ :: _ :: _ :: Pt b15 (.cells #[vr9_kinds, vr9_texts, vr9_left, vr9_numbers] 60 (0, 0)) :: _ :: _ :: L) w := hp
              refine s_nil (and_with ⟨fun _ => ⟨_, hp⟩, fun _ => ⟨_, (hp.get 10 rfl)⟩, fun _ => ⟨_, (hp.get 11 rfl)⟩, trivial⟩ fun hS => ?_)
              refine v_all [9] (by kernel_rfl) rfl ?_
              refine List.forall_mem_cons.2 ⟨?_, fun _ h => absurd h (by simp)⟩
              ·
                refine h_op rfl ?_
                refine s_store (wk0 rfl) rfl hE hp rfl rfl rfl 4 rfl varty60.size_ rfl (allOne_mem ⟨(OwnSl.one hp 0 rfl), (OwnSl.one hp 1 rfl), (OwnSl.one hp 2 rfl), (OwnSl.one hp 3 rfl), trivial⟩) [vr11_kinds, vr11_texts, vr11_left, vr11_numbers] rfl ?_
                intro w hp
                have hp : Hp Z ρ (_ :: _ :: _ :: _ :: Pt b17 (.cells #[vr11_kinds, vr11_texts, vr11_left, vr11_numbers] 60 (0, 0)) :: _ :: _ :: _ :: _ :: _ :: _ :: _ :: L) w := hp
                refine s_nil (and_with ⟨fun _ => ⟨_, hp⟩, fun _ => ⟨_, (hp.get 10 rfl)⟩, fun _ => ⟨_, (hp.get 11 rfl)⟩, trivial⟩ fun hS => ?_)
                exact v_done (by kernel_rfl) ⟨_, _, _, _, _, _, _, _, _, _, hE.cut ⟨rfl, rfl, trivial⟩, ((((((((((((hp.get 11 rfl).get 11 rfl).get 10 rfl).get 10 rfl).get 10 rfl).get 10 rfl).get 9 rfl).get 9 rfl).get 9 rfl).get 9 rfl).get 11 rfl).get 11 rfl)⟩
      ·
        refine h_op rfl ?_
        refine s_new (wk0 rfl) rfl rfl hE hp rfl [(.slice none 0 0), (.slice none 0 0), (.slice none 0 0), (.slice none 0 0)] (fun w => by simp [Instr.alloc, go_sem] <;> rfl) ?_
        intro a w b18 hE hp
        have hp : Hp Z ρ (Pt b18 (.cells #[(.slice none 0 0), (.slice none 0 0), (.slice none 0 0), (.slice none 0 0)] 60 (0, 0)) :: _ :: _ :: _ :: L) w := hp
        refine s_nil (and_with ⟨fun _ => ⟨_, hp⟩, fun _ => ⟨_, (hp.get 2 rfl)⟩, fun _ => ⟨_, (hp.get 3 rfl)⟩, trivial⟩ fun hS => ?_)
        refine v_all [2] (by kernel_rfl) rfl ?_
        refine List.forall_mem_cons.2 ⟨?_, fun _ h => absurd h (by simp)⟩
        ·
          refine h_op rfl ?_
          have hp := hp.emp (OwnSl.nil (α := Int) 3)
          have hp : Hp Z ρ (OwnSl 3 (.slice none 0 0) ([] : List Int) :: _ :: _ :: _ :: _ :: L) w := hp
          have hp := hp.emp (OwnSl.nil (α := ByteArray) 9)
          have hp : Hp Z ρ (OwnSl 9 (.slice none 0 0) ([] : List ByteArray) :: _ :: _ :: _ :: _ :: _ :: L) w := hp
          have hp := hp.emp (OwnSl.nil (α := Int) 3)
          have hp : Hp Z ρ (OwnSl 3 (.slice none 0 0) ([] : List Int) :: _ :: _ :: _ :: _ :: _ :: _ :: L) w := hp
          have hp := hp.emp (OwnSl.nil (α := Int) 3)
          have hp : Hp Z ρ (OwnSl 3 (.slice none 0 0) ([] : List Int) :: _ :: _ :: _ :: _ :: _ :: _ :: _ :: L) w := hp
          refine s_call (wk0 rfl) rfl rfl hE rfl [(.agg #[(.slice none 0 0), (.slice none 0 0), (.slice none 0 0), (.slice none 0 0)]), (.agg #[(.int .i64 p0.kind), (.string p0.text), (.int .i64 p0.at_), (.int .i64 p0.fin), vp0_kids]), (.int .i64 0)] ⟨rfl, rfl, rfl, trivial⟩ ent31 (c_assessorref37_flat (RFlat.mk ([]) ([]) ([]) ([])) (.slice none 0 0) (.slice none 0 0) (.slice none 0 0) (.slice none 0 0) p0 vp0_kids hp0_kids 0 (((hp.get 1 rfl).get 2 rfl).get 3 rfl) x1 ex1) Ret.ret ?_
          intro v a w hR hE
          obtain ⟨vr12_kinds, vr12_texts, vr12_left, vr12_numbers, rfl, hp⟩ := Ret.of hR
          have hp : Hp Z ρ (OwnSl 3 vr12_kinds x1.kinds :: OwnSl 9 vr12_texts x1.texts :: OwnSl 3 vr12_left x1.left :: OwnSl 3 vr12_numbers x1.numbers :: _ :: _ :: _ :: _ :: L) w := hp
          refine s_nil (and_with ⟨fun _ => ⟨_, hp⟩, fun _ => ⟨_, (hp.get 6 rfl)⟩, fun _ => ⟨_, (hp.get 7 rfl)⟩, trivial⟩ fun hS => ?_)
          refine v_all [5] (by kernel_rfl) rfl ?_
          refine List.forall_mem_cons.2 ⟨?_, fun _ h => absurd h (by simp)⟩
          ·
            refine h_op rfl ?_
            have hp := hp.emp (OwnSl.nil (α := Int) 3)
            have hp : Hp Z ρ (OwnSl 3 (.slice none 0 0) ([] : List Int) :: _ :: _ :: _ :: _ :: _ :: _ :: _ :: _ :: L) w := hp
            have hp := hp.emp (OwnSl.nil (α := ByteArray) 9)
            have hp : Hp Z ρ (OwnSl 9 (.slice none 0 0) ([] : List ByteArray) :: _ :: _ :: _ :: _ :: _ :: _ :: _ :: _ :: _ :: L) w := hp
            have hp := hp.emp (OwnSl.nil (α := Int) 3)
            have hp : Hp Z ρ (OwnSl 3 (.slice none 0 0) ([] : List Int) :: _ :: _ :: _ :: _ :: _ :: _ :: _ :: _ :: _ :: _ :: L) w := hp
            have hp := hp.emp (OwnSl.nil (α := Int) 3)
            have hp : Hp Z ρ (OwnSl 3 (.slice none 0 0) ([] : List Int) :: _ :: _ :: _ :: _ :: _ :: _ :: _ :: _ :: _ :: _ :: _ :: L) w := hp
            refine s_call (wk0 rfl) rfl rfl hE rfl [(.agg #[(.slice none 0 0), (.slice none 0 0), (.slice none 0 0), (.slice none 0 0)]), (.agg #[(.int .i64 p1.kind), (.string p1.text), (.int .i64 p1.at_), (.int .i64 p1.fin), vp1_kids]), (.int .i64 0)] ⟨rfl, rfl, rfl, trivial⟩ ent31 (c_assessorref37_flat (RFlat.mk ([]) ([]) ([]) ([])) (.slice none 0 0) (.slice none 0 0) (.slice none 0 0) (.slice none 0 0) p1 vp1_kids hp1_kids 0 (((hp.get 1 rfl).get 2 rfl).get 3 rfl) x2 ex2) Ret.ret ?_
            intro v a w hR hE
            obtain ⟨vr13_kinds, vr13_texts, vr13_left, vr13_numbers, rfl, hp⟩ := Ret.of hR
            have hp : Hp Z ρ (OwnSl 3 vr13_kinds x2.kinds :: OwnSl 9 vr13_texts x2.texts :: OwnSl 3 vr13_left x2.left :: OwnSl 3 vr13_numbers x2.numbers :: _ :: _ :: _ :: _ :: _ :: _ :: _ :: _ :: L) w := hp
            refine s_nil (and_with ⟨fun _ => ⟨_, hp⟩, fun _ => ⟨_, (hp.get 10 rfl)⟩, fun _ => ⟨_, (hp.get 11 rfl)⟩, trivial⟩ fun hS => ?_)
            refine v_all [8] (by kernel_rfl) rfl ?_
            refine List.forall_mem_cons.2 ⟨?_, fun _ h => absurd h (by simp)⟩
            ·
              refine h_op rfl ?_
              refine s_store (wk0 rfl) rfl hE hp rfl rfl rfl 9 rfl varty60.size_ rfl (allOne_mem ⟨(OwnSl.one hp 4 rfl), (OwnSl.one hp 5 rfl), (OwnSl.one hp 6 rfl), (OwnSl.one hp 7 rfl), trivial⟩) [vr12_kinds, vr12_texts, vr12_left, vr12_numbers] rfl ?_
              intro w hp
              have hp : Hp Z ρ (_ :: _ :: _ :: _ :: _ :: _ :: _ :: _ :: _ :: Pt b15 (.cells #[vr12_kinds, vr12_texts, vr12_left, vr12_numbers] 60 (0, 0)) :: _ :: _ :: L) w := hp
              refine s_nil (and_with ⟨fun _ => ⟨_, hp⟩, fun _ => ⟨_, (hp.get 10 rfl)⟩, fun _ => ⟨_, (hp.get 11 rfl)⟩, trivial⟩ fun hS => ?_)
              refine v_all [9] (by kernel_rfl) rfl ?_
              refine List.forall_mem_cons.2 ⟨?_, fun _ h => absurd h (by simp)⟩
              ·
                refine h_op rfl ?_
                refine s_store (wk0 rfl) rfl hE hp rfl rfl rfl 8 rfl varty60.size_ rfl (allOne_mem ⟨(OwnSl.one hp 0 rfl), (OwnSl.one hp 1 rfl), (OwnSl.one hp 2 rfl), (OwnSl.one hp 3 rfl), trivial⟩) [vr13_kinds, vr13_texts, vr13_left, vr13_numbers] rfl ?_
                intro w hp
                have hp : Hp Z ρ (_ :: _ :: _ :: _ :: _ :: _ :: _ :: _ :: Pt b18 (.cells #[vr13_kinds, vr13_texts, vr13_left, vr13_numbers] 60 (0, 0)) :: _ :: _ :: _ :: L) w := hp
                refine s_nil (and_with ⟨fun _ => ⟨_, hp⟩, fun _ => ⟨_, (hp.get 10 rfl)⟩, fun _ => ⟨_, (hp.get 11 rfl)⟩, trivial⟩ fun hS => ?_)
                exact v_done (by kernel_rfl) ⟨_, _, _, _, _, _, _, _, _, _, hE.cut ⟨rfl, rfl, trivial⟩, ((((((((((((hp.get 11 rfl).get 11 rfl).get 9 rfl).get 9 rfl).get 9 rfl).get 9 rfl).get 9 rfl).get 9 rfl).get 9 rfl).get 9 rfl).get 11 rfl).get 11 rfl)⟩
    ·
      refine h_op rfl ?_
      refine s_new (wk0 rfl) rfl rfl hE hp rfl [(.slice none 0 0), (.slice none 0 0), (.slice none 0 0), (.slice none 0 0)] (fun w => by simp [Instr.alloc, go_sem] <;> rfl) ?_
      intro a w b19 hE hp
      have hp : Hp Z ρ (Pt b19 (.cells #[(.slice none 0 0), (.slice none 0 0), (.slice none 0 0), (.slice none 0 0)] 60 (0, 0)) :: _ :: _ :: L) w := hp
      refine s_nil (and_with ⟨fun _ => ⟨_, hp⟩, fun _ => ⟨_, (hp.get 1 rfl)⟩, fun _ => ⟨_, (hp.get 2 rfl)⟩, trivial⟩ fun hS => ?_)
      refine v_all [2, 6] (by kernel_rfl) rfl ?_
      refine List.forall_mem_cons.2 ⟨?_, List.forall_mem_cons.2 ⟨?_, fun _ h => absurd h (by simp)⟩⟩
      ·
        refine h_op rfl ?_
        have hp := hp.emp (OwnSl.nil (α := Int) 3)
        have hp : Hp Z ρ (OwnSl 3 (.slice none 0 0) ([] : List Int) :: _ :: _ :: _ :: L) w := hp
        have hp := hp.emp (OwnSl.nil (α := ByteArray) 9)
        have hp : Hp Z ρ (OwnSl 9 (.slice none 0 0) ([] : List ByteArray) :: _ :: _ :: _ :: _ :: L) w := hp
        have hp := hp.emp (OwnSl.nil (α := Int) 3)
        have hp : Hp Z ρ (OwnSl 3 (.slice none 0 0) ([] : List Int) :: _ :: _ :: _ :: _ :: _ :: L) w := hp
        have hp := hp.emp (OwnSl.nil (α := Int) 3)
        have hp : Hp Z ρ (OwnSl 3 (.slice none 0 0) ([] : List Int) :: _ :: _ :: _ :: _ :: _ :: _ :: L) w := hp
        refine s_call (wk0 rfl) rfl rfl hE rfl [(.agg #[(.slice none 0 0), (.slice none 0 0), (.slice none 0 0), (.slice none 0 0)]), (.agg #[(.int .i64 p0.kind), (.string p0.text), (.int .i64 p0.at_), (.int .i64 p0.fin), vp0_kids]), (.int .i64 0)] ⟨rfl, rfl, rfl, trivial⟩ ent31 (c_assessorref37_flat (RFlat.mk ([]) ([]) ([]) ([])) (.slice none 0 0) (.slice none 0 0) (.slice none 0 0) (.slice none 0 0) p0 vp0_kids hp0_kids 0 (((hp.get 1 rfl).get 2 rfl).get 3 rfl) x1 ex1) Ret.ret ?_
        intro v a w hR hE
        obtain ⟨vr14_kinds, vr14_texts, vr14_left, vr14_numbers, rfl, hp⟩ := Ret.of hR
        have hp : Hp Z ρ (OwnSl 3 vr14_kinds x1.kinds :: OwnSl 9 vr14_texts x1.texts :: OwnSl 3 vr14_left x1.left :: OwnSl 3 vr14_numbers x1.numbers :: _ :: _ :: _ :: L) w := hp
        refine s_nil (and_with ⟨fun _ => ⟨_, hp⟩, fun _ => ⟨_, (hp.get 5 rfl)⟩, fun _ => ⟨_, (hp.get 6 rfl)⟩, trivial⟩ fun hS => ?_)
        refine v_all [5, 6] (by kernel_rfl) rfl ?_
        refine List.forall_mem_cons.2 ⟨?_, List.forall_mem_cons.2 ⟨?_, fun _ h => absurd h (by simp)⟩⟩
        ·
          refine h_op rfl ?_
          have hp := hp.emp (OwnSl.nil (α := Int) 3)
          have hp : Hp Z ρ (OwnSl 3 (.slice none 0 0) ([] : List Int) :: _ :: _ :: _ :: _ :: _ :: _ :: _ :: L) w := hp
          have hp := hp.emp (OwnSl.nil (α := ByteArray) 9)
          have hp : Hp Z ρ (OwnSl 9 (.slice none 0 0) ([] : List ByteArray) :: _ :: _ :: _ :: _ :: _ :: _ :: _ :: _ :: L) w := hp
          have hp := hp.emp (OwnSl.nil (α := Int) 3)
          have hp : Hp Z ρ (OwnSl 3 (.slice none 0 0) ([] : List Int) :: _ :: _ :: _ :: _ :: _ :: _ :: _ :: _ :: _ :: L) w := hp
          have hp := hp.emp (OwnSl.nil (α := Int) 3)
          have hp : Hp Z ρ (OwnSl 3 (.slice none 0 0) ([] : List Int) :: _ :: _ :: _ :: _ :: _ :: _ :: _ :: _ :: _ :: _ :: L) w := hp
          refine s_call (wk0 rfl) rfl rfl hE rfl [(.agg #[(.slice none 0 0), (.slice none 0 0), (.slice none 0 0), (.slice none 0 0)]), (.agg #[(.int .i64 p1.kind), (.string p1.text), (.int .i64 p1.at_), (.int .i64 p1.fin), vp1_kids]), (.int .i64 0)] ⟨rfl, rfl, rfl, trivial⟩ ent31 (c_assessorref37_flat (RFlat.mk ([]) ([]) ([]) ([])) (.slice none 0 0) (.slice none 0 0) (.slice none 0 0) (.slice none 0 0) p1 vp1_kids hp1_kids 0 (((hp.get 1 rfl).get 2 rfl).get 3 rfl) x2 ex2) Ret.ret ?_
          intro v a w hR hE
          obtain ⟨vr15_kinds, vr15_texts, vr15_left, vr15_numbers, rfl, hp⟩ := Ret.of hR
          have hp : Hp Z ρ (OwnSl 3 vr15_kinds x2.kinds :: OwnSl 9 vr15_texts x2.texts :: OwnSl 3 vr15_left x2.left :: OwnSl 3 vr15_numbers x2.numbers :: _ :: _ :: _ :: _ :: _ :: _ :: _ :: L) w := hp
          refine s_nil (and_with ⟨fun _ => ⟨_, hp⟩, fun _ => ⟨_, (hp.get 9 rfl)⟩, fun _ => ⟨_, (hp.get 10 rfl)⟩, trivial⟩ fun hS => ?_)
          refine v_all [6] (by kernel_rfl) rfl ?_
          refine List.forall_mem_cons.2 ⟨?_, fun _ h => absurd h (by simp)⟩
          ·
            refine h_op rfl ?_
            refine s_new (wk0 rfl) rfl rfl hE hp rfl [(.slice none 0 0), (.slice none 0 0), (.slice none 0 0), (.slice none 0 0)] (fun w => by simp [Instr.alloc, go_sem] <;> rfl) ?_
            intro a w b20 hE hp
            have hp : Hp Z ρ (Pt b20 (.cells #[(.slice none 0 0), (.slice none 0 0), (.slice none 0 0), (.slice none 0 0)] 60 (0, 0)) :: _ :: _ :: _ :: _ :: _ :: _ :: _ :: _ :: _ :: _ :: _ :: L) w := hp
            refine s_nil (and_with ⟨fun _ => ⟨_, hp⟩, fun _ => ⟨_, (hp.get 10 rfl)⟩, fun _ => ⟨_, (hp.get 11 rfl)⟩, trivial⟩ fun hS => ?_)
            refine v_all [8] (by kernel_rfl) rfl ?_
            refine List.forall_mem_cons.2 ⟨?_, fun _ h => absurd h (by simp)⟩
            ·
              refine h_op rfl ?_
              refine s_store (wk0 rfl) rfl hE hp rfl rfl rfl 0 rfl varty60.size_ rfl (allOne_mem ⟨(OwnSl.one hp 5 rfl), (OwnSl.one hp 6 rfl), (OwnSl.one hp 7 rfl), (OwnSl.one hp 8 rfl), trivial⟩) [vr14_kinds, vr14_texts, vr14_left, vr14_numbers] rfl ?_
              intro w hp
              have hp : Hp Z ρ (Pt b20 (.cells #[vr14_kinds, vr14_texts, vr14_left, vr14_numbers] 60 (0, 0)) :: _ :: _ :: _ :: _ :: _ :: _ :: _ :: _ :: _ :: _ :: _ :: L) w := hp
              refine s_nil (and_with ⟨fun _ => ⟨_, hp⟩, fun _ => ⟨_, (hp.get 10 rfl)⟩, fun _ => ⟨_, (hp.get 11 rfl)⟩, trivial⟩ fun hS => ?_)
              refine v_all [9] (by kernel_rfl) rfl ?_
              refine List.forall_mem_cons.2 ⟨?_, fun _ h => absurd h (by simp)⟩
              ·
                refine h_op rfl ?_
                refine s_store (wk0 rfl) rfl hE hp rfl rfl rfl 9 rfl varty60.size_ rfl (allOne_mem ⟨(OwnSl.one hp 1 rfl), (OwnSl.one hp 2 rfl), (OwnSl.one hp 3 rfl), (OwnSl.one hp 4 rfl), trivial⟩) [vr15_kinds, vr15_texts, vr15_left, vr15_numbers] rfl ?_
                intro w hp
                have hp : Hp Z ρ (_ :: _ :: _ :: _ :: _ :: _ :: _ :: _ :: _ :: Pt b19 (.cells #[vr15_kinds, vr15_texts, vr15_left, vr15_numbers] 60 (0, 0)) :: _ :: _ :: L) w := hp
                refine s_nil (and_with ⟨fun _ => ⟨_, hp⟩, fun _ => ⟨_, (hp.get 10 rfl)⟩, fun _ => ⟨_, (hp.get 11 rfl)⟩, trivial⟩ fun hS => ?_)
                exact v_done (by kernel_rfl) ⟨_, _, _, _, _, _, _, _, _, _, hE.cut ⟨rfl, rfl, trivial⟩, ((((((((((((hp.get 11 rfl).get 11 rfl).get 10 rfl).get 10 rfl).get 10 rfl).get 10 rfl).get 10 rfl).get 10 rfl).get 10 rfl).get 10 rfl).get 10 rfl).get 11 rfl)⟩
        ·
          refine h_op rfl ?_
          refine s_new (wk0 rfl) rfl rfl hE hp rfl [(.slice none 0 0), (.slice none 0 0), (.slice none 0 0), (.slice none 0 0)] (fun w => by simp [Instr.alloc, go_sem] <;> rfl) ?_
          intro a w b21 hE hp
          have hp : Hp Z ρ (Pt b21 (.cells #[(.slice none 0 0), (.slice none 0 0), (.slice none 0 0), (.slice none 0 0)] 60 (0, 0)) :: _ :: _ :: _ :: _ :: _ :: _ :: _ :: L) w := hp
          refine s_nil (and_with ⟨fun _ => ⟨_, hp⟩, fun _ => ⟨_, (hp.get 6 rfl)⟩, fun _ => ⟨_, (hp.get 7 rfl)⟩, trivial⟩ fun hS => ?_)
          refine v_all [5] (by kernel_rfl) rfl ?_
          refine List.forall_mem_cons.2 ⟨?_, fun _ h => absurd h (by simp)⟩
          ·
            refine h_op rfl ?_
            have hp := hp.emp (OwnSl.nil (α := Int) 3)
            have hp : Hp Z ρ (OwnSl 3 (.slice none 0 0) ([] : List Int) :: _ :: _ :: _ :: _ :: _ :: _ :: _ :: _ :: L) w := hp
            have hp := hp.emp (OwnSl.nil (α := ByteArray) 9)
            have hp : Hp Z ρ (OwnSl 9 (.slice none 0 0) ([] : List ByteArray) :: _ :: _ :: _ :: _ :: _ :: _ :: _ :: _ :: _ :: L) w := hp
            have hp := hp.emp (OwnSl.nil (α := Int) 3)
            have hp : Hp Z ρ (OwnSl 3 (.slice none 0 0) ([] : List Int) :: _ :: _ :: _ :: _ :: _ :: _ :: _ :: _ :: _ :: _ :: L) w := hp
            have hp := hp.emp (OwnSl.nil (α := Int) 3)
            have hp : Hp Z ρ (OwnSl 3 (.slice none 0 0) ([] : List Int) :: _ :: _ :: _ :: _ :: _ :: _ :: _ :: _ :: _ :: _ :: _ :: L) w := hp
            refine s_call (wk0 rfl) rfl rfl hE rfl [(.agg #[(.slice none 0 0), (.slice none 0 0), (.slice none 0 0), (.slice none 0 0)]), (.agg #[(.int .i64 p1.kind), (.string p1.text), (.int .i64 p1.at_), (.int .i64 p1.fin), vp1_kids]), (.int .i64 0)] ⟨rfl, rfl, rfl, trivial⟩ ent31 (c_assessorref37_flat (RFlat.mk ([]) ([]) ([]) ([])) (.slice none 0 0) (.slice none 0 0) (.slice none 0 0) (.slice none 0 0) p1 vp1_kids hp1_kids 0 (((hp.get 1 rfl).get 2 rfl).get 3 rfl) x2 ex2) Ret.ret ?_
            intro v a w hR hE
            obtain ⟨vr16_kinds, vr16_texts, vr16_left, vr16_numbers, rfl, hp⟩ := Ret.of hR
            have hp : Hp Z ρ (OwnSl 3 vr16_kinds x2.kinds :: OwnSl 9 vr16_texts x2.texts :: OwnSl 3 vr16_left x2.left :: OwnSl 3 vr16_numbers x2.numbers :: _ :: _ :: _ :: _ :: _ :: _ :: _ :: _ :: L) w := hp
            refine s_nil (and_with ⟨fun _ => ⟨_, hp⟩, fun _ => ⟨_, (hp.get 10 rfl)⟩, fun _ => ⟨_, (hp.get 11 rfl)⟩, trivial⟩ fun hS => ?_)
            refine v_all [8] (by kernel_rfl) rfl ?_
            refine List.forall_mem_cons.2 ⟨?_, fun _ h => absurd h (by simp)⟩
            ·
              refine h_op rfl ?_
              refine s_store (wk0 rfl) rfl hE hp rfl rfl rfl 4 rfl varty60.size_ rfl (allOne_mem ⟨(OwnSl.one hp 5 rfl), (OwnSl.one hp 6 rfl), (OwnSl.one hp 7 rfl), (OwnSl.one hp 8 rfl), trivial⟩) [vr14_kinds, vr14_texts, vr14_left, vr14_numbers] rfl ?_
              intro w hp
              have hp : Hp Z ρ (_ :: _ :: _ :: _ :: Pt b21 (.cells #[vr14_kinds, vr14_texts, vr14_left, vr14_numbers] 60 (0, 0)) :: _ :: _ :: _ :: _ :: _ :: _ :: _ :: L) w := hp
              refine s_nil (and_with ⟨fun _ => ⟨_, hp⟩, fun _ => ⟨_, (hp.get 10 rfl)⟩, fun _ => ⟨_, (hp.get 11 rfl)⟩, trivial⟩ fun hS => ?_)
              refine v_all [9] (by kernel_rfl) rfl ?_
              refine List.forall_mem_cons.2 ⟨?_, fun _ h => absurd h (by simp)⟩
              ·
                refine h_op rfl ?_
                refine s_store (wk0 rfl) rfl hE hp rfl rfl rfl 9 rfl varty60.size_ rfl (allOne_mem ⟨(OwnSl.one hp 0 rfl), (OwnSl.one hp 1 rfl), (OwnSl.one hp 2 rfl), (OwnSl.one hp 3 rfl), trivial⟩) [vr16_kinds, vr16_texts, vr16_left, vr16_numbers] rfl ?_
                intro w hp
                have hp : Hp Z ρ (_ :: _ :: _ :: _ :: _ :: _ :: _ :: _ :: _ :: Pt b19 (.cells #[vr16_kinds, vr16_texts, vr16_left, vr16_numbers] 60 (0, 0)) :: _ :: _ :: L) w := hp
                refine s_nil (and_with ⟨fun _ => ⟨_, hp⟩, fun _ => ⟨_, (hp.get 10 rfl)⟩, fun _ => ⟨_, (hp.get 11 rfl)⟩, trivial⟩ fun hS => ?_)
                exact v_done (by kernel_rfl) ⟨_, _, _, _, _, _, _, _, _, _, hE.cut ⟨rfl, rfl, trivial⟩, ((((((((((((hp.get 11 rfl).get 11 rfl).get 10 rfl).get 10 rfl).get 10 rfl).get 10 rfl).get 9 rfl).get 9 rfl).get 9 rfl).get 9 rfl).get 10 rfl).get 11 rfl)⟩
      ·
        refine h_op rfl ?_
        refine s_new (wk0 rfl) rfl rfl hE hp rfl [(.slice none 0 0), (.slice none 0 0), (.slice none 0 0), (.slice none 0 0)] (fun w => by simp [Instr.alloc, go_sem] <;> rfl) ?_
        intro a w b22 hE hp
        have hp : Hp Z ρ (Pt b22 (.cells #[(.slice none 0 0), (.slice none 0 0), (.slice none 0 0), (.slice none 0 0)] 60 (0, 0)) :: _ :: _ :: _ :: L) w := hp
        refine s_nil (and_with ⟨fun _ => ⟨_, hp⟩, fun _ => ⟨_, (hp.get 2 rfl)⟩, fun _ => ⟨_, (hp.get 3 rfl)⟩, trivial⟩ fun hS => ?_)
        refine v_all [2] (by kernel_rfl) rfl ?_
        refine List.forall_mem_cons.2 ⟨?_, fun _ h => absurd h (by simp)⟩
        ·
          refine h_op rfl ?_
          have hp := hp.emp (OwnSl.nil (α := Int) 3)
          have hp : Hp Z ρ (OwnSl 3 (.slice none 0 0) ([] : List Int) :: _ :: _ :: _ :: _ :: L) w := hp
          have hp := hp.emp (OwnSl.nil (α := ByteArray) 9)
          have hp : Hp Z ρ (OwnSl 9 (.slice none 0 0) ([] : List ByteArray) :: _ :: _ :: _ :: _ :: _ :: L) w := hp
          have hp := hp.emp (OwnSl.nil (α := Int) 3)
          have hp : Hp Z ρ (OwnSl 3 (.slice none 0 0) ([] : List Int) :: _ :: _ :: _ :: _ :: _ :: _ :: L) w := hp
          have hp := hp.emp (OwnSl.nil (α := Int) 3)
          have hp : Hp Z ρ (OwnSl 3 (.slice none 0 0) ([] : List Int) :: _ :: _ :: _ :: _ :: _ :: _ :: _ :: L) w := hp
          refine s_call (wk0 rfl) rfl rfl hE rfl [(.agg #[(.slice none 0 0), (.slice none 0 0), (.slice none 0 0), (.slice none 0 0)]), (.agg #[(.int .i64 p0.kind), (.string p0.text), (.int .i64 p0.at_), (.int .i64 p0.fin), vp0_kids]), (.int .i64 0)] ⟨rfl, rfl, rfl, trivial⟩ ent31 (c_assessorref37_flat (RFlat.mk ([]) ([]) ([]) ([])) (.slice none 0 0) (.slice none 0 0) (.slice none 0 0) (.slice none 0 0) p0 vp0_kids hp0_kids 0 (((hp.get 1 rfl).get 2 rfl).get 3 rfl) x1 ex1) Ret.ret ?_
          intro v a w hR hE
          obtain ⟨vr17_kinds, vr17_texts, vr17_left, vr17_numbers, rfl, hp⟩ := Ret.of hR
          have hp : Hp Z ρ (OwnSl 3 vr17_kinds x1.kinds :: OwnSl 9 vr17_texts x1.texts :: OwnSl 3 vr17_left x1.left :: OwnSl 3 vr17_numbers x1.numbers :: _ :: _ :: _ :: _ :: L) w := hp
          refine s_nil (and_with ⟨fun _ => ⟨_, hp⟩, fun _ => ⟨_, (hp.get 6 rfl)⟩, fun _ => ⟨_, (hp.get 7 rfl)⟩, trivial⟩ fun hS => ?_)
          refine v_all [5] (by kernel_rfl) rfl ?_
          refine List.forall_mem_cons.2 ⟨?_, fun _ h => absurd h (by simp)⟩
          ·
            refine h_op rfl ?_
            have hp := hp.emp (OwnSl.nil (α := Int) 3)
            have hp : Hp Z ρ (OwnSl 3 (.slice none 0 0) ([] : List Int) :: _ :: _ :: _ :: _ :: _ :: _ :: _ :: _ :: L) w := hp
            have hp := hp.emp (OwnSl.nil (α := ByteArray) 9)
            have hp : Hp Z ρ (OwnSl 9 (.slice none 0 0) ([] : List ByteArray) :: _ :: _ :: _ :: _ :: _ :: _ :: _ :: _ :: _ :: L) w := hp
            have hp := hp.emp (OwnSl.nil (α := Int) 3)
            have hp : Hp Z ρ (OwnSl 3 (.slice none 0 0) ([] : List Int) :: _ :: _ :: _ :: _ :: _ :: _ :: _ :: _ :: _ :: _ :: L) w := hp
            have hp := hp.emp (OwnSl.nil (α := Int) 3)
            have hp : Hp Z ρ (OwnSl 3 (.slice none 0 0) ([] : List Int) :: _ :: _ :: _ :: _ :: _ :: _ :: _ :: _ :: _ :: _ :: _ :: L) w := hp
            refine s_call (wk0 rfl) rfl rfl hE rfl [(.agg #[(.slice none 0 0), (.slice none 0 0), (.slice none 0 0), (.slice none 0 0)]), (.agg #[(.int .i64 p1.kind), (.string p1.text), (.int .i64 p1.at_), (.int .i64 p1.fin), vp1_kids]), (.int .i64 0)] ⟨rfl, rfl, rfl, trivial⟩ ent31 (c_assessorref37_flat (RFlat.mk ([]) ([]) ([]) ([])) (.slice none 0 0) (.slice none 0 0) (.slice none 0 0) (.slice none 0 0) p1 vp1_kids hp1_kids 0 (((hp.get 1 rfl).get 2 rfl).get 3 rfl) x2 ex2) Ret.ret ?_
            intro v a w hR hE
            obtain ⟨vr18_kinds, vr18_texts, vr18_left, vr18_numbers, rfl, hp⟩ := Ret.of hR
            have hp : Hp Z ρ (OwnSl 3 vr18_kinds x2.kinds :: OwnSl 9 vr18_texts x2.texts :: OwnSl 3 vr18_left x2.left :: OwnSl 3 vr18_numbers x2.numbers :: _ :: _ :: _ :: _ :: _ :: _ :: _ :: _ :: L) w := hp
            refine s_nil (and_with ⟨fun _ => ⟨_, hp⟩, fun _ => ⟨_, (hp.get 10 rfl)⟩, fun _ => ⟨_, (hp.get 11 rfl)⟩, trivial⟩ fun hS => ?_)
            refine v_all [8] (by kernel_rfl) rfl ?_
            refine List.forall_mem_cons.2 ⟨?_, fun _ h => absurd h (by simp)⟩
            ·
              refine h_op rfl ?_
              refine s_store (wk0 rfl) rfl hE hp rfl rfl rfl 8 rfl varty60.size_ rfl (allOne_mem ⟨(OwnSl.one hp 4 rfl), (OwnSl.one hp 5 rfl), (OwnSl.one hp 6 rfl), (OwnSl.one hp 7 rfl), trivial⟩) [vr17_kinds, vr17_texts, vr17_left, vr17_numbers] rfl ?_
              intro w hp
              have hp : Hp Z ρ (_ :: _ :: _ :: _ :: _ :: _ :: _ :: _ :: Pt b22 (.cells #[vr17_kinds, vr17_texts, vr17_left, vr17_numbers] 60 (0, 0)) :: _ :: _ :: _ :: L) w := hp
              refine s_nil (and_with ⟨fun _ => ⟨_, hp⟩, fun _ => ⟨_, (hp.get 10 rfl)⟩, fun _ => ⟨_, (hp.get 11 rfl)⟩, trivial⟩ fun hS => ?_)
              refine v_all [9] (by kernel_rfl) rfl ?_
              refine List.forall_mem_cons.2 ⟨?_, fun _ h => absurd h (by simp)⟩
              ·
                refine h_op rfl ?_
                refine s_store (wk0 rfl) rfl hE hp rfl rfl rfl 9 rfl varty60.size_ rfl (allOne_mem ⟨(OwnSl.one hp 0 rfl), (OwnSl.one hp 1 rfl), (OwnSl.one hp 2 rfl), (OwnSl.one hp 3 rfl), trivial⟩) [vr18_kinds, vr18_texts, vr18_left, vr18_numbers] rfl ?_
                intro w hp
                have hp : Hp Z ρ (_ :: _ :: _ :: _ :: _ :: _ :: _ :: _ :: _ :: Pt b19 (.cells #[vr18_kinds, vr18_texts, vr18_left, vr18_numbers] 60 (0, 0)) :: _ :: _ :: L) w := hp
                refine s_nil (and_with ⟨fun _ => ⟨_, hp⟩, fun _ => ⟨_, (hp.get 10 rfl)⟩, fun _ => ⟨_, (hp.get 11 rfl)⟩, trivial⟩ fun hS => ?_)
                exact v_done (by kernel_rfl) ⟨_, _, _, _, _, _, _, _, _, _, hE.cut ⟨rfl, rfl, trivial⟩, ((((((((((((hp.get 11 rfl).get 11 rfl).get 9 rfl).get 9 rfl).get 9 rfl).get 9 rfl).get 9 rfl).get 9 rfl).get 9 rfl).get 9 rfl).get 10 rfl).get 11 rfl)⟩
  · rintro a w ⟨y13, y12, y8, y9, y10, y11, y4, y5, y6, y7, hE, hp⟩
    refine k_seq ?_
    refine k_region ?_
    refine s_val (wk0 rfl) rfl rfl hE hp (v := (.pointer (some ⟨y12, 0, none⟩))) (ex_field rfl hE rfl (fldty60_0 _ _)) ?_
    intro a hE
    refine s_val (wk0 rfl) rfl rfl hE hp (v := y4) (ex_load rfl hE rfl (fun w hw => run_ld1 varty34 (Hp.c 1 rfl 0 rfl w hw))) ?_
    intro a hE
    refine s_val (wk0 rfl) rfl rfl hE hp (v := (.int .i64 (x1.kinds.length : Int))) (ex_len rfl hE rfl (OwnSl.len hp 6 rfl slty34)) ?_
    intro a hE
    refine s_val (wk0 rfl) rfl rfl hE hp (v := (.pointer (some ⟨y13, 0, none⟩))) (ex_field rfl hE rfl (fldty60_0 _ _)) ?_
    intro a hE
    refine s_val (wk0 rfl) rfl rfl hE hp (v := y8) (ex_load rfl hE rfl (fun w hw => run_ld1 varty34 (Hp.c 0 rfl 0 rfl w hw))) ?_
    intro a hE
    refine s_val (wk0 rfl) rfl rfl hE hp (v := (.int .i64 (x2.kinds.length : Int))) (ex_len rfl hE rfl (OwnSl.len hp 2 rfl slty34)) ?_
    intro a hE
    obtain ⟨x3, ex3, hm⟩ := bnd hm
    refine s_call (wk0 rfl) rfl rfl hE rfl [(.int .i64 (x1.kinds.length : Int)), (.int .i64 (x2.kinds.length : Int))] ⟨rfl, rfl, trivial⟩ ent32 (c_assessorref37_table (x1.kinds.length : Int) (x2.kinds.length : Int) hp x3 ex3) Ret.ret ?_
    intro vr19 a w hR hE
    obtain ⟨u, usr19, rfl, hp⟩ := Ret.of hR
    have hp : Hp Z ρ (TblA 34 3 vr19 usr19 (x3 : (List (List Int))) :: Pt y13 (.cells #[y8, y9, y10, y11] 60 (0, 0)) :: Pt y12 (.cells #[y4, y5, y6, y7] 60 (0, 0)) :: OwnSl 3 y8 x2.kinds :: OwnSl 9 y9 x2.texts :: OwnSl 3 y10 x2.left :: OwnSl 3 y11 x2.numbers :: OwnSl 3 y4 x1.kinds :: OwnSl 9 y5 x1.texts :: OwnSl 3 y6 x1.left :: OwnSl 3 y7 x1.numbers :: _ :: _ :: L) w := hp
    refine s_val (wk0 rfl) rfl rfl hE hp (v := vr19) (ex_asn rfl hE rfl) ?_
    intro a hE
    refine s_nil ?_
    refine k_seq ?_
    refine k_seq ?_
    refine k_region ?_
    refine s_val (wk0 rfl) rfl rfl hE hp (v := (.int .i64 0)) (ex_asn rfl hE rfl) ?_
    intro a hE
    refine s_nil ?_
    obtain ⟨b23, hb1, hm⟩ := bnd hm
    refine k_block (fun a w => Env 89 [(5, (.pointer (some ⟨y12, 0, none⟩))), (6, (.pointer (some ⟨y13, 0, none⟩))), (7, vr19)] a ∧ Hp Z ρ (TblA 34 3 vr19 usr19 (b23 : (List (List Int))) :: Pt y13 (.cells #[y8, y9, y10, y11] 60 (0, 0)) :: Pt y12 (.cells #[y4, y5, y6, y7] 60 (0, 0)) :: OwnSl 3 y8 x2.kinds :: OwnSl 9 y9 x2.texts :: OwnSl 3 y10 x2.left :: OwnSl 3 y11 x2.numbers :: OwnSl 3 y4 x1.kinds :: OwnSl 9 y5 x1.texts :: OwnSl 3 y6 x1.left :: OwnSl 3 y7 x1.numbers :: Pt b2 (.cells #[(.int .i64 p1.kind), (.string p1.text), (.int .i64 p1.at_), (.int .i64 p1.fin), vp1_kids] 24 (0, 0)) :: Pt b1 (.cells #[(.int .i64 p0.kind), (.string p0.text), (.int .i64 p0.at_), (.int .i64 p0.fin), vp0_kids] 24 (0, 0)) :: L) w) ?_ ?_
    · refine k_loop hb1 (fun s a w => Env 89 [(5, (.pointer (some ⟨y12, 0, none⟩))), (6, (.pointer (some ⟨y13, 0, none⟩))), (7, vr19), (8, (.int .i64 s.1))] a ∧ Hp Z ρ (TblA 34 3 vr19 usr19 (s.2 : (List (List Int))) :: Pt y13 (.cells #[y8, y9, y10, y11] 60 (0, 0)) :: Pt y12 (.cells #[y4, y5, y6, y7] 60 (0, 0)) :: OwnSl 3 y8 x2.kinds :: OwnSl 9 y9 x2.texts :: OwnSl 3 y10 x2.left :: OwnSl 3 y11 x2.numbers :: OwnSl 3 y4 x1.kinds :: OwnSl 9 y5 x1.texts :: OwnSl 3 y6 x1.left :: OwnSl 3 y7 x1.numbers :: Pt b2 (.cells #[(.int .i64 p1.kind), (.string p1.text), (.int .i64 p1.at_), (.int .i64 p1.fin), vp1_kids] 24 (0, 0)) :: Pt b1 (.cells #[(.int .i64 p0.kind), (.string p0.text), (.int .i64 p0.at_), (.int .i64 p0.fin), vp0_kids] 24 (0, 0)) :: L) w) ?_ ?_
      · exact ⟨hE.cut ⟨rfl, rfl, rfl, rfl, trivial⟩, hp⟩
      · rintro ⟨lp1_0, lp1_1⟩ st a w ⟨hE, hp⟩ hl1
        have hE : Env 89 [(5, (.pointer (some ⟨y12, 0, none⟩))), (6, (.pointer (some ⟨y13, 0, none⟩))), (7, vr19), (8, (.int .i64 lp1_0))] a := hE
        have hp : Hp Z ρ (TblA 34 3 vr19 usr19 (lp1_1 : (List (List Int))) :: _ :: _ :: _ :: _ :: _ :: _ :: _ :: _ :: _ :: _ :: _ :: _ :: L) w := hp
        replace hl1 : m_assessorref37_Subtrees_lp1 x1 x2 lp1_0 lp1_1 = some st := hl1
        unfold m_assessorref37_Subtrees_lp1 at hl1
        refine k_seq ?_
        refine k_seq ?_
        refine k_region ?_
        refine s_val (wk0 rfl) rfl rfl hE hp (v := (.int .i64 lp1_0)) (ex_move rfl hE rfl) ?_
        intro a hE
        refine s_val (wk0 rfl) rfl rfl hE hp (v := (.pointer (some ⟨y12, 0, none⟩))) (ex_field rfl hE rfl (fldty60_0 _ _)) ?_
        intro a hE
        refine s_val (wk0 rfl) rfl rfl hE hp (v := y4) (ex_load rfl hE rfl (fun w hw => run_ld1 varty34 (Hp.c 2 rfl 0 rfl w hw))) ?_
        intro a hE
        refine s_val (wk0 rfl) rfl rfl hE hp (v := (.int .i64 (x1.kinds.length : Int))) (ex_len rfl hE rfl (OwnSl.len hp 7 rfl slty34)) ?_
        intro a hE
        refine s_val (wk0 rfl) rfl rfl hE hp (v := (.bool (decide (lp1_0 < (x1.kinds.length : Int))))) (ex_lss rfl hE rfl rfl) ?_
        intro a hE
        refine s_nil ?_
        refine k_if hE rfl (fun hb2 => ?_) (fun hb2 => ?_)
        · replace hl1 := (it hb2).symm.trans hl1
          refine k_skip ?_
          refine k_seq ?_
          refine k_plain ?_
          refine k_seq ?_
          refine k_region ?_
          refine s_val (wk0 rfl) rfl rfl hE hp (v := (.int .i64 0)) (ex_asn rfl hE rfl) ?_
          intro a hE
          refine s_nil ?_
          obtain ⟨b24, hb3, hl1⟩ := bnd hl1
          refine k_block (fun a w => Env 89 [(5, (.pointer (some ⟨y12, 0, none⟩))), (6, (.pointer (some ⟨y13, 0, none⟩))), (7, vr19), (8, (.int .i64 lp1_0))] a ∧ Hp Z ρ (TblA 34 3 vr19 usr19 (b24 : (List (List Int))) :: Pt y13 (.cells #[y8, y9, y10, y11] 60 (0, 0)) :: Pt y12 (.cells #[y4, y5, y6, y7] 60 (0, 0)) :: OwnSl 3 y8 x2.kinds :: OwnSl 9 y9 x2.texts :: OwnSl 3 y10 x2.left :: OwnSl 3 y11 x2.numbers :: OwnSl 3 y4 x1.kinds :: OwnSl 9 y5 x1.texts :: OwnSl 3 y6 x1.left :: OwnSl 3 y7 x1.numbers :: Pt b2 (.cells #[(.int .i64 p1.kind), (.string p1.text), (.int .i64 p1.at_), (.int .i64 p1.fin), vp1_kids] 24 (0, 0)) :: Pt b1 (.cells #[(.int .i64 p0.kind), (.string p0.text), (.int .i64 p0.at_), (.int .i64 p0.fin), vp0_kids] 24 (0, 0)) :: L) w) ?_ ?_
          · refine k_loop hb3 (fun s a w => Env 89 [(5, (.pointer (some ⟨y12, 0, none⟩))), (6, (.pointer (some ⟨y13, 0, none⟩))), (7, vr19), (8, (.int .i64 lp1_0)), (9, (.int .i64 s.1))] a ∧ Hp Z ρ (TblA 34 3 vr19 usr19 (s.2 : (List (List Int))) :: Pt y13 (.cells #[y8, y9, y10, y11] 60 (0, 0)) :: Pt y12 (.cells #[y4, y5, y6, y7] 60 (0, 0)) :: OwnSl 3 y8 x2.kinds :: OwnSl 9 y9 x2.texts :: OwnSl 3 y10 x2.left :: OwnSl 3 y11 x2.numbers :: OwnSl 3 y4 x1.kinds :: OwnSl 9 y5 x1.texts :: OwnSl 3 y6 x1.left :: OwnSl 3 y7 x1.numbers :: Pt b2 (.cells #[(.int .i64 p1.kind), (.string p1.text), (.int .i64 p1.at_), (.int .i64 p1.fin), vp1_kids] 24 (0, 0)) :: Pt b1 (.cells #[(.int .i64 p0.kind), (.string p0.text), (.int .i64 p0.at_), (.int .i64 p0.fin), vp0_kids] 24 (0, 0)) :: L) w) ?_ ?_
            · exact ⟨hE.cut ⟨rfl, rfl, rfl, rfl, rfl, trivial⟩, hp⟩
            · rintro ⟨lp2_0, lp2_1⟩ st a w ⟨hE, hp⟩ hl2
              have hE : Env 89 [(5, (.pointer (some ⟨y12, 0, none⟩))), (6, (.pointer (some ⟨y13, 0, none⟩))), (7, vr19), (8, (.int .i64 lp1_0)), (9, (.int .i64 lp2_0))] a := hE
              have hp : Hp Z ρ (TblA 34 3 vr19 usr19 (lp2_1 : (List (List Int))) :: _ :: _ :: _ :: _ :: _ :: _ :: _ :: _ :: _ :: _ :: _ :: _ :: L) w := hp
              replace hl2 : m_assessorref37_Subtrees_lp2 x1 x2 lp1_0 lp2_0 lp2_1 = some st := hl2
              unfold m_assessorref37_Subtrees_lp2 at hl2
              refine k_seq ?_
              refine k_seq ?_
              refine k_region ?_
              refine s_val (wk0 rfl) rfl rfl hE hp (v := (.int .i64 lp2_0)) (ex_move rfl hE rfl) ?_
              intro a hE
              refine s_val (wk0 rfl) rfl rfl hE hp (v := (.pointer (some ⟨y13, 0, none⟩))) (ex_field rfl hE rfl (fldty60_0 _ _)) ?_
              intro a hE
              refine s_val (wk0 rfl) rfl rfl hE hp (v := y8) (ex_load rfl hE rfl (fun w hw => run_ld1 varty34 (Hp.c 1 rfl 0 rfl w hw))) ?_
              intro a hE
              refine s_val (wk0 rfl) rfl rfl hE hp (v := (.int .i64 (x2.kinds.length : Int))) (ex_len rfl hE rfl (OwnSl.len hp 3 rfl slty34)) ?_
              intro a hE
              refine s_val (wk0 rfl) rfl rfl hE hp (v := (.bool (decide (lp2_0 < (x2.kinds.length : Int))))) (ex_lss rfl hE rfl rfl) ?_
              intro a hE
              refine s_nil ?_
              have hE := hE.cut (E' := [(5, (.pointer (some ⟨y12, 0, none⟩))), (6, (.pointer (some ⟨y13, 0, none⟩))), (7, vr19), (8, (.int .i64 lp1_0)), (9, (.int .i64 lp2_0)), (37, (.bool (decide (lp2_0 < (x2.kinds.length : Int)))))]) ⟨rfl, rfl, rfl, rfl, rfl, rfl, trivial⟩
              refine k_if hE rfl (fun hb4 => ?_) (fun hb4 => ?_)
              · replace hl2 := (it hb4).symm.trans hl2
                refine k_skip ?_
                refine k_seq ?_
                refine k_plain ?_
                refine k_region ?_
                refine s_val (wk0 rfl) rfl rfl hE hp (v := (.agg #[y4, y5, y6, y7])) (ex_load rfl hE rfl (fun w hw => run_ldN (cs := [y4, y5, y6, y7]) varty60 (Hp.cN 2 rfl 0 _ (sub_all rfl) w hw))) ?_
                intro a hE
                refine s_val (wk0 rfl) rfl rfl hE hp (v := (.agg #[y8, y9, y10, y11])) (ex_load rfl hE rfl (fun w hw => run_ldN (cs := [y8, y9, y10, y11]) varty60 (Hp.cN 1 rfl 0 _ (sub_all rfl) w hw))) ?_
                intro a hE
                refine s_val (wk0 rfl) rfl rfl hE hp (v := (.int .i64 lp1_0)) (ex_move rfl hE rfl) ?_
                intro a hE
                refine s_val (wk0 rfl) rfl rfl hE hp (v := (.int .i64 lp2_0)) (ex_move rfl hE rfl) ?_
                intro a hE
                refine s_val (wk0 rfl) rfl rfl hE hp (v := vr19) (ex_move rfl hE rfl) ?_
                intro a hE
                obtain ⟨k1, k1a, k1d, k1h⟩ := (hp.get 7 rfl).lend
                obtain ⟨k2, k2a, k2d, k2h⟩ := (k1h.get 7 rfl).lend
                obtain ⟨k3, k3a, k3d, k3h⟩ := (k2h.get 7 rfl).lend
                obtain ⟨k4, k4a, k4d, k4h⟩ := (k3h.get 7 rfl).lend
                obtain ⟨k5, k5a, k5d, k5h⟩ := (k4h.get 3 rfl).lend
                obtain ⟨k6, k6a, k6d, k6h⟩ := (k5h.get 3 rfl).lend
                obtain ⟨k7, k7a, k7d, k7h⟩ := (k6h.get 3 rfl).lend
                obtain ⟨k8, k8a, k8d, k8h⟩ := (k7h.get 3 rfl).lend
                obtain ⟨x4, ex4, hl2⟩ := bnd hl2
                refine s_call (wk0 rfl) rfl rfl hE rfl [(.agg #[y4, y5, y6, y7]), (.agg #[y8, y9, y10, y11]), (.int .i64 lp1_0), (.int .i64 lp2_0), vr19] ⟨rfl, rfl, rfl, rfl, rfl, trivial⟩ ent33 (c_assessorref37_forests x1 y4 (RoSl.mono (RoSl.mono (RoSl.mono (RoSl.mono (RoSl.mono (RoSl.mono (RoSl.mono (OwnSl.ro k1d k1a) (PH.le_un _ _)) (PH.le_un _ _)) (PH.le_un _ _)) (PH.le_un _ _)) (PH.le_un _ _)) (PH.le_un _ _)) (PH.le_un _ _)) y5 (RoSl.mono (RoSl.mono (RoSl.mono (RoSl.mono (RoSl.mono (RoSl.mono (OwnSl.ro k2d k2a) (PH.le_un _ _)) (PH.le_un _ _)) (PH.le_un _ _)) (PH.le_un _ _)) (PH.le_un _ _)) (PH.le_un _ _)) y6 (RoSl.mono (RoSl.mono (RoSl.mono (RoSl.mono (RoSl.mono (OwnSl.ro k3d k3a) (PH.le_un _ _)) (PH.le_un _ _)) (PH.le_un _ _)) (PH.le_un _ _)) (PH.le_un _ _)) y7 (RoSl.mono (RoSl.mono (RoSl.mono (RoSl.mono (OwnSl.ro k4d k4a) (PH.le_un _ _)) (PH.le_un _ _)) (PH.le_un _ _)) (PH.le_un _ _)) x2 y8 (RoSl.mono (RoSl.mono (RoSl.mono (OwnSl.ro k5d k5a) (PH.le_un _ _)) (PH.le_un _ _)) (PH.le_un _ _)) y9 (RoSl.mono (RoSl.mono (OwnSl.ro k6d k6a) (PH.le_un _ _)) (PH.le_un _ _)) y10 (RoSl.mono (OwnSl.ro k7d k7a) (PH.le_un _ _)) y11 (OwnSl.ro k8d k8a) lp1_0 lp2_0 lp2_1 vr19 usr19 k8h x4 ex4) Ret.ret ?_
                intro v a w hR hE
                obtain ⟨rfl, hp⟩ := Ret.of hR
                have hp := Hp.back k8a k8d hp
                have hp := Hp.back k7a k7d hp
                have hp := Hp.back k6a k6d hp
                have hp := Hp.back k5a k5d hp
                have hp := Hp.back k4a k4d hp
                have hp := Hp.back k3a k3d hp
                have hp := Hp.back k2a k2d hp
                have hp := Hp.back k1a k1d hp
                have hp : Hp Z ρ (_ :: _ :: _ :: _ :: _ :: _ :: _ :: _ :: TblA 34 3 vr19 usr19 (x4 : (List (List Int))) :: _ :: _ :: _ :: _ :: L) w := hp
                refine s_nil ?_
                refine k_region ?_
                refine s_val (wk0 rfl) rfl rfl hE hp (v := (.int .i64 lp2_0)) (ex_move rfl hE rfl) ?_
                intro a hE
                obtain ⟨x5, ex5, hl2⟩ := bnd hl2
                refine s_val (wk0 rfl) rfl rfl hE hp (v := (.int .i64 x5)) (ex_add rfl hE rfl rfl (inK_some ex5)) ?_
                intro a hE
                refine s_val (wk0 rfl) rfl rfl hE hp (v := (.int .i64 x5)) (ex_asn rfl hE rfl) ?_
                intro a hE
                refine s_nil ?_
                exact ⟨_, (Option.some.inj hl2).symm, hE.cut ⟨rfl, rfl, rfl, rfl, rfl, trivial⟩, (((((((((((((hp.get 12 rfl).get 12 rfl).get 5 rfl).get 5 rfl).get 5 rfl).get 5 rfl).get 9 rfl).get 9 rfl).get 9 rfl).get 9 rfl).get 12 rfl).get 12 rfl).get 12 rfl)⟩
              · replace hl2 := (ie hb4).symm.trans hl2
                refine k_exit ?_
                refine ⟨_, (Option.some.inj hl2).symm, fun hbb => ?_⟩
                subst hbb
                exact ⟨hE.cut ⟨rfl, rfl, rfl, rfl, trivial⟩, hp⟩
          · rintro a w ⟨hE, hp⟩
            refine k_region ?_
            refine s_val (wk0 rfl) rfl rfl hE hp (v := (.int .i64 lp1_0)) (ex_move rfl hE rfl) ?_
            intro a hE
            obtain ⟨x6, ex6, hl1⟩ := bnd hl1
            refine s_val (wk0 rfl) rfl rfl hE hp (v := (.int .i64 x6)) (ex_add rfl hE rfl rfl (inK_some ex6)) ?_
            intro a hE
            refine s_val (wk0 rfl) rfl rfl hE hp (v := (.int .i64 x6)) (ex_asn rfl hE rfl) ?_
            intro a hE
            refine s_nil ?_
            exact ⟨_, (Option.some.inj hl1).symm, hE.cut ⟨rfl, rfl, rfl, rfl, trivial⟩, hp⟩
        · replace hl1 := (ie hb2).symm.trans hl1
          refine k_exit ?_
          refine ⟨_, (Option.some.inj hl1).symm, fun hbb => ?_⟩
          subst hbb
          exact ⟨hE.cut ⟨rfl, rfl, rfl, trivial⟩, hp⟩
    · rintro a w ⟨hE, hp⟩
      refine k_seq ?_
      refine k_region ?_
      refine s_val (wk0 rfl) rfl rfl hE hp (v := (.pointer (some ⟨y12, 0, none⟩))) (ex_field rfl hE rfl (fldty60_0 _ _)) ?_
      intro a hE
      refine s_val (wk0 rfl) rfl rfl hE hp (v := y4) (ex_load rfl hE rfl (fun w hw => run_ld1 varty34 (Hp.c 2 rfl 0 rfl w hw))) ?_
      intro a hE
      refine s_val (wk0 rfl) rfl rfl hE hp (v := (.int .i64 (x1.kinds.length : Int))) (ex_len rfl hE rfl (OwnSl.len hp 7 rfl slty34)) ?_
      intro a hE
      refine s_val (wk0 rfl) rfl rfl hE hp (v := (.pointer (some ⟨y13, 0, none⟩))) (ex_field rfl hE rfl (fldty60_0 _ _)) ?_
      intro a hE
      refine s_val (wk0 rfl) rfl rfl hE hp (v := y8) (ex_load rfl hE rfl (fun w hw => run_ld1 varty34 (Hp.c 1 rfl 0 rfl w hw))) ?_
      intro a hE
      refine s_val (wk0 rfl) rfl rfl hE hp (v := (.int .i64 (x2.kinds.length : Int))) (ex_len rfl hE rfl (OwnSl.len hp 3 rfl slty34)) ?_
      intro a hE
      obtain ⟨x7, ex7, hm⟩ := bnd hm
      refine s_call (wk0 rfl) rfl rfl hE rfl [(.int .i64 (x1.kinds.length : Int)), (.int .i64 (x2.kinds.length : Int))] ⟨rfl, rfl, trivial⟩ ent32 (c_assessorref37_table (x1.kinds.length : Int) (x2.kinds.length : Int) hp x7 ex7) Ret.ret ?_
      intro vr20 a w hR hE
      obtain ⟨u, usr20, rfl, hp⟩ := Ret.of hR
      have hp : Hp Z ρ (TblA 34 3 vr20 usr20 (x7 : (List (List Int))) :: TblA 34 3 vr19 usr19 (b23 : (List (List Int))) :: _ :: _ :: _ :: _ :: _ :: _ :: _ :: _ :: _ :: _ :: _ :: _ :: L) w := hp
      refine s_val (wk0 rfl) rfl rfl hE hp (v := vr20) (ex_asn rfl hE rfl) ?_
      intro a hE
      refine s_nil ?_
      have hE := hE.cut (E' := [(5, (.pointer (some ⟨y12, 0, none⟩))), (6, (.pointer (some ⟨y13, 0, none⟩))), (7, vr19), (10, vr20)]) ⟨rfl, rfl, rfl, rfl, trivial⟩
      refine k_seq ?_
      refine k_seq ?_
      refine k_region ?_
      refine s_val (wk0 rfl) rfl rfl hE hp (v := (.int .i64 0)) (ex_asn rfl hE rfl) ?_
      intro a hE
      refine s_nil ?_
      obtain ⟨b25, hb5, hm⟩ := bnd hm
      refine k_block (fun a w => Env 89 [(10, vr20)] a ∧ Hp Z ρ (TblA 34 3 vr20 usr20 (b25 : (List (List Int))) :: TblA 34 3 vr19 usr19 (b23 : (List (List Int))) :: Pt y13 (.cells #[y8, y9, y10, y11] 60 (0, 0)) :: Pt y12 (.cells #[y4, y5, y6, y7] 60 (0, 0)) :: OwnSl 3 y8 x2.kinds :: OwnSl 9 y9 x2.texts :: OwnSl 3 y10 x2.left :: OwnSl 3 y11 x2.numbers :: OwnSl 3 y4 x1.kinds :: OwnSl 9 y5 x1.texts :: OwnSl 3 y6 x1.left :: OwnSl 3 y7 x1.numbers :: Pt b2 (.cells #[(.int .i64 p1.kind), (.string p1.text), (.int .i64 p1.at_), (.int .i64 p1.fin), vp1_kids] 24 (0, 0)) :: Pt b1 (.cells #[(.int .i64 p0.kind), (.string p0.text), (.int .i64 p0.at_), (.int .i64 p0.fin), vp0_kids] 24 (0, 0)) :: L) w) ?_ ?_
      · refine k_loop hb5 (fun s a w => Env 89 [(5, (.pointer (some ⟨y12, 0, none⟩))), (6, (.pointer (some ⟨y13, 0, none⟩))), (7, vr19), (10, vr20), (11, (.int .i64 s.1))] a ∧ Hp Z ρ (TblA 34 3 vr20 usr20 (s.2 : (List (List Int))) :: TblA 34 3 vr19 usr19 (b23 : (List (List Int))) :: Pt y13 (.cells #[y8, y9, y10, y11] 60 (0, 0)) :: Pt y12 (.cells #[y4, y5, y6, y7] 60 (0, 0)) :: OwnSl 3 y8 x2.kinds :: OwnSl 9 y9 x2.texts :: OwnSl 3 y10 x2.left :: OwnSl 3 y11 x2.numbers :: OwnSl 3 y4 x1.kinds :: OwnSl 9 y5 x1.texts :: OwnSl 3 y6 x1.left :: OwnSl 3 y7 x1.numbers :: Pt b2 (.cells #[(.int .i64 p1.kind), (.string p1.text), (.int .i64 p1.at_), (.int .i64 p1.fin), vp1_kids] 24 (0, 0)) :: Pt b1 (.cells #[(.int .i64 p0.kind), (.string p0.text), (.int .i64 p0.at_), (.int .i64 p0.fin), vp0_kids] 24 (0, 0)) :: L) w) ?_ ?_
        · exact ⟨hE.cut ⟨rfl, rfl, rfl, rfl, rfl, trivial⟩, hp⟩
        · rintro ⟨lp3_0, lp3_1⟩ st a w ⟨hE, hp⟩ hl3
          have hE : Env 89 [(5, (.pointer (some ⟨y12, 0, none⟩))), (6, (.pointer (some ⟨y13, 0, none⟩))), (7, vr19), (10, vr20), (11, (.int .i64 lp3_0))] a := hE
          have hp : Hp Z ρ (TblA 34 3 vr20 usr20 (lp3_1 : (List (List Int))) :: _ :: _ :: _ :: _ :: _ :: _ :: _ :: _ :: _ :: _ :: _ :: _ :: _ :: L) w := hp
          replace hl3 : m_assessorref37_Subtrees_lp3 x1 x2 b23 lp3_0 lp3_1 = some st := hl3
          unfold m_assessorref37_Subtrees_lp3 at hl3
          refine k_seq ?_
          refine k_seq ?_
          refine k_region ?_
          refine s_val (wk0 rfl) rfl rfl hE hp (v := (.int .i64 lp3_0)) (ex_move rfl hE rfl) ?_
          intro a hE
          refine s_val (wk0 rfl) rfl rfl hE hp (v := (.pointer (some ⟨y12, 0, none⟩))) (ex_field rfl hE rfl (fldty60_0 _ _)) ?_
          intro a hE
          refine s_val (wk0 rfl) rfl rfl hE hp (v := y4) (ex_load rfl hE rfl (fun w hw => run_ld1 varty34 (Hp.c 3 rfl 0 rfl w hw))) ?_
          intro a hE
          refine s_val (wk0 rfl) rfl rfl hE hp (v := (.int .i64 (x1.kinds.length : Int))) (ex_len rfl hE rfl (OwnSl.len hp 8 rfl slty34)) ?_
          intro a hE
          refine s_val (wk0 rfl) rfl rfl hE hp (v := (.bool (decide (lp3_0 < (x1.kinds.length : Int))))) (ex_lss rfl hE rfl rfl) ?_
          intro a hE
          refine s_nil ?_
          refine k_if hE rfl (fun hb6 => ?_) (fun hb6 => ?_)
          · replace hl3 := (it hb6).symm.trans hl3
            refine k_skip ?_
            refine k_seq ?_
            refine k_plain ?_
            refine k_seq ?_
            refine k_region ?_
            refine s_val (wk0 rfl) rfl rfl hE hp (v := (.int .i64 0)) (ex_asn rfl hE rfl) ?_
            intro a hE
            refine s_nil ?_
            obtain ⟨b26, hb7, hl3⟩ := bnd hl3
            refine k_block (fun a w => Env 89 [(5, (.pointer (some ⟨y12, 0, none⟩))), (6, (.pointer (some ⟨y13, 0, none⟩))), (7, vr19), (10, vr20), (11, (.int .i64 lp3_0))] a ∧ Hp Z ρ (TblA 34 3 vr20 usr20 (b26 : (List (List Int))) :: TblA 34 3 vr19 usr19 (b23 : (List (List Int))) :: Pt y13 (.cells #[y8, y9, y10, y11] 60 (0, 0)) :: Pt y12 (.cells #[y4, y5, y6, y7] 60 (0, 0)) :: OwnSl 3 y8 x2.kinds :: OwnSl 9 y9 x2.texts :: OwnSl 3 y10 x2.left :: OwnSl 3 y11 x2.numbers :: OwnSl 3 y4 x1.kinds :: OwnSl 9 y5 x1.texts :: OwnSl 3 y6 x1.left :: OwnSl 3 y7 x1.numbers :: Pt b2 (.cells #[(.int .i64 p1.kind), (.string p1.text), (.int .i64 p1.at_), (.int .i64 p1.fin), vp1_kids] 24 (0, 0)) :: Pt b1 (.cells #[(.int .i64 p0.kind), (.string p0.text), (.int .i64 p0.at_), (.int .i64 p0.fin), vp0_kids] 24 (0, 0)) :: L) w) ?_ ?_
            · refine k_loop hb7 (fun s a w => Env 89 [(5, (.pointer (some ⟨y12, 0, none⟩))), (6, (.pointer (some ⟨y13, 0, none⟩))), (7, vr19), (10, vr20), (11, (.int .i64 lp3_0)), (12, (.int .i64 s.1))] a ∧ Hp Z ρ (TblA 34 3 vr20 usr20 (s.2 : (List (List Int))) :: TblA 34 3 vr19 usr19 (b23 : (List (List Int))) :: Pt y13 (.cells #[y8, y9, y10, y11] 60 (0, 0)) :: Pt y12 (.cells #[y4, y5, y6, y7] 60 (0, 0)) :: OwnSl 3 y8 x2.kinds :: OwnSl 9 y9 x2.texts :: OwnSl 3 y10 x2.left :: OwnSl 3 y11 x2.numbers :: OwnSl 3 y4 x1.kinds :: OwnSl 9 y5 x1.texts :: OwnSl 3 y6 x1.left :: OwnSl 3 y7 x1.numbers :: Pt b2 (.cells #[(.int .i64 p1.kind), (.string p1.text), (.int .i64 p1.at_), (.int .i64 p1.fin), vp1_kids] 24 (0, 0)) :: Pt b1 (.cells #[(.int .i64 p0.kind), (.string p0.text), (.int .i64 p0.at_), (.int .i64 p0.fin), vp0_kids] 24 (0, 0)) :: L) w) ?_ ?_
              · exact ⟨hE.cut ⟨rfl, rfl, rfl, rfl, rfl, rfl, trivial⟩, hp⟩
              · rintro ⟨lp4_0, lp4_1⟩ st a w ⟨hE, hp⟩ hl4
                have hE : Env 89 [(5, (.pointer (some ⟨y12, 0, none⟩))), (6, (.pointer (some ⟨y13, 0, none⟩))), (7, vr19), (10, vr20), (11, (.int .i64 lp3_0)), (12, (.int .i64 lp4_0))] a := hE
                have hp : Hp Z ρ (TblA 34 3 vr20 usr20 (lp4_1 : (List (List Int))) :: _ :: _ :: _ :: _ :: _ :: _ :: _ :: _ :: _ :: _ :: _ :: _ :: _ :: L) w := hp
                replace hl4 : m_assessorref37_Subtrees_lp4 x1 x2 b23 lp3_0 lp4_0 lp4_1 = some st := hl4
                unfold m_assessorref37_Subtrees_lp4 at hl4
                refine k_seq ?_
                refine k_seq ?_
                refine k_region ?_
                refine s_val (wk0 rfl) rfl rfl hE hp (v := (.int .i64 lp4_0)) (ex_move rfl hE rfl) ?_
                intro a hE
                refine s_val (wk0 rfl) rfl rfl hE hp (v := (.pointer (some ⟨y13, 0, none⟩))) (ex_field rfl hE rfl (fldty60_0 _ _)) ?_
                intro a hE
                refine s_val (wk0 rfl) rfl rfl hE hp (v := y8) (ex_load rfl hE rfl (fun w hw => run_ld1 varty34 (Hp.c 2 rfl 0 rfl w hw))) ?_
                intro a hE
                refine s_val (wk0 rfl) rfl rfl hE hp (v := (.int .i64 (x2.kinds.length : Int))) (ex_len rfl hE rfl (OwnSl.len hp 4 rfl slty34)) ?_
                intro a hE
                refine s_val (wk0 rfl) rfl rfl hE hp (v := (.bool (decide (lp4_0 < (x2.kinds.length : Int))))) (ex_lss rfl hE rfl rfl) ?_
                intro a hE
                refine s_nil ?_
                refine k_if hE rfl (fun hb8 => ?_) (fun hb8 => ?_)
                · replace hl4 := (it hb8).symm.trans hl4
                  refine k_skip ?_
                  refine k_seq ?_
                  refine k_plain ?_
                  obtain ⟨x8, ex8, hl4⟩ := bnd hl4
                  obtain ⟨x9, ex9, hl4⟩ := bnd hl4
                  obtain ⟨x10, ex10, hl4⟩ := bnd hl4
                  obtain ⟨x11, ex11, hl4⟩ := bnd hl4
                  obtain ⟨x12, ex12, hl4⟩ := bnd hl4
                  obtain ⟨x13, ex13, hl4⟩ := bnd hl4
                  have hp := hp.drew
                  refine k_heldV ([([], At0 Z ρ), ([21], At1 Z ρ (TblA 34 3 vr20 usr20 (lp4_1 : (List (List Int))))), ([], At1 Z ρ (TblA 34 3 vr19 usr19 (b23 : (List (List Int))))), ([], At1 Z ρ (Pt y13 (.cells #[y8, y9, y10, y11] 60 (0, 0)))), ([], At1 Z ρ (Pt y12 (.cells #[y4, y5, y6, y7] 60 (0, 0)))), ([], At1 Z ρ (OwnSl 3 y11 x2.numbers)), ([], At1 Z ρ (OwnSl 3 y7 x1.numbers))] : Facts) (fun a w => Env 89 [(5, (.pointer (some ⟨y12, 0, none⟩))), (6, (.pointer (some ⟨y13, 0, none⟩))), (7, vr19), (10, vr20), (11, (.int .i64 lp3_0)), (12, (.int .i64 lp4_0))] a ∧ Hp Z ρ (TblA 34 3 vr20 usr20 (lp4_1.set x8.toNat (x9.set x10.toNat x12) : (List (List Int))) :: TblA 34 3 vr19 usr19 (b23 : (List (List Int))) :: Pt y13 (.cells #[y8, y9, y10, y11] 60 (0, 0)) :: Pt y12 (.cells #[y4, y5, y6, y7] 60 (0, 0)) :: OwnSl 3 y8 x2.kinds :: OwnSl 9 y9 x2.texts :: OwnSl 3 y10 x2.left :: OwnSl 3 y11 x2.numbers :: OwnSl 3 y4 x1.kinds :: OwnSl 9 y5 x1.texts :: OwnSl 3 y6 x1.left :: OwnSl 3 y7 x1.numbers :: Pt b2 (.cells #[(.int .i64 p1.kind), (.string p1.text), (.int .i64 p1.at_), (.int .i64 p1.fin), vp1_kids] 24 (0, 0)) :: Pt b1 (.cells #[(.int .i64 p0.kind), (.string p0.text), (.int .i64 p0.at_), (.int .i64 p0.fin), vp0_kids] 24 (0, 0)) :: L) w) (by kernel_rfl) ⟨fun _ => ⟨_, hp⟩, fun _ => ⟨_, (hp.get 0 rfl)⟩, fun _ => ⟨_, (hp.get 1 rfl)⟩, fun _ => ⟨_, (hp.get 2 rfl)⟩, fun _ => ⟨_, (hp.get 3 rfl)⟩, fun _ => ⟨_, (hp.get 7 rfl)⟩, fun _ => ⟨_, (hp.get 11 rfl)⟩, trivial⟩ (fun hS => ?_) ?_
                  ·
                    generalize w.drew = w at hS hp ⊢
                    refine v_take0 0 (wk0 rfl) rfl rfl rfl hE (by kernel_rfl) (by kernel_rfl) (by kernel_rfl) rfl (by kernel_rfl) hS (v := vr20) (fun _ => ex_move rfl hE rfl) ?_
                    intro a hE hS
                    refine v_take0 1 (wk0 rfl) rfl rfl rfl hE (by kernel_rfl) (by kernel_rfl) (by kernel_rfl) rfl (by kernel_rfl) hS (v := (.pointer (some ⟨y12, 3, none⟩))) (fun _ => ex_field rfl hE rfl (fldty60_3 _ _)) ?_
                    intro a hE hS
                    refine v_take1 2 4 (wk0 rfl) rfl rfl rfl hE (by kernel_rfl) (by kernel_rfl) (by kernel_rfl) rfl (by kernel_rfl) hS (v := y7) (fun _ => ex_load rfl hE rfl (fun w hw => run_ld1 varty34 (Hp.c 0 rfl 3 rfl w hw))) ?_
                    intro a hE hS
                    refine v_take0 3 (wk0 rfl) rfl rfl rfl hE (by kernel_rfl) (by kernel_rfl) (by kernel_rfl) rfl (by kernel_rfl) hS (v := (.int .i64 lp3_0)) (fun _ => ex_move rfl hE rfl) ?_
                    intro a hE hS
                    obtain ⟨b33, b33o, b33r, b33v, b33f⟩ := OwnSl.at hp 11 rfl slty34 ex8
                    have b33f : ∀ (j : Nat) (u : Value), ([(.int .i64 x8)] : List Value)[j]? = some u → ∀ ρ' L' w, Hp Z ρ' (OwnSl 3 y7 x1.numbers :: L') w → w.cell? ⟨b33, b33o + j, none⟩ = some u := b33f
                    refine v_take0 4 (wk0 rfl) rfl rfl rfl hE (by kernel_rfl) (by kernel_rfl) (by kernel_rfl) rfl (by kernel_rfl) hS (v := (.pointer (some ⟨b33, b33o, none⟩))) (fun _ => ex_index rfl hE rfl rfl b33r) ?_
                    intro a hE hS
                    refine v_take1 5 6 (wk0 rfl) rfl rfl rfl hE (by kernel_rfl) (by kernel_rfl) (by kernel_rfl) rfl (by kernel_rfl) hS (v := (.int .i64 x8)) (fun _ => ex_load rfl hE rfl (fun w hw => run_ld1 varty3 (b33f 0 _ rfl _ _ w (hw.get 0 rfl)))) ?_
                    intro a hE hS
                    obtain ⟨b34u, b34, b34o, b34h, b34r, b34v, b34f⟩ := TblA.hdr hp 0 rfl slty30 ex9
                    have b34f : ∀ (j : Nat) (u : Value), ([(Sl.v b34u)] : List Value)[j]? = some u → ∀ ρ' L' w, Hp Z ρ' (TblA 34 3 vr20 usr20 (lp4_1 : (List (List Int))) :: L') w → w.cell? ⟨b34, b34o + j, none⟩ = some u := b34f
                    refine v_take0 6 (wk0 rfl) rfl rfl rfl hE (by kernel_rfl) (by kernel_rfl) (by kernel_rfl) rfl (by kernel_rfl) hS (v := (.pointer (some ⟨b34, b34o, none⟩))) (fun _ => ex_index rfl hE rfl rfl b34r) ?_
                    intro a hE hS
                    refine v_take1 7 1 (wk0 rfl) rfl rfl rfl hE (by kernel_rfl) (by kernel_rfl) (by kernel_rfl) rfl (by kernel_rfl) hS (v := (Sl.v b34u)) (fun _ => ex_load rfl hE rfl (fun w hw => run_ld1 varty34 (b34f 0 _ rfl _ _ w (hw.get 0 rfl)))) ?_
                    intro a hE hS
                    refine v_take0 8 (wk0 rfl) rfl rfl rfl hE (by kernel_rfl) (by kernel_rfl) (by kernel_rfl) rfl (by kernel_rfl) hS (v := (.pointer (some ⟨y13, 3, none⟩))) (fun _ => ex_field rfl hE rfl (fldty60_3 _ _)) ?_
                    intro a hE hS
                    refine v_take1 9 3 (wk0 rfl) rfl rfl rfl hE (by kernel_rfl) (by kernel_rfl) (by kernel_rfl) rfl (by kernel_rfl) hS (v := y11) (fun _ => ex_load rfl hE rfl (fun w hw => run_ld1 varty34 (Hp.c 0 rfl 3 rfl w hw))) ?_
                    intro a hE hS
                    refine v_take0 10 (wk0 rfl) rfl rfl rfl hE (by kernel_rfl) (by kernel_rfl) (by kernel_rfl) rfl (by kernel_rfl) hS (v := (.int .i64 lp4_0)) (fun _ => ex_move rfl hE rfl) ?_
                    intro a hE hS
                    obtain ⟨b35, b35o, b35r, b35v, b35f⟩ := OwnSl.at hp 7 rfl slty34 ex10
                    have b35f : ∀ (j : Nat) (u : Value), ([(.int .i64 x10)] : List Value)[j]? = some u → ∀ ρ' L' w, Hp Z ρ' (OwnSl 3 y11 x2.numbers :: L') w → w.cell? ⟨b35, b35o + j, none⟩ = some u := b35f
                    refine v_take0 11 (wk0 rfl) rfl rfl rfl hE (by kernel_rfl) (by kernel_rfl) (by kernel_rfl) rfl (by kernel_rfl) hS (v := (.pointer (some ⟨b35, b35o, none⟩))) (fun _ => ex_index rfl hE rfl rfl b35r) ?_
                    intro a hE hS
                    refine v_take1 12 5 (wk0 rfl) rfl rfl rfl hE (by kernel_rfl) (by kernel_rfl) (by kernel_rfl) rfl (by kernel_rfl) hS (v := (.int .i64 x10)) (fun _ => ex_load rfl hE rfl (fun w hw => run_ld1 varty3 (b35f 0 _ rfl _ _ w (hw.get 0 rfl)))) ?_
                    intro a hE hS
                    refine v_take0 13 (wk0 rfl) rfl rfl rfl hE (by kernel_rfl) (by kernel_rfl) (by kernel_rfl) rfl (by kernel_rfl) hS (v := vr19) (fun _ => ex_move rfl hE rfl) ?_
                    intro a hE hS
                    refine v_take0 14 (wk0 rfl) rfl rfl rfl hE (by kernel_rfl) (by kernel_rfl) (by kernel_rfl) rfl (by kernel_rfl) hS (v := (.int .i64 lp3_0)) (fun _ => ex_move rfl hE rfl) ?_
                    intro a hE hS
                    obtain ⟨b36u, b36, b36o, b36h, b36r, b36v, b36f⟩ := TblA.hdr hp 1 rfl slty30 ex11
                    have b36f : ∀ (j : Nat) (u : Value), ([(Sl.v b36u)] : List Value)[j]? = some u → ∀ ρ' L' w, Hp Z ρ' (TblA 34 3 vr19 usr19 (b23 : (List (List Int))) :: L') w → w.cell? ⟨b36, b36o + j, none⟩ = some u := b36f
                    refine v_take0 15 (wk0 rfl) rfl rfl rfl hE (by kernel_rfl) (by kernel_rfl) (by kernel_rfl) rfl (by kernel_rfl) hS (v := (.pointer (some ⟨b36, b36o, none⟩))) (fun _ => ex_index rfl hE rfl rfl b36r) ?_
                    intro a hE hS
                    refine v_take1 16 2 (wk0 rfl) rfl rfl rfl hE (by kernel_rfl) (by kernel_rfl) (by kernel_rfl) rfl (by kernel_rfl) hS (v := (Sl.v b36u)) (fun _ => ex_load rfl hE rfl (fun w hw => run_ld1 varty34 (b36f 0 _ rfl _ _ w (hw.get 0 rfl)))) ?_
                    intro a hE hS
                    refine v_take0 17 (wk0 rfl) rfl rfl rfl hE (by kernel_rfl) (by kernel_rfl) (by kernel_rfl) rfl (by kernel_rfl) hS (v := (.int .i64 lp4_0)) (fun _ => ex_move rfl hE rfl) ?_
                    intro a hE hS
                    obtain ⟨b37, b37o, b37r, b37v, b37f⟩ := TblA.at hp 1 rfl slty34 b36h ex11 ex12
                    have b37f : ∀ (j : Nat) (u : Value), ([(.int .i64 x12)] : List Value)[j]? = some u → ∀ ρ' L' w, Hp Z ρ' (TblA 34 3 vr19 usr19 (b23 : (List (List Int))) :: L') w → w.cell? ⟨b37, b37o + j, none⟩ = some u := b37f
                    refine v_take0 18 (wk0 rfl) rfl rfl rfl hE (by kernel_rfl) (by kernel_rfl) (by kernel_rfl) rfl (by kernel_rfl) hS (v := (.pointer (some ⟨b37, b37o, none⟩))) (fun _ => ex_index rfl hE rfl rfl b37r) ?_
                    intro a hE hS
                    refine v_take1 19 2 (wk0 rfl) rfl rfl rfl hE (by kernel_rfl) (by kernel_rfl) (by kernel_rfl) rfl (by kernel_rfl) hS (v := (.int .i64 x12)) (fun _ => ex_load rfl hE rfl (fun w hw => run_ld1 varty3 (b37f 0 _ rfl _ _ w (hw.get 0 rfl)))) ?_
                    intro a hE hS
                    obtain ⟨b38, b38o, b38r, b38v, b38f⟩ := TblA.at hp 0 rfl slty34 b34h ex9 ex13
                    have b38f : ∀ (j : Nat) (u : Value), ([(.int .i64 x13)] : List Value)[j]? = some u → ∀ ρ' L' w, Hp Z ρ' (TblA 34 3 vr20 usr20 (lp4_1 : (List (List Int))) :: L') w → w.cell? ⟨b38, b38o + j, none⟩ = some u := b38f
                    refine v_take0 20 (wk0 rfl) rfl rfl rfl hE (by kernel_rfl) (by kernel_rfl) (by kernel_rfl) rfl (by kernel_rfl) hS (v := (.pointer (some ⟨b38, b38o, none⟩))) (fun _ => ex_index rfl hE rfl rfl b38r) ?_
                    intro a hE hS
                    refine v_all [21] (by kernel_rfl) rfl ?_
                    refine List.forall_mem_cons.2 ⟨?_, fun _ h => absurd h (by simp)⟩
                    ·
                      refine h_op rfl ?_
                      refine s_tstel (wk0 rfl) rfl hE hp rfl rfl rfl 0 rfl b34h ex9 ex13 b38v 0 (e' := x12) varty3.size_ rfl rfl rfl ⟨rfl, rfl⟩ ?_
                      intro w hp
                      have hp : Hp Z ρ (TblA 34 3 vr20 usr20 (lp4_1.set x8.toNat (x9.set x10.toNat x12) : (List (List Int))) :: _ :: _ :: _ :: _ :: _ :: _ :: _ :: _ :: _ :: _ :: _ :: _ :: _ :: L) w := hp
                      refine s_nil (and_with ⟨fun _ => ⟨_, hp⟩, dead (by kernel_rfl), fun _ => ⟨_, (hp.get 1 rfl)⟩, fun _ => ⟨_, (hp.get 2 rfl)⟩, fun _ => ⟨_, (hp.get 3 rfl)⟩, fun _ => ⟨_, (hp.get 7 rfl)⟩, fun _ => ⟨_, (hp.get 11 rfl)⟩, trivial⟩ fun hS => ?_)
                      exact v_done (by kernel_rfl) ⟨hE.cut ⟨rfl, rfl, rfl, rfl, rfl, rfl, trivial⟩, hp⟩
                  · rintro a w ⟨hE, hp⟩
                    refine k_region ?_
                    refine s_val (wk0 rfl) rfl rfl hE hp (v := (.int .i64 lp4_0)) (ex_move rfl hE rfl) ?_
                    intro a hE
                    obtain ⟨x14, ex14, hl4⟩ := bnd hl4
                    refine s_val (wk0 rfl) rfl rfl hE hp (v := (.int .i64 x14)) (ex_add rfl hE rfl rfl (inK_some ex14)) ?_
                    intro a hE
                    refine s_val (wk0 rfl) rfl rfl hE hp (v := (.int .i64 x14)) (ex_asn rfl hE rfl) ?_
                    intro a hE
                    refine s_nil ?_
                    exact ⟨_, (Option.some.inj hl4).symm, hE.cut ⟨rfl, rfl, rfl, rfl, rfl, rfl, trivial⟩, hp⟩
                · replace hl4 := (ie hb8).symm.trans hl4
                  refine k_exit ?_
                  refine ⟨_, (Option.some.inj hl4).symm, fun hbb => ?_⟩
                  subst hbb
                  exact ⟨hE.cut ⟨rfl, rfl, rfl, rfl, rfl, trivial⟩, hp⟩
            · rintro a w ⟨hE, hp⟩
              refine k_region ?_
              refine s_val (wk0 rfl) rfl rfl hE hp (v := (.int .i64 lp3_0)) (ex_move rfl hE rfl) ?_
              intro a hE
              obtain ⟨x15, ex15, hl3⟩ := bnd hl3
              refine s_val (wk0 rfl) rfl rfl hE hp (v := (.int .i64 x15)) (ex_add rfl hE rfl rfl (inK_some ex15)) ?_
              intro a hE
              refine s_val (wk0 rfl) rfl rfl hE hp (v := (.int .i64 x15)) (ex_asn rfl hE rfl) ?_
              intro a hE
              refine s_nil ?_
              exact ⟨_, (Option.some.inj hl3).symm, hE.cut ⟨rfl, rfl, rfl, rfl, rfl, trivial⟩, hp⟩
          · replace hl3 := (ie hb6).symm.trans hl3
            refine k_exit ?_
            refine ⟨_, (Option.some.inj hl3).symm, fun hbb => ?_⟩
            subst hbb
            exact ⟨hE.cut ⟨rfl, trivial⟩, hp⟩
      · rintro a w ⟨hE, hp⟩
        refine k_seq ?_
        refine k_region ?_
        refine s_val (wk0 rfl) rfl rfl hE hp (v := vr20) (ex_move rfl hE rfl) ?_
        intro a hE
        refine s_val (wk0 rfl) rfl rfl hE hp (v := vr20) (ex_asn rfl hE rfl) ?_
        intro a hE
        refine s_nil ?_
        refine k_ret ?_
        obtain rfl := Option.some.inj hm
        exact ret1 hE rfl rfl ⟨_, rfl, _, _, rfl, ((((((((((((((((((((((((((hp.get 13 rfl).drop).get 12 rfl).drop).get 11 rfl).drop).get 10 rfl).drop).get 9 rfl).drop).get 8 rfl).drop).get 7 rfl).drop).get 6 rfl).drop).get 5 rfl).drop).get 4 rfl).drop).get 3 rfl).drop).get 2 rfl).drop).get 1 rfl).drop)⟩
/- assessor/assessorref37.Bound -/
set_option maxRecDepth 100000 in
set_option maxHeartbeats 4000000 in
theorem c_assessorref37_Bound {Z : World} {ρ : PH} {L : List Atom} {w : World} (p0 : Node) (vp0_kids : Value) (hp0_kids : RoSl ρ vp0_kids p0.kids) (p1 : Node) (vp1_kids : Value) (hp1_kids : RoSl ρ vp1_kids p1.kids) (hp : Hp Z ρ (L) w) (r : Int) (hm : m_assessorref37_Bound p0 p1 = some r) :
    Calls Try.prog 16 #[(.agg #[(.int .i64 p0.kind), (.string p0.text), (.int .i64 p0.at_), (.int .i64 p0.fin), vp0_kids]), (.agg #[(.int .i64 p1.kind), (.string p1.text), (.int .i64 p1.at_), (.int .i64 p1.fin), vp1_kids])] w (Ret fun v w' => v = (.int .i64 r) ∧ Hp Z ρ (L) w') := by
  refine enter (N := 85) Try.func16 rfl rfl [(0, (.agg #[(.int .i64 p0.kind), (.string p0.text), (.int .i64 p0.at_), (.int .i64 p0.fin), vp0_kids])), (1, (.agg #[(.int .i64 p1.kind), (.string p1.text), (.int .i64 p1.at_), (.int .i64 p1.fin), vp1_kids]))] rfl (argsIn_mem ⟨rfl, rfl, trivial⟩) fun a hE => ?_
  unfold m_assessorref37_Bound at hm
  refine k_seq ?_
  refine k_region ?_
  refine s_box (wk0 rfl) rfl rfl hE hp rfl (v := (.agg #[(.int .i64 p0.kind), (.string p0.text), (.int .i64 p0.at_), (.int .i64 p0.fin), vp0_kids])) rfl ?_
  intro a w b1 hE hp
  have hp : Hp Z ρ (Pt b1 (.cells #[(.int .i64 p0.kind), (.string p0.text), (.int .i64 p0.at_), (.int .i64 p0.fin), vp0_kids] 24 (0, 0)) :: L) w := hp
  refine s_box (wk0 rfl) rfl rfl hE hp rfl (v := (.agg #[(.int .i64 p1.kind), (.string p1.text), (.int .i64 p1.at_), (.int .i64 p1.fin), vp1_kids])) rfl ?_
  intro a w b2 hE hp
  have hp : Hp Z ρ (Pt b2 (.cells #[(.int .i64 p1.kind), (.string p1.text), (.int .i64 p1.at_), (.int .i64 p1.fin), vp1_kids] 24 (0, 0)) :: _ :: L) w := hp
  refine s_val (wk0 rfl) rfl rfl hE hp (v := (.int .i64 0)) (ex_asn rfl hE rfl) ?_
  intro a hE
  refine s_nil ?_
  refine k_seq ?_
  obtain ⟨x1, ex1, hm⟩ := bnd hm
  obtain ⟨x2, ex2, hm⟩ := bnd hm
  have hp := hp.drew
  refine k_heldV ([([], At0 Z ρ), ([], At1 Z ρ (Pt b2 (.cells #[(.int .i64 p1.kind), (.string p1.text), (.int .i64 p1.at_), (.int .i64 p1.fin), vp1_kids] 24 (0, 0)))), ([], At1 Z ρ (Pt b1 (.cells #[(.int .i64 p0.kind), (.string p0.text), (.int .i64 p0.at_), (.int .i64 p0.fin), vp0_kids] 24 (0, 0))))] : Facts) (fun a w => ∃ y12 : Nat, ∃ y11 : Nat, ∃ y7 : Value, ∃ y8 : Value, ∃ y9 : Value, ∃ y10 : Value, ∃ y3 : Value, ∃ y4 : Value, ∃ y5 : Value, ∃ y6 : Value, Env 85 [(5, (.pointer (some ⟨y11, 0, none⟩))), (6, (.pointer (some ⟨y12, 0, none⟩)))] a ∧ Hp Z ρ (Pt y12 (.cells #[y7, y8, y9, y10] 60 (0, 0)) :: Pt y11 (.cells #[y3, y4, y5, y6] 60 (0, 0)) :: OwnSl 3 y7 x2.kinds :: OwnSl 9 y8 x2.texts :: OwnSl 3 y9 x2.left :: OwnSl 3 y10 x2.numbers :: OwnSl 3 y3 x1.kinds :: OwnSl 9 y4 x1.texts :: OwnSl 3 y5 x1.left :: OwnSl 3 y6 x1.numbers :: Pt b2 (.cells #[(.int .i64 p1.kind), (.string p1.text), (.int .i64 p1.at_), (.int .i64 p1.fin), vp1_kids] 24 (0, 0)) :: Pt b1 (.cells #[(.int .i64 p0.kind), (.string p0.text), (.int .i64 p0.at_), (.int .i64 p0.fin), vp0_kids] 24 (0, 0)) :: L) w) (by kernel_rfl) ⟨fun _ => ⟨_, hp⟩, fun _ => ⟨_, (hp.get 0 rfl)⟩, fun _ => ⟨_, (hp.get 1 rfl)⟩, trivial⟩ (fun hS => ?_) ?_
  ·
    generalize w.drew = w at hS hp ⊢
    refine v_take0 0 (wk0 rfl) rfl rfl rfl hE (by kernel_rfl) (by kernel_rfl) (by kernel_rfl) rfl (by kernel_rfl) hS (v := (.agg #[(.slice none 0 0), (.slice none 0 0), (.slice none 0 0), (.slice none 0 0)])) (fun _ => ex_bld rfl hE [] (by exact trivial) (fun w => by simp [Instr.build, Instr.fill, Value.cells, go_sem])) ?_
    intro a hE hS
    refine v_take1 1 2 (wk0 rfl) rfl rfl rfl hE (by kernel_rfl) (by kernel_rfl) (by kernel_rfl) rfl (by kernel_rfl) hS (v := (.agg #[(.int .i64 p0.kind), (.string p0.text), (.int .i64 p0.at_), (.int .i64 p0.fin), vp0_kids])) (fun _ => ex_load rfl hE rfl (fun w hw => run_ldN (cs := [(.int .i64 p0.kind), (.string p0.text), (.int .i64 p0.at_), (.int .i64 p0.fin), vp0_kids]) varty24 (Hp.cN 0 rfl 0 _ (sub_all rfl) w hw))) ?_
    intro a hE hS
    refine v_take0 3 (wk0 rfl) rfl rfl rfl hE (by kernel_rfl) (by kernel_rfl) (by kernel_rfl) rfl (by kernel_rfl) hS (v := (.agg #[(.slice none 0 0), (.slice none 0 0), (.slice none 0 0), (.slice none 0 0)])) (fun _ => ex_bld rfl hE [] (by exact trivial) (fun w => by simp [Instr.build, Instr.fill, Value.cells, go_sem])) ?_
    intro a hE hS
    refine v_take1 4 1 (wk0 rfl) rfl rfl rfl hE (by kernel_rfl) (by kernel_rfl) (by kernel_rfl) rfl (by kernel_rfl) hS (v := (.agg #[(.int .i64 p1.kind), (.string p1.text), (.int .i64 p1.at_), (.int .i64 p1.fin), vp1_kids])) (fun _ => ex_load rfl hE rfl (fun w hw => run_ldN (cs := [(.int .i64 p1.kind), (.string p1.text), (.int .i64 p1.at_), (.int .i64 p1.fin), vp1_kids]) varty24 (Hp.cN 0 rfl 0 _ (sub_all rfl) w hw))) ?_
    intro a hE hS
    refine v_all [2, 6, 7] (by kernel_rfl) rfl ?_
    refine List.forall_mem_cons.2 ⟨?_, List.forall_mem_cons.2 ⟨?_, List.forall_mem_cons.2 ⟨?_, fun _ h => absurd h (by simp)⟩⟩⟩
    ·
      refine h_op rfl ?_
      have hp := hp.emp (OwnSl.nil (α := Int) 3)
      have hp : Hp Z ρ (OwnSl 3 (.slice none 0 0) ([] : List Int) :: _ :: _ :: L) w := hp
      have hp := hp.emp (OwnSl.nil (α := ByteArray) 9)
      have hp : Hp Z ρ (OwnSl 9 (.slice none 0 0) ([] : List ByteArray) :: _ :: _ :: _ :: L) w := hp
      have hp := hp.emp (OwnSl.nil (α := Int) 3)
      have hp : Hp Z ρ (OwnSl 3 (.slice none 0 0) ([] : List Int) :: _ :: _ :: _ :: _ :: L) w := hp
      have hp := hp.emp (OwnSl.nil (α := Int) 3)
      have hp : Hp Z ρ (OwnSl 3 (.slice none 0 0) ([] : List Int) :: _ :: _ :: _ :: _ :: _ :: L) w := hp
      refine s_call (wk0 rfl) rfl rfl hE rfl [(.agg #[(.slice none 0 0), (.slice none 0 0), (.slice none 0 0), (.slice none 0 0)]), (.agg #[(.int .i64 p0.kind), (.string p0.text), (.int .i64 p0.at_), (.int .i64 p0.fin), vp0_kids]), (.int .i64 0)] ⟨rfl, rfl, rfl, trivial⟩ ent31 (c_assessorref37_flat (RFlat.mk ([]) ([]) ([]) ([])) (.slice none 0 0) (.slice none 0 0) (.slice none 0 0) (.slice none 0 0) p0 vp0_kids hp0_kids 0 (((hp.get 1 rfl).get 2 rfl).get 3 rfl) x1 ex1) Ret.ret ?_
      intro v a w hR hE
      obtain ⟨vr3_kinds, vr3_texts, vr3_left, vr3_numbers, rfl, hp⟩ := Ret.of hR
      have hp : Hp Z ρ (OwnSl 3 vr3_kinds x1.kinds :: OwnSl 9 vr3_texts x1.texts :: OwnSl 3 vr3_left x1.left :: OwnSl 3 vr3_numbers x1.numbers :: _ :: _ :: L) w := hp
      refine s_nil (and_with ⟨fun _ => ⟨_, hp⟩, fun _ => ⟨_, (hp.get 4 rfl)⟩, fun _ => ⟨_, (hp.get 5 rfl)⟩, trivial⟩ fun hS => ?_)
      refine v_all [5, 6, 7] (by kernel_rfl) rfl ?_
      refine List.forall_mem_cons.2 ⟨?_, List.forall_mem_cons.2 ⟨?_, List.forall_mem_cons.2 ⟨?_, fun _ h => absurd h (by simp)⟩⟩⟩
      ·
        refine h_op rfl ?_
        have hp := hp.emp (OwnSl.nil (α := Int) 3)
        have hp : Hp Z ρ (OwnSl 3 (.slice none 0 0) ([] : List Int) :: _ :: _ :: _ :: _ :: _ :: _ :: L) w := hp
        have hp := hp.emp (OwnSl.nil (α := ByteArray) 9)
        have hp : Hp Z ρ (OwnSl 9 (.slice none 0 0) ([] : List ByteArray) :: _ :: _ :: _ :: _ :: _ :: _ :: _ :: L) w := hp
        have hp := hp.emp (OwnSl.nil (α := Int) 3)
        have hp : Hp Z ρ (OwnSl 3 (.slice none 0 0) ([] : List Int) :: _ :: _ :: _ :: _ :: _ :: _ :: _ :: _ :: L) w := hp
        have hp := hp.emp (OwnSl.nil (α := Int) 3)
        have hp : Hp Z ρ (OwnSl 3 (.slice none 0 0) ([] : List Int) :: _ :: _ :: _ :: _ :: _ :: _ :: _ :: _ :: _ :: L) w := hp
        refine s_call (wk0 rfl) rfl rfl hE rfl [(.agg #[(.slice none 0 0), (.slice none 0 0), (.slice none 0 0), (.slice none 0 0)]), (.agg #[(.int .i64 p1.kind), (.string p1.text), (.int .i64 p1.at_), (.int .i64 p1.fin), vp1_kids]), (.int .i64 0)] ⟨rfl, rfl, rfl, trivial⟩ ent31 (c_assessorref37_flat (RFlat.mk ([]) ([]) ([]) ([])) (.slice none 0 0) (.slice none 0 0) (.slice none 0 0) (.slice none 0 0) p1 vp1_kids hp1_kids 0 (((hp.get 1 rfl).get 2 rfl).get 3 rfl) x2 ex2) Ret.ret ?_
        intro v a w hR hE
        obtain ⟨vr4_kinds, vr4_texts, vr4_left, vr4_numbers, rfl, hp⟩ := Ret.of hR
        have hp : Hp Z ρ (OwnSl 3 vr4_kinds x2.kinds :: OwnSl 9 vr4_texts x2.texts :: OwnSl 3 vr4_left x2.left :: OwnSl 3 vr4_numbers x2.numbers :: _ :: _ :: _ :: _ :: _ :: _ :: L) w := hp
        refine s_nil (and_with ⟨fun _ => ⟨_, hp⟩, fun _ => ⟨_, (hp.get 8 rfl)⟩, fun _ => ⟨_, (hp.get 9 rfl)⟩, trivial⟩ fun hS => ?_)
        refine v_all [6, 7] (by kernel_rfl) rfl ?_
        refine List.forall_mem_cons.2 ⟨?_, List.forall_mem_cons.2 ⟨?_, fun _ h => absurd h (by simp)⟩⟩
        ·
          refine h_op rfl ?_
          refine s_new (wk0 rfl) rfl rfl hE hp rfl [(.slice none 0 0), (.slice none 0 0), (.slice none 0 0), (.slice none 0 0)] (fun w => by simp [Instr.alloc, go_sem] <;> rfl) ?_
          intro a w b5 hE hp
          have hp : Hp Z ρ (Pt b5 (.cells #[(.slice none 0 0), (.slice none 0 0), (.slice none 0 0), (.slice none 0 0)] 60 (0, 0)) :: _ :: _ :: _ :: _ :: _ :: _ :: _ :: _ :: _ :: _ :: L) w := hp
          refine s_nil (and_with ⟨fun _ => ⟨_, hp⟩, fun _ => ⟨_, (hp.get 9 rfl)⟩, fun _ => ⟨_, (hp.get 10 rfl)⟩, trivial⟩ fun hS => ?_)
          refine v_all [7] (by kernel_rfl) rfl ?_
          refine List.forall_mem_cons.2 ⟨?_, fun _ h => absurd h (by simp)⟩
          ·
            refine h_op rfl ?_
            refine s_new (wk0 rfl) rfl rfl hE hp rfl [(.slice none 0 0), (.slice none 0 0), (.slice none 0 0), (.slice none 0 0)] (fun w => by simp [Instr.alloc, go_sem] <;> rfl) ?_
            intro a w b6 hE hp
            have hp : Hp Z ρ (Pt b6 (.cells #[(.slice none 0 0), (.slice none 0 0), (.slice none 0 0), (.slice none 0 0)] 60 (0, 0)) :: _ :: _ :: _ :: _ :: _ :: _ :: _ :: _ :: _ :: _ :: _ :: L) w := hp
            refine s_nil (and_with ⟨fun _ => ⟨_, hp⟩, fun _ => ⟨_, (hp.get 10 rfl)⟩, fun _ => ⟨_, (hp.get 11 rfl)⟩, trivial⟩ fun hS => ?_)
            refine v_all [8] (by kernel_rfl) rfl ?_
            refine List.forall_mem_cons.2 ⟨?_, fun _ h => absurd h (by simp)⟩
            ·
              refine h_op rfl ?_
              refine s_store (wk0 rfl) rfl hE hp rfl rfl rfl 1 rfl varty60.size_ rfl (allOne_mem ⟨(OwnSl.one hp 6 rfl), (OwnSl.one hp 7 rfl), (OwnSl.one hp 8 rfl), (OwnSl.one hp 9 rfl), trivial⟩) [vr3_kinds, vr3_texts, vr3_left, vr3_numbers] rfl ?_
              intro w hp
              have hp : Hp Z ρ (_ :: Pt b5 (.cells #[vr3_kinds, vr3_texts, vr3_left, vr3_numbers] 60 (0, 0)) :: _ :: _ :: _ :: _ :: _ :: _ :: _ :: _ :: _ :: _ :: L) w := hp
              refine s_nil (and_with ⟨fun _ => ⟨_, hp⟩, fun _ => ⟨_, (hp.get 10 rfl)⟩, fun _ => ⟨_, (hp.get 11 rfl)⟩, trivial⟩ fun hS => ?_)
              refine v_all [9] (by kernel_rfl) rfl ?_
              refine List.forall_mem_cons.2 ⟨?_, fun _ h => absurd h (by simp)⟩
              ·
                refine h_op rfl ?_
                refine s_store (wk0 rfl) rfl hE hp rfl rfl rfl 0 rfl varty60.size_ rfl (allOne_mem ⟨(OwnSl.one hp 2 rfl), (OwnSl.one hp 3 rfl), (OwnSl.one hp 4 rfl), (OwnSl.one hp 5 rfl), trivial⟩) [vr4_kinds, vr4_texts, vr4_left, vr4_numbers] rfl ?_
                intro w hp
                have hp : Hp Z ρ (Pt b6 (.cells #[vr4_kinds, vr4_texts, vr4_left, vr4_numbers] 60 (0, 0)) :: _ :: _ :: _ :: _ :: _ :: _ :: _ :: _ :: _ :: _ :: _ :: L) w := hp
                refine s_nil (and_with ⟨fun _ => ⟨_, hp⟩, fun _ => ⟨_, (hp.get 10 rfl)⟩, fun _ => ⟨_, (hp.get 11 rfl)⟩, trivial⟩ fun hS => ?_)
                exact v_done (by kernel_rfl) ⟨_, _, _, _, _, _, _, _, _, _, hE.cut ⟨rfl, rfl, trivial⟩, hp⟩
        ·
          refine h_op rfl ?_
          refine s_new (wk0 rfl) rfl rfl hE hp rfl [(.slice none 0 0), (.slice none 0 0), (.slice none 0 0), (.slice none 0 0)] (fun w => by simp [Instr.alloc, go_sem] <;> rfl) ?_
          intro a w b7 hE hp
          have hp : Hp Z ρ (Pt b7 (.cells #[(.slice none 0 0), (.slice none 0 0), (.slice none 0 0), (.slice none 0 0)] 60 (0, 0)) :: _ :: _ :: _ :: _ :: _ :: _ :: _ :: _ :: _ :: _ :: L) w := hp
          refine s_nil (and_with ⟨fun _ => ⟨_, hp⟩, fun _ => ⟨_, (hp.get 9 rfl)⟩, fun _ => ⟨_, (hp.get 10 rfl)⟩, trivial⟩ fun hS => ?_)
          refine v_all [6] (by kernel_rfl) rfl ?_
          refine List.forall_mem_cons.2 ⟨?_, fun _ h => absurd h (by simp)⟩
          ·
            refine h_op rfl ?_
            refine s_new (wk0 rfl) rfl rfl hE hp rfl [(.slice none 0 0), (.slice none 0 0), (.slice none 0 0), (.slice none 0 0)] (fun w => by simp [Instr.alloc, go_sem] <;> rfl) ?_
            intro a w b8 hE hp
            have hp : Hp Z ρ (Pt b8 (.cells #[(.slice none 0 0), (.slice none 0 0), (.slice none 0 0), (.slice none 0 0)] 60 (0, 0)) :: _ :: _ :: _ :: _ :: _ :: _ :: _ :: _ :: _ :: _ :: _ :: L) w := hp
            refine s_nil (and_with ⟨fun _ => ⟨_, hp⟩, fun _ => ⟨_, (hp.get 10 rfl)⟩, fun _ => ⟨_, (hp.get 11 rfl)⟩, trivial⟩ fun hS => ?_)
            refine v_all [8] (by kernel_rfl) rfl ?_
            refine List.forall_mem_cons.2 ⟨?_, fun _ h => absurd h (by simp)⟩
            ·
              refine h_op rfl ?_
              refine s_store (wk0 rfl) rfl hE hp rfl rfl rfl 0 rfl varty60.size_ rfl (allOne_mem ⟨(OwnSl.one hp 6 rfl), (OwnSl.one hp 7 rfl), (OwnSl.one hp 8 rfl), (OwnSl.one hp 9 rfl), trivial⟩) [vr3_kinds, vr3_texts, vr3_left, vr3_numbers] rfl ?_
              intro w hp
              have hp : Hp Z ρ (Pt b8 (.cells #[vr3_kinds, vr3_texts, vr3_left, vr3_numbers] 60 (0, 0)) :: _ :: _ :: _ :: _ :: _ :: _ :: _ :: _ :: _ :: _ :: _ :: L) w := hp
              refine s_nil (and_with ⟨fun _ => ⟨_, hp⟩, fun _ => ⟨_, (hp.get 10 rfl)⟩, fun _ => ⟨_, (hp.get 11 rfl)⟩, trivial⟩ fun hS => ?_)
              refine v_all [9] (by kernel_rfl) rfl ?_
              refine List.forall_mem_cons.2 ⟨?_, fun _ h => absurd h (by simp)⟩
              ·
                refine h_op rfl ?_
                refine s_store (wk0 rfl) rfl hE hp rfl rfl rfl 1 rfl varty60.size_ rfl (allOne_mem ⟨(OwnSl.one hp 2 rfl), (OwnSl.one hp 3 rfl), (OwnSl.one hp 4 rfl), (OwnSl.one hp 5 rfl), trivial⟩) [vr4_kinds, vr4_texts, vr4_left, vr4_numbers] rfl ?_
                intro w hp
                have hp : Hp Z ρ (_ :: Pt b7 (.cells #[vr4_kinds, vr4_texts, vr4_left, vr4_numbers] 60 (0, 0)) :: _ :: _ :: _ :: _ :: _ :: _ :: _ :: _ :: _ :: _ :: L) w := hp
                refine s_nil (and_with ⟨fun _ => ⟨_, hp⟩, fun _ => ⟨_, (hp.get 10 rfl)⟩, fun _ => ⟨_, (hp.get 11 rfl)⟩, trivial⟩ fun hS => ?_)
                exact v_done (by kernel_rfl) ⟨_, _, _, _, _, _, _, _, _, _, hE.cut ⟨rfl, rfl, trivial⟩, ((((((((((((hp.get 11 rfl).get 11 rfl).get 11 rfl).get 11 rfl).get 11 rfl).get 11 rfl).get 11 rfl).get 11 rfl).get 11 rfl).get 11 rfl).get 10 rfl).get 11 rfl)⟩
      ·
        refine h_op rfl ?_
        refine s_new (wk0 rfl) rfl rfl hE hp rfl [(.slice none 0 0), (.slice none 0 0), (.slice none 0 0), (.slice none 0 0)] (fun w => by simp [Instr.alloc, go_sem] <;> rfl) ?_
        intro a w b9 hE hp
        have hp : Hp Z ρ (Pt b9 (.cells #[(.slice none 0 0), (.slice none 0 0), (.slice none 0 0), (.slice none 0 0)] 60 (0, 0)) :: _ :: _ :: _ :: _ :: _ :: _ :: L) w := hp
        refine s_nil (and_with ⟨fun _ => ⟨_, hp⟩, fun _ => ⟨_, (hp.get 5 rfl)⟩, fun _ => ⟨_, (hp.get 6 rfl)⟩, trivial⟩ fun hS => ?_)
        refine v_all [5, 7] (by kernel_rfl) rfl ?_
        refine List.forall_mem_cons.2 ⟨?_, List.forall_mem_cons.2 ⟨?_, fun _ h => absurd h (by simp)⟩⟩
        ·
          refine h_op rfl ?_
          have hp := hp.emp (OwnSl.nil (α := Int) 3)
          have hp : Hp Z ρ (OwnSl 3 (.slice none 0 0) ([] : List Int) :: _ :: _ :: _ :: _ :: _ :: _ :: _ :: L) w := hp
          have hp := hp.emp (OwnSl.nil (α := ByteArray) 9)
          have hp : Hp Z ρ (OwnSl 9 (.slice none 0 0) ([] : List ByteArray) :: _ :: _ :: _ :: _ :: _ :: _ :: _ :: _ :: L) w := hp
          have hp := hp.emp (OwnSl.nil (α := Int) 3)
          have hp : Hp Z ρ (OwnSl 3 (.slice none 0 0) ([] : List Int) :: _ :: _ :: _ :: _ :: _ :: _ :: _ :: _ :: _ :: L) w := hp
          have hp := hp.emp (OwnSl.nil (α := Int) 3)
          have hp : Hp Z ρ (OwnSl 3 (.slice none 0 0) ([] : List Int) :: _ :: _ :: _ :: _ :: _ :: _ :: _ :: _ :: _ :: _ :: L) w := hp
          refine s_call (wk0 rfl) rfl rfl hE rfl [(.agg #[(.slice none 0 0), (.slice none 0 0), (.slice none 0 0), (.slice none 0 0)]), (.agg #[(.int .i64 p1.kind), (.string p1.text), (.int .i64 p1.at_), (.int .i64 p1.fin), vp1_kids]), (.int .i64 0)] ⟨rfl, rfl, rfl, trivial⟩ ent31 (c_assessorref37_flat (RFlat.mk ([]) ([]) ([]) ([])) (.slice none 0 0) (.slice none 0 0) (.slice none 0 0) (.slice none 0 0) p1 vp1_kids hp1_kids 0 (((hp.get 1 rfl).get 2 rfl).get 3 rfl) x2 ex2) Ret.ret ?_
          intro v a w hR hE
          obtain ⟨vr5_kinds, vr5_texts, vr5_left, vr5_numbers, rfl, hp⟩ := Ret.of hR
          have hp : Hp Z ρ (OwnSl 3 vr5_kinds x2.kinds :: OwnSl 9 vr5_texts x2.texts :: OwnSl 3 vr5_left x2.left :: OwnSl 3 vr5_numbers x2.numbers :: _ :: _ :: _ :: _ :: _ :: _ :: _ :: L) w := hp
          refine s_nil (and_with ⟨fun _ => ⟨_, hp⟩, fun _ => ⟨_, (hp.get 9 rfl)⟩, fun _ => ⟨_, (hp.get 10 rfl)⟩, trivial⟩ fun hS => ?_)
          refine v_all [7] (by kernel_rfl) rfl ?_
          refine List.forall_mem_cons.2 ⟨?_, fun _ h => absurd h (by simp)⟩
          ·
            refine h_op rfl ?_
            refine s_new (wk0 rfl) rfl rfl hE hp rfl [(.slice none 0 0), (.slice none 0 0), (.slice none 0 0), (.slice none 0 0)] (fun w => by simp [Instr.alloc, go_sem] <;> rfl) ?_
            intro a w b10 hE hp
            have hp : Hp Z ρ (Pt b10 (.cells #[(.slice none 0 0), (.slice none 0 0), (.slice none 0 0), (.slice none 0 0)] 60 (0, 0)) :: _ :: _ :: _ :: _ :: _ :: _ :: _ :: _ :: _ :: _ :: _ :: L) w := hp
            refine s_nil (and_with ⟨fun _ => ⟨_, hp⟩, fun _ => ⟨_, (hp.get 10 rfl)⟩, fun _ => ⟨_, (hp.get 11 rfl)⟩, trivial⟩ fun hS => ?_)
            refine v_all [8] (by kernel_rfl) rfl ?_
            refine List.forall_mem_cons.2 ⟨?_, fun _ h => absurd h (by simp)⟩
            ·
              refine h_op rfl ?_
              refine s_store (wk0 rfl) rfl hE hp rfl rfl rfl 5 rfl varty60.size_ rfl (allOne_mem ⟨(OwnSl.one hp 6 rfl), (OwnSl.one hp 7 rfl), (OwnSl.one hp 8 rfl), (OwnSl.one hp 9 rfl), trivial⟩) [vr3_kinds, vr3_texts, vr3_left, vr3_numbers] rfl ?_
              intro w hp
              have hp : Hp Z ρ (_ :: _ :: _ :: _ :: _ :: Pt b9 (.cells #[vr3_kinds, vr3_texts, vr3_left, vr3_numbers] 60 (0, 0)) :: _ :: _ :: _ :: _ :: _ :: _ :: L) w := hp
              refine s_nil (and_with ⟨fun _ => ⟨_, hp⟩, fun _ => ⟨_, (hp.get 10 rfl)⟩, fun _ => ⟨_, (hp.get 11 rfl)⟩, trivial⟩ fun hS => ?_)
              refine v_all [9] (by kernel_rfl) rfl ?_
              refine List.forall_mem_cons.2 ⟨?_, fun _ h => absurd h (by simp)⟩
              ·
                refine h_op rfl ?_
                refine s_store (wk0 rfl) rfl hE hp rfl rfl rfl 0 rfl varty60.size_ rfl (allOne_mem ⟨(OwnSl.one hp 1 rfl), (OwnSl.one hp 2 rfl), (OwnSl.one hp 3 rfl), (OwnSl.one hp 4 rfl), trivial⟩) [vr5_kinds, vr5_texts, vr5_left, vr5_numbers] rfl ?_
                intro w hp
                have hp : Hp Z ρ (Pt b10 (.cells #[vr5_kinds, vr5_texts, vr5_left, vr5_numbers] 60 (0, 0)) :: _ :: _ :: _ :: _ :: _ :: _ :: _ :: _ :: _ :: _ :: _ :: L) w := hp
                refine s_nil (and_with ⟨fun _ => ⟨_, hp⟩, fun _ => ⟨_, (hp.get 10 rfl)⟩, fun _ => ⟨_, (hp.get 11 rfl)⟩, trivial⟩ fun hS => ?_)
                exact v_done (by kernel_rfl) ⟨_, _, _, _, _, _, _, _, _, _, hE.cut ⟨rfl, rfl, trivial⟩, ((((((((((((hp.get 11 rfl).get 11 rfl).get 11 rfl).get 11 rfl).get 11 rfl).get 11 rfl).get 10 rfl).get 10 rfl).get 10 rfl).get 10 rfl).get 11 rfl).get 11 rfl)⟩
        ·
          refine h_op rfl ?_
          refine s_new (wk0 rfl) rfl rfl hE hp rfl [(.slice none 0 0), (.slice none 0 0), (.slice none 0 0), (.slice none 0 0)] (fun w => by simp [Instr.alloc, go_sem] <;> rfl) ?_
          intro a w b11 hE hp
          have hp : Hp Z ρ (Pt b11 (.cells #[(.slice none 0 0), (.slice none 0 0), (.slice none 0 0), (.slice none 0 0)] 60 (0, 0)) :: _ :: _ :: _ :: _ :: _ :: _ :: _ :: L) w := hp
          refine s_nil (and_with ⟨fun _ => ⟨_, hp⟩, fun _ => ⟨_, (hp.get 6 rfl)⟩, fun _ => ⟨_, (hp.get 7 rfl)⟩, trivial⟩ fun hS => ?_)
          refine v_all [5] (by kernel_rfl) rfl ?_
          refine List.forall_mem_cons.2 ⟨?_, fun _ h => absurd h (by simp)⟩
          ·
            refine h_op rfl ?_
            have hp := hp.emp (OwnSl.nil (α := Int) 3)
            have hp : Hp Z ρ (OwnSl 3 (.slice none 0 0) ([] : List Int) :: _ :: _ :: _ :: _ :: _ :: _ :: _ :: _ :: L) w := hp
            have hp := hp.emp (OwnSl.nil (α := ByteArray) 9)
            have hp : Hp Z ρ (OwnSl 9 (.slice none 0 0) ([] : List ByteArray) :: _ :: _ :: _ :: _ :: _ :: _ :: _ :: _ :: _ :: L) w := hp
            have hp := hp.emp (OwnSl.nil (α := Int) 3)
            have hp : Hp Z ρ (OwnSl 3 (.slice none 0 0) ([] : List Int) :: _ :: _ :: _ :: _ :: _ :: _ :: _ :: _ :: _ :: _ :: L) w := hp
            have hp := hp.emp (OwnSl.nil (α := Int) 3)
            have hp : Hp Z ρ (OwnSl 3 (.slice none 0 0) ([] : List Int) :: _ :: _ :: _ :: _ :: _ :: _ :: _ :: _ :: _ :: _ :: _ :: L) w := hp
            refine s_call (wk0 rfl) rfl rfl hE rfl [(.agg #[(.slice none 0 0), (.slice none 0 0), (.slice none 0 0), (.slice none 0 0)]), (.agg #[(.int .i64 p1.kind), (.string p1.text), (.int .i64 p1.at_), (.int .i64 p1.fin), vp1_kids]), (.int .i64 0)] ⟨rfl, rfl, rfl, trivial⟩ ent31 (c_assessorref37_flat (RFlat.mk ([]) ([]) ([]) ([])) (.slice none 0 0) (.slice none 0 0) (.slice none 0 0) (.slice none 0 0) p1 vp1_kids hp1_kids 0 (((hp.get 1 rfl).get 2 rfl).get 3 rfl) x2 ex2) Ret.ret ?_
            intro v a w hR hE
            obtain ⟨vr6_kinds, vr6_texts, vr6_left, vr6_numbers, rfl, hp⟩ := Ret.of hR
            have hp : Hp Z ρ (OwnSl 3 vr6_kinds x2.kinds :: OwnSl 9 vr6_texts x2.texts :: OwnSl 3 vr6_left x2.left :: OwnSl 3 vr6_numbers x2.numbers :: _ :: _ :: _ :: _ :: _ :: _ :: _ :: _ :: L) w := hp
            refine s_nil (and_with ⟨fun _ => ⟨_, hp⟩, fun _ => ⟨_, (hp.get 10 rfl)⟩, fun _ => ⟨_, (hp.get 11 rfl)⟩, trivial⟩ fun hS => ?_)
            refine v_all [8] (by kernel_rfl) rfl ?_
            refine List.forall_mem_cons.2 ⟨?_, fun _ h => absurd h (by simp)⟩
            ·
              refine h_op rfl ?_
              refine s_store (wk0 rfl) rfl hE hp rfl rfl rfl 5 rfl varty60.size_ rfl (allOne_mem ⟨(OwnSl.one hp 6 rfl), (OwnSl.one hp 7 rfl), (OwnSl.one hp 8 rfl), (OwnSl.one hp 9 rfl), trivial⟩) [vr3_kinds, vr3_texts, vr3_left, vr3_numbers] rfl ?_
              intro w hp
              have hp : Hp Z ρ (_ :: _ :: _ :: _ :: _ :: Pt b9 (.cells #[vr3_kinds, vr3_texts, vr3_left, vr3_numbers] 60 (0, 0)) :: _ :: _ :: _ :: _ :: _ :: _ :: L) w := hp
              refine s_nil (and_with ⟨fun _ => ⟨_, hp⟩, fun _ => ⟨_, (hp.get 10 rfl)⟩, fun _ => ⟨_, (hp.get 11 rfl)⟩, trivial⟩ fun hS => ?_)
              refine v_all [9] (by kernel_rfl) rfl ?_
              refine List.forall_mem_cons.2 ⟨?_, fun _ h => absurd h (by simp)⟩
              ·
                refine h_op rfl ?_
                refine s_store (wk0 rfl) rfl hE hp rfl rfl rfl 4 rfl varty60.size_ rfl (allOne_mem ⟨(OwnSl.one hp 0 rfl), (OwnSl.one hp 1 rfl), (OwnSl.one hp 2 rfl), (OwnSl.one hp 3 rfl), trivial⟩) [vr6_kinds, vr6_texts, vr6_left, vr6_numbers] rfl ?_
                intro w hp
                have hp : Hp Z ρ (_ :: _ :: _ :: _ :: Pt b11 (.cells #[vr6_kinds, vr6_texts, vr6_left, vr6_numbers] 60 (0, 0)) :: _ :: _ :: _ :: _ :: _ :: _ :: _ :: L) w := hp
                refine s_nil (and_with ⟨fun _ => ⟨_, hp⟩, fun _ => ⟨_, (hp.get 10 rfl)⟩, fun _ => ⟨_, (hp.get 11 rfl)⟩, trivial⟩ fun hS => ?_)
                exact v_done (by kernel_rfl) ⟨_, _, _, _, _, _, _, _, _, _, hE.cut ⟨rfl, rfl, trivial⟩, ((((((((((((hp.get 11 rfl).get 11 rfl).get 11 rfl).get 11 rfl).get 11 rfl).get 11 rfl).get 9 rfl).get 9 rfl).get 9 rfl).get 9 rfl).get 11 rfl).get 11 rfl)⟩
      ·
        refine h_op rfl ?_
        refine s_new (wk0 rfl) rfl rfl hE hp rfl [(.slice none 0 0), (.slice none 0 0), (.slice none 0 0), (.slice none 0 0)] (fun w => by simp [Instr.alloc, go_sem] <;> rfl) ?_
        intro a w b12 hE hp
        have hp : Hp Z ρ (Pt b12 (.cells #[(.slice none 0 0), (.slice none 0 0), (.slice none 0 0), (.slice none 0 0)] 60 (0, 0)) :: _ :: _ :: _ :: _ :: _ :: _ :: L) w := hp
        refine s_nil (and_with ⟨fun _ => ⟨_, hp⟩, fun _ => ⟨_, (hp.get 5 rfl)⟩, fun _ => ⟨_, (hp.get 6 rfl)⟩, trivial⟩ fun hS => ?_)
        refine v_all [5, 6] (by kernel_rfl) rfl ?_
        refine List.forall_mem_cons.2 ⟨?_, List.forall_mem_cons.2 ⟨?_, fun _ h => absurd h (by simp)⟩⟩
        ·
          refine h_op rfl ?_
          have hp := hp.emp (OwnSl.nil (α := Int) 3)
          have hp : Hp Z ρ (OwnSl 3 (.slice none 0 0) ([] : List Int) :: _ :: _ :: _ :: _ :: _ :: _ :: _ :: L) w := hp
          have hp := hp.emp (OwnSl.nil (α := ByteArray) 9)
          have hp : Hp Z ρ (OwnSl 9 (.slice none 0 0) ([] : List ByteArray) :: _ :: _ :: _ :: _ :: _ :: _ :: _ :: _ :: L) w := hp
          have hp := hp.emp (OwnSl.nil (α := Int) 3)
          have hp : Hp Z ρ (OwnSl 3 (.slice none 0 0) ([] : List Int) :: _ :: _ :: _ :: _ :: _ :: _ :: _ :: _ :: _ :: L) w := hp
          have hp := hp.emp (OwnSl.nil (α := Int) 3)
          have hp : Hp Z ρ (OwnSl 3 (.slice none 0 0) ([] : List Int) :: _ :: _ :: _ :: _ :: _ :: _ :: _ :: _ :: _ :: _ :: L) w := hp
          refine s_call (wk0 rfl) rfl rfl hE rfl [(.agg #[(.slice none 0 0), (.slice none 0 0), (.slice none 0 0), (.slice none 0 0)]), (.agg #[(.int .i64 p1.kind), (.string p1.text), (.int .i64 p1.at_), (.int .i64 p1.fin), vp1_kids]), (.int .i64 0)] ⟨rfl, rfl, rfl, trivial⟩ ent31 (c_assessorref37_flat (RFlat.mk ([]) ([]) ([]) ([])) (.slice none 0 0) (.slice none 0 0) (.slice none 0 0) (.slice none 0 0) p1 vp1_kids hp1_kids 0 (((hp.get 1 rfl).get 2 rfl).get 3 rfl) x2 ex2) Ret.ret ?_
          intro v a w hR hE
          obtain ⟨vr7_kinds, vr7_texts, vr7_left, vr7_numbers, rfl, hp⟩ := Ret.of hR
          have hp : Hp Z ρ (OwnSl 3 vr7_kinds x2.kinds :: OwnSl 9 vr7_texts x2.texts :: OwnSl 3 vr7_left x2.left :: OwnSl 3 vr7_numbers x2.numbers :: _ :: _ :: _ :: _ :: _ :: _ :: _ :: L) w := hp
          refine s_nil (and_with ⟨fun _ => ⟨_, hp⟩, fun _ => ⟨_, (hp.get 9 rfl)⟩, fun _ => ⟨_, (hp.get 10 rfl)⟩, trivial⟩ fun hS => ?_)
          refine v_all [6] (by kernel_rfl) rfl ?_
          refine List.forall_mem_cons.2 ⟨?_, fun _ h => absurd h (by simp)⟩
          ·
            refine h_op rfl ?_
            refine s_new (wk0 rfl) rfl rfl hE hp rfl [(.slice none 0 0), (.slice none 0 0), (.slice none 0 0), (.slice none 0 0)] (fun w => by simp [Instr.alloc, go_sem] <;> rfl) ?_
            intro a w b13 hE hp
            have hp : Hp Z ρ (Pt b13 (.cells #[(.slice none 0 0), (.slice none 0 0), (.slice none 0 0), (.slice none 0 0)] 60 (0, 0)) :: _ :: _ :: _ :: _ :: _ :: _ :: _ :: _ :: _ :: _ :: _ :: L) w := hp
            refine s_nil (and_with ⟨fun _ => ⟨_, hp⟩, fun _ => ⟨_, (hp.get 10 rfl)⟩, fun _ => ⟨_, (hp.get 11 rfl)⟩, trivial⟩ fun hS => ?_)
            refine v_all [8] (by kernel_rfl) rfl ?_
            refine List.forall_mem_cons.2 ⟨?_, fun _ h => absurd h (by simp)⟩
            ·
              refine h_op rfl ?_
              refine s_store (wk0 rfl) rfl hE hp rfl rfl rfl 0 rfl varty60.size_ rfl (allOne_mem ⟨(OwnSl.one hp 6 rfl), (OwnSl.one hp 7 rfl), (OwnSl.one hp 8 rfl), (OwnSl.one hp 9 rfl), trivial⟩) [vr3_kinds, vr3_texts, vr3_left, vr3_numbers] rfl ?_
              intro w hp
              have hp : Hp Z ρ (Pt b13 (.cells #[vr3_kinds, vr3_texts, vr3_left, vr3_numbers] 60 (0, 0)) :: _ :: _ :: _ :: _ :: _ :: _ :: _ :: _ :: _ :: _ :: _ :: L) w := hp
              refine s_nil (and_with ⟨fun _ => ⟨_, hp⟩, fun _ => ⟨_, (hp.get 10 rfl)⟩, fun _ => ⟨_, (hp.get 11 rfl)⟩, trivial⟩ fun hS => ?_)
              refine v_all [9] (by kernel_rfl) rfl ?_
              refine List.forall_mem_cons.2 ⟨?_, fun _ h => absurd h (by simp)⟩
              ·
                refine h_op rfl ?_
                refine s_store (wk0 rfl) rfl hE hp rfl rfl rfl 5 rfl varty60.size_ rfl (allOne_mem ⟨(OwnSl.one hp 1 rfl), (OwnSl.one hp 2 rfl), (OwnSl.one hp 3 rfl), (OwnSl.one hp 4 rfl), trivial⟩) [vr7_kinds, vr7_texts, vr7_left, vr7_numbers] rfl ?_
                intro w hp
                have hp : Hp Z ρ (_ :: _ :: _ :: _ :: _ :: Pt b12 (.cells #[vr7_kinds, vr7_texts, vr7_left, vr7_numbers] 60 (0, 0)) :: _ :: _ :: _ :: _ :: _ :: _ :: L) w := hp
                refine s_nil (and_with ⟨fun _ => ⟨_, hp⟩, fun _ => ⟨_, (hp.get 10 rfl)⟩, fun _ => ⟨_, (hp.get 11 rfl)⟩, trivial⟩ fun hS => ?_)
                exact v_done (by kernel_rfl) ⟨_, _, _, _, _, _, _, _, _, _, hE.cut ⟨rfl, rfl, trivial⟩, ((((((((((((hp.get 11 rfl).get 11 rfl).get 11 rfl).get 11 rfl).get 11 rfl).get 11 rfl).get 10 rfl).get 10 rfl).get 10 rfl).get 10 rfl).get 10 rfl).get 11 rfl)⟩
        ·
          refine h_op rfl ?_
          refine s_new (wk0 rfl) rfl rfl hE hp rfl [(.slice none 0 0), (.slice none 0 0), (.slice none 0 0), (.slice none 0 0)] (fun w => by simp [Instr.alloc, go_sem] <;> rfl) ?_
          intro a w b14 hE hp
          have hp : Hp Z ρ (Pt b14 (.cells #[(.slice none 0 0), (.slice none 0 0), (.slice none 0 0), (.slice none 0 0)] 60 (0, 0)) :: _ :: _ :: _ :: _ :: _ :: _ :: _ :: L) w := hp
          refine s_nil (and_with ⟨fun _ => ⟨_, hp⟩, fun _ => ⟨_, (hp.get 6 rfl)⟩, fun _ => ⟨_, (hp.get 7 rfl)⟩, trivial⟩ fun hS => ?_)
          refine v_all [5] (by kernel_rfl) rfl ?_
          refine List.forall_mem_cons.2 ⟨?_, fun _ h => absurd h (by simp)⟩
          ·
            refine h_op rfl ?_
            have hp := hp.emp (OwnSl.nil (α := Int) 3)
            have hp : Hp Z ρ (OwnSl 3 (.slice none 0 0) ([] : List Int) :: _ :: _ :: _ :: _ :: _ :: _ :: _ :: _ :: L) w := hp
            have hp := hp.emp (OwnSl.nil (α := ByteArray) 9)
            have hp : Hp Z ρ (OwnSl 9 (.slice none 0 0) ([] : List ByteArray) :: _ :: _ :: _ :: _ :: _ :: _ :: _ :: _ :: _ :: L) w := hp
            have hp := hp.emp (OwnSl.nil (α := Int) 3)
            have hp : Hp Z ρ (OwnSl 3 (.slice none 0 0) ([] : List Int) :: _ :: _ :: _ :: _ :: _ :: _ :: _ :: _ :: _ :: _ :: L) w := hp
            have hp := hp.emp (OwnSl.nil (α := Int) 3)
            have hp : Hp Z ρ (OwnSl 3 (.slice none 0 0) ([] : List Int) :: _ :: _ :: _ :: _ :: _ :: _ :: _ :: _ :: _ :: _ :: _ :: L) w := hp
            refine s_call (wk0 rfl) rfl rfl hE rfl [(.agg #[(.slice none 0 0), (.slice none 0 0), (.slice none 0 0), (.slice none 0 0)]), (.agg #[(.int .i64 p1.kind), (.string p1.text), (.int .i64 p1.at_), (.int .i64 p1.fin), vp1_kids]), (.int .i64 0)] ⟨rfl, rfl, rfl, trivial⟩ ent31 (c_assessorref37_flat (RFlat.mk ([]) ([]) ([]) ([])) (.slice none 0 0) (.slice none 0 0) (.slice none 0 0) (.slice none 0 0) p1 vp1_kids hp1_kids 0 (((hp.get 1 rfl).get 2 rfl).get 3 rfl) x2 ex2) Ret.ret ?_
            intro v a w hR hE
            obtain ⟨vr8_kinds, vr8_texts, vr8_left, vr8_numbers, rfl, hp⟩ := Ret.of hR
            have hp : Hp Z ρ (OwnSl 3 vr8_kinds x2.kinds :: OwnSl 9 vr8_texts x2.texts :: OwnSl 3 vr8_left x2.left :: OwnSl 3 vr8_numbers x2.numbers :: _ :: _ :: _ :: _ :: _ :: _ :: _ :: _ :: L) w := hp
            refine s_nil (and_with ⟨fun _ => ⟨_, hp⟩, fun _ => ⟨_, (hp.get 10 rfl)⟩, fun _ => ⟨_, (hp.get 11 rfl)⟩, trivial⟩ fun hS => ?_)
            refine v_all [8] (by kernel_rfl) rfl ?_
            refine List.forall_mem_cons.2 ⟨?_, fun _ h => absurd h (by simp)⟩
            ·
              refine h_op rfl ?_
              refine s_store (wk0 rfl) rfl hE hp rfl rfl rfl 4 rfl varty60.size_ rfl (allOne_mem ⟨(OwnSl.one hp 6 rfl), (OwnSl.one hp 7 rfl), (OwnSl.one hp 8 rfl), (OwnSl.one hp 9 rfl), trivial⟩) [vr3_kinds, vr3_texts, vr3_left, vr3_numbers] rfl ?_
              intro w hp
              have hp : Hp Z ρ (_ :: _ :: _ :: _ :: Pt b14 (.cells #[vr3_kinds, vr3_texts, vr3_left, vr3_numbers] 60 (0, 0)) :: _ :: _ :: _ :: _ :: _ :: _ :: _ :: L) w := hp
              refine s_nil (and_with ⟨fun _ => ⟨_, hp⟩, fun _ => ⟨_, (hp.get 10 rfl)⟩, fun _ => ⟨_, (hp.get 11 rfl)⟩, trivial⟩ fun hS => ?_)
              refine v_all [9] (by kernel_rfl) rfl ?_
              refine List.forall_mem_cons.2 ⟨?_, fun _ h => absurd h (by simp)⟩
              ·
                refine h_op rfl ?_
                refine s_store (wk0 rfl) rfl hE hp rfl rfl rfl 5 rfl varty60.size_ rfl (allOne_mem ⟨(OwnSl.one hp 0 rfl), (OwnSl.one hp 1 rfl), (OwnSl.one hp 2 rfl), (OwnSl.one hp 3 rfl), trivial⟩) [vr8_kinds, vr8_texts, vr8_left, vr8_numbers] rfl ?_
                intro w hp
                have hp : Hp Z ρ (_ :: _ :: _ :: _ :: _ :: Pt b12 (.cells #[vr8_kinds, vr8_texts, vr8_left, vr8_numbers] 60 (0, 0)) :: _ :: _ :: _ :: _ :: _ :: _ :: L) w := hp
                refine s_nil (and_with ⟨fun _ => ⟨_, hp⟩, fun _ => ⟨_, (hp.get 10 rfl)⟩, fun _ => ⟨_, (hp.get 11 rfl)⟩, trivial⟩ fun hS => ?_)
                exact v_done (by kernel_rfl) ⟨_, _, _, _, _, _, _, _, _, _, hE.cut ⟨rfl, rfl, trivial⟩, ((((((((((((hp.get 11 rfl).get 11 rfl).get 11 rfl).get 11 rfl).get 11 rfl).get 11 rfl).get 9 rfl).get 9 rfl).get 9 rfl).get 9 rfl).get 10 rfl).get 11 rfl)⟩
    ·
      refine h_op rfl ?_
      refine s_new (wk0 rfl) rfl rfl hE hp rfl [(.slice none 0 0), (.slice none 0 0), (.slice none 0 0), (.slice none 0 0)] (fun w => by simp [Instr.alloc, go_sem] <;> rfl) ?_
      intro a w b15 hE hp
      have hp : Hp Z ρ (Pt b15 (.cells #[(.slice none 0 0), (.slice none 0 0), (.slice none 0 0), (.slice none 0 0)] 60 (0, 0)) :: _ :: _ :: L) w := hp
      refine s_nil (and_with ⟨fun _ => ⟨_, hp⟩, fun _ => ⟨_, (hp.get 1 rfl)⟩, fun _ => ⟨_, (hp.get 2 rfl)⟩, trivial⟩ fun hS => ?_)
      refine v_all [2, 7] (by kernel_rfl) rfl ?_
      refine List.forall_mem_cons.2 ⟨?_, List.forall_mem_cons.2 ⟨?_, fun _ h => absurd h (by simp)⟩⟩
      ·
        refine h_op rfl ?_
        have hp := hp.emp (OwnSl.nil (α := Int) 3)
        have hp : Hp Z ρ (OwnSl 3 (.slice none 0 0) ([] : List Int) :: _ :: _ :: _ :: L) w := hp
        have hp := hp.emp (OwnSl.nil (α := ByteArray) 9)
        have hp : Hp Z ρ (OwnSl 9 (.slice none 0 0) ([] : List ByteArray) :: _ :: _ :: _ :: _ :: L) w := hp
        have hp := hp.emp (OwnSl.nil (α := Int) 3)
        have hp : Hp Z ρ (OwnSl 3 (.slice none 0 0) ([] : List Int) :: _ :: _ :: _ :: _ :: _ :: L) w := hp
        have hp := hp.emp (OwnSl.nil (α := Int) 3)
        have hp : Hp Z ρ (OwnSl 3 (.slice none 0 0) ([] : List Int) :: _ :: _ :: _ :: _ :: _ :: _ :: L) w := hp
        refine s_call (wk0 rfl) rfl rfl hE rfl [(.agg #[(.slice none 0 0), (.slice none 0 0), (.slice none 0 0), (.slice none 0 0)]), (.agg #[(.int .i64 p0.kind), (.string p0.text), (.int .i64 p0.at_), (.int .i64 p0.fin), vp0_kids]), (.int .i64 0)] ⟨rfl, rfl, rfl, trivial⟩ ent31 (c_assessorref37_flat (RFlat.mk ([]) ([]) ([]) ([])) (.slice none 0 0) (.slice none 0 0) (.slice none 0 0) (.slice none 0 0) p0 vp0_kids hp0_kids 0 (((hp.get 1 rfl).get 2 rfl).get 3 rfl) x1 ex1) Ret.ret ?_
        intro v a w hR hE
        obtain ⟨vr9_kinds, vr9_texts, vr9_left, vr9_numbers, rfl, hp⟩ := Ret.of hR
        have hp : Hp Z ρ (OwnSl 3 vr9_kinds x1.kinds :: OwnSl 9 vr9_texts x1.texts :: OwnSl 3 vr9_left x1.left :: OwnSl 3 vr9_numbers x1.numbers :: _ :: _ :: _ :: L) w := hp
        refine s_nil (and_with ⟨fun _ => ⟨_, hp⟩, fun _ => ⟨_, (hp.get 5 rfl)⟩, fun _ => ⟨_, (hp.get 6 rfl)⟩, trivial⟩ fun hS => ?_)
        refine v_all [5, 7] (by kernel_rfl) rfl ?_
        refine List.forall_mem_cons.2 ⟨?_, List.forall_mem_cons.2 ⟨?_, fun _ h => absurd h (by simp)⟩⟩
        ·
          refine h_op rfl ?_
          have hp := hp.emp (OwnSl.nil (α := Int) 3)
          have hp : Hp Z ρ (OwnSl 3 (.slice none 0 0) ([] : List Int) :: _ :: _ :: _ :: _ :: _ :: _ :: _ :: L) w := hp
          have hp := hp.emp (OwnSl.nil (α := ByteArray) 9)
          have hp : Hp Z ρ (OwnSl 9 (.slice none 0 0) ([] : List ByteArray) :: _ :: _ :: _ :: _ :: _ :: _ :: _ :: _ :: L) w := hp
          have hp := hp.emp (OwnSl.nil (α := Int) 3)
          have hp : Hp Z ρ (OwnSl 3 (.slice none 0 0) ([] : List Int) :: _ :: _ :: _ :: _ :: _ :: _ :: _ :: _ :: _ :: L) w := hp
          have hp := hp.emp (OwnSl.nil (α := Int) 3)
          have hp : Hp Z ρ (OwnSl 3 (.slice none 0 0) ([] : List Int) :: _ :: _ :: _ :: _ :: _ :: _ :: _ :: _ :: _ :: _ :: L) w := hp
          refine s_call (wk0 rfl) rfl rfl hE rfl [(.agg #[(.slice none 0 0), (.slice none 0 0), (.slice none 0 0), (.slice none 0 0)]), (.agg #[(.int .i64 p1.kind), (.string p1.text), (.int .i64 p1.at_), (.int .i64 p1.fin), vp1_kids]), (.int .i64 0)] ⟨rfl, rfl, rfl, trivial⟩ ent31 (c_assessorref37_flat (RFlat.mk ([]) ([]) ([]) ([])) (.slice none 0 0) (.slice none 0 0) (.slice none 0 0) (.slice none 0 0) p1 vp1_kids hp1_kids 0 (((hp.get 1 rfl).get 2 rfl).get 3 rfl) x2 ex2) Ret.ret ?_
          intro v a w hR hE
          obtain ⟨vr10_kinds, vr10_texts, vr10_left, vr10_numbers, rfl, hp⟩ := Ret.of hR
          have hp : Hp Z ρ (OwnSl 3 vr10_kinds x2.kinds :: OwnSl 9 vr10_texts x2.texts :: OwnSl 3 vr10_left x2.left :: OwnSl 3 vr10_numbers x2.numbers :: _ :: _ :: _ :: _ :: _ :: _ :: _ :: L) w := hp
          refine s_nil (and_with ⟨fun _ => ⟨_, hp⟩, fun _ => ⟨_, (hp.get 9 rfl)⟩, fun _ => ⟨_, (hp.get 10 rfl)⟩, trivial⟩ fun hS => ?_)
          refine v_all [7] (by kernel_rfl) rfl ?_
          refine List.forall_mem_cons.2 ⟨?_, fun _ h => absurd h (by simp)⟩
          ·
            refine h_op rfl ?_
            refine s_new (wk0 rfl) rfl rfl hE hp rfl [(.slice none 0 0), (.slice none 0 0), (.slice none 0 0), (.slice none 0 0)] (fun w => by simp [Instr.alloc, go_sem] <;> rfl) ?_
            intro a w b16 hE hp
            have hp : Hp Z ρ (Pt b16 (.cells #[(.slice none 0 0), (.slice none 0 0), (.slice none 0 0), (.slice none 0 0)] 60 (0, 0)) :: _ :: _ :: _ :: _ :: _ :: _ :: _ :: _ :: _ :: _ :: _ :: L) w := hp
            refine s_nil (and_with ⟨fun _ => ⟨_, hp⟩, fun _ => ⟨_, (hp.get 10 rfl)⟩, fun _ => ⟨_, (hp.get 11 rfl)⟩, trivial⟩ fun hS => ?_)
            refine v_all [8] (by kernel_rfl) rfl ?_
            refine List.forall_mem_cons.2 ⟨?_, fun _ h => absurd h (by simp)⟩
            ·
              refine h_op rfl ?_
              refine s_store (wk0 rfl) rfl hE hp rfl rfl rfl 9 rfl varty60.size_ rfl (allOne_mem ⟨(OwnSl.one hp 5 rfl), (OwnSl.one hp 6 rfl), (OwnSl.one hp 7 rfl), (OwnSl.one hp 8 rfl), trivial⟩) [vr9_kinds, vr9_texts, vr9_left, vr9_numbers] rfl ?_
              intro w hp
              have hp : Hp Z ρ (_ :: _ :: _ :: _ :: _ :: _ :: _ :: _ :: _ :: Pt b15 (.cells #[vr9_kinds, vr9_texts, vr9_left, vr9_numbers] 60 (0, 0)) :: _ :: _ :: L) w := hp
              refine s_nil (and_with ⟨fun _ => ⟨_, hp⟩, fun _ => ⟨_, (hp.get 10 rfl)⟩, fun _ => ⟨_, (hp.get 11 rfl)⟩, trivial⟩ fun hS => ?_)
              refine v_all [9] (by kernel_rfl) rfl ?_
              refine List.forall_mem_cons.2 ⟨?_, fun _ h => absurd h (by simp)⟩
              ·
                refine h_op rfl ?_
                refine s_store (wk0 rfl) rfl hE hp rfl rfl rfl 0 rfl varty60.size_ rfl (allOne_mem ⟨(OwnSl.one hp 1 rfl), (OwnSl.one hp 2 rfl), (OwnSl.one hp 3 rfl), (OwnSl.one hp 4 rfl), trivial⟩) [vr10_kinds, vr10_texts, vr10_left, vr10_numbers] rfl ?_
                intro w hp
                have hp : Hp Z ρ (Pt b16 (.cells #[vr10_kinds, vr10_texts, vr10_left, vr10_numbers] 60 (0, 0)) :: _ :: _ :: _ :: _ :: _ :: _ :: _ :: _ :: _ :: _ :: _ :: L) w := hp
                refine s_nil (and_with ⟨fun _ => ⟨_, hp⟩, fun _ => ⟨_, (hp.get 10 rfl)⟩, fun _ => ⟨_, (hp.get 11 rfl)⟩, trivial⟩ fun hS => ?_)
                exact v_done (by kernel_rfl) ⟨_, _, _, _, _, _, _, _, _, _, hE.cut ⟨rfl, rfl, trivial⟩, ((((((((((((hp.get 11 rfl).get 11 rfl).get 10 rfl).get 10 rfl).get 10 rfl).get 10 rfl).get 10 rfl).get 10 rfl).get 10 rfl).get 10 rfl).get 11 rfl).get 11 rfl)⟩
        ·
          refine h_op rfl ?_
          refine s_new (wk0 rfl) rfl rfl hE hp rfl [(.slice none 0 0), (.slice none 0 0), (.slice none 0 0), (.slice none 0 0)] (fun w => by simp [Instr.alloc, go_sem] <;> rfl) ?_
          intro a w b17 hE hp
          have hp : Hp Z ρ (Pt b17 (.cells #[(.slice none 0 0), (.slice none 0 0), (.slice none 0 0), (.slice none 0 0)] 60 (0, 0)) :: _ :: _ :: _ :: _ :: _ :: _ :: _ :: L) w := hp
          refine s_nil (and_with ⟨fun _ => ⟨_, hp⟩, fun _ => ⟨_, (hp.get 6 rfl)⟩, fun _ => ⟨_, (hp.get 7 rfl)⟩, trivial⟩ fun hS => ?_)
          refine v_all [5] (by kernel_rfl) rfl ?_
          refine List.forall_mem_cons.2 ⟨?_, fun _ h => absurd h (by simp)⟩
          ·
            refine h_op rfl ?_
            have hp := hp.emp (OwnSl.nil (α := Int) 3)
            have hp : Hp Z ρ (OwnSl 3 (.slice none 0 0) ([] : List Int) :: _ :: _ :: _ :: _ :: _ :: _ :: _ :: _ :: L) w := hp
            have hp := hp.emp (OwnSl.nil (α := ByteArray) 9)
            have hp : Hp Z ρ (OwnSl 9 (.slice none 0 0) ([] : List ByteArray) :: _ :: _ :: _ :: _ :: _ :: _ :: _ :: _ :: _ :: L) w := hp
            have hp := hp.emp (OwnSl.nil (α := Int) 3)
            have hp : Hp Z ρ (OwnSl 3 (.slice none 0 0) ([] : List Int) :: _ :: _ :: _ :: _ :: _ :: _ :: _ :: _ :: _ :: _ :: L) w := hp
            have hp := hp.emp (OwnSl.nil (α := Int) 3)
            have hp : Hp Z ρ (OwnSl 3 (.slice none 0 0) ([] : List Int) :: _ :: _ :: _ :: _ :: _ :: _ :: _ :: _ :: _ :: _ :: _ :: L) w := hp
            refine s_call (wk0 rfl) rfl rfl hE rfl [(.agg #[(.slice none 0 0), (.slice none 0 0), (.slice none 0 0), (.slice none 0 0)]), (.agg #[(.int .i64 p1.kind), (.string p1.text), (.int .i64 p1.at_), (.int .i64 p1.fin), vp1_kids]), (.int .i64 0)] ⟨rfl, rfl, rfl, trivial⟩ ent31 (c_assessorref37_flat (RFlat.mk ([]) ([]) ([]) ([])) (.slice none 0 0) (.slice none 0 0) (.slice none 0 0) (.slice none 0 0) p1 vp1_kids hp1_kids 0 (((hp.get 1 rfl).get 2 rfl).get 3 rfl) x2 ex2) Ret.ret ?_
            intro v a w hR hE
            obtain ⟨vr11_kinds, vr11_texts, vr11_left, vr11_numbers, rfl, hp⟩ := Ret.of hR
            have hp : Hp Z ρ (OwnSl 3 vr11_kinds x2.kinds :: OwnSl 9 vr11_texts x2.texts :: OwnSl 3 vr11_left x2.left :: OwnSl 3 vr11_numbers x2.numbers :: _ :: _ :: _ :: _ :: _ :: _ :: _ :: _ :: L) w := hp
            refine s_nil (and_with ⟨fun _ => ⟨_, hp⟩, fun _ => ⟨_, (hp.get 10 rfl)⟩, fun _ => ⟨_, (hp.get 11 rfl)⟩, trivial⟩ fun hS => ?_)
            refine v_all [8] (by kernel_rfl) rfl ?_
            refine List.forall_mem_cons.2 ⟨?_, fun _ h => absurd h (by simp)⟩
            ·
              refine h_op rfl ?_
              refine s_store (wk0 rfl) rfl hE hp rfl rfl rfl 9 rfl varty60.size_ rfl (allOne_mem ⟨(OwnSl.one hp 5 rfl), (OwnSl.one hp 6 rfl), (OwnSl.one hp 7 rfl), (OwnSl.one hp 8 rfl), trivial⟩) [vr9_kinds, vr9_texts, vr9_left, vr9_numbers] rfl ?_
              intro w hp
              have hp : Hp Z ρ (_ :: _ :: _ :: _ :: _ :: _ :: _ :: _ :: _ :: Pt b15 (.cells #[vr9_kinds, vr9_texts, vr9_left, vr9_numbers] 60 (0, 0)) :: _ :: _ :: L) w := hp
              refine s_nil (and_with ⟨fun _ => ⟨_, hp⟩, fun _ => ⟨_, (hp.get 10 rfl)⟩, fun _ => ⟨_, (hp.get 11 rfl)⟩, trivial⟩ fun hS => ?_)
              refine v_all [9] (by kernel_rfl) rfl ?_
              refine List.forall_mem_cons.2 ⟨?_, fun _ h => absurd h (by simp)⟩
              ·
                refine h_op rfl ?_
                refine s_store (wk0 rfl) rfl hE hp rfl rfl rfl 4 rfl varty60.size_ rfl (allOne_mem ⟨(OwnSl.one hp 0 rfl), (OwnSl.one hp 1 rfl), (OwnSl.one hp 2 rfl), (OwnSl.one hp 3 rfl), trivial⟩) [vr11_kinds, vr11_texts, vr11_left, vr11_numbers] rfl ?_
                intro w hp
                have hp : Hp Z ρ (_ :: _ :: _ :: _ :: Pt b17 (.cells #[vr11_kinds, vr11_texts, vr11_left, vr11_numbers] 60 (0, 0)) :: _ :: _ :: _ :: _ :: _ :: _ :: _ :: L) w := hp
                refine s_nil (and_with ⟨fun _ => ⟨_, hp⟩, fun _ => ⟨_, (hp.get 10 rfl)⟩, fun _ => ⟨_, (hp.get 11 rfl)⟩, trivial⟩ fun hS => ?_)
                exact v_done (by kernel_rfl) ⟨_, _, _, _, _, _, _, _, _, _, hE.cut ⟨rfl, rfl, trivial⟩, ((((((((((((hp.get 11 rfl).get 11 rfl).get 10 rfl).get 10 rfl).get 10 rfl).get 10 rfl).get 9 rfl).get 9 rfl).get 9 rfl).get 9 rfl).get 11 rfl).get 11 rfl)⟩
      ·
        refine h_op rfl ?_
        refine s_new (wk0 rfl) rfl rfl hE hp rfl [(.slice none 0 0), (.slice none 0 0), (.slice none 0 0), (.slice none 0 0)] (fun w => by simp [Instr.alloc, go_sem] <;> rfl) ?_
        intro a w b18 hE hp
        have hp : Hp Z ρ (Pt b18 (.cells #[(.slice none 0 0), (.slice none 0 0), (.slice none 0 0), (.slice none 0 0)] 60 (0, 0)) :: _ :: _ :: _ :: L) w := hp
        refine s_nil (and_with ⟨fun _ => ⟨_, hp⟩, fun _ => ⟨_, (hp.get 2 rfl)⟩, fun _ => ⟨_, (hp.get 3 rfl)⟩, trivial⟩ fun hS => ?_)
        refine v_all [2] (by kernel_rfl) rfl ?_
        refine List.forall_mem_cons.2 ⟨?_, fun _ h => absurd h (by simp)⟩
        ·
          refine h_op rfl ?_
          have hp := hp.emp (OwnSl.nil (α := Int) 3)
          have hp : Hp Z ρ (OwnSl 3 (.slice none 0 0) ([] : List Int) :: _ :: _ :: _ :: _ :: L) w := hp
          have hp := hp.emp (OwnSl.nil (α := ByteArray) 9)
          have hp : Hp Z ρ (OwnSl 9 (.slice none 0 0) ([] : List ByteArray) :: _ :: _ :: _ :: _ :: _ :: L) w := hp
          have hp := hp.emp (OwnSl.nil (α := Int) 3)
          have hp : Hp Z ρ (OwnSl 3 (.slice none 0 0) ([] : List Int) :: _ :: _ :: _ :: _ :: _ :: _ :: L) w := hp
          have hp := hp.emp (OwnSl.nil (α := Int) 3)
          have hp : Hp Z ρ (OwnSl 3 (.slice none 0 0) ([] : List Int) :: _ :: _ :: _ :: _ :: _ :: _ :: _ :: L) w := hp
          refine s_call (wk0 rfl) rfl rfl hE rfl [(.agg #[(.slice none 0 0), (.slice none 0 0), (.slice none 0 0), (.slice none 0 0)]), (.agg #[(.int .i64 p0.kind), (.string p0.text), (.int .i64 p0.at_), (.int .i64 p0.fin), vp0_kids]), (.int .i64 0)] ⟨rfl, rfl, rfl, trivial⟩ ent31 (c_assessorref37_flat (RFlat.mk ([]) ([]) ([]) ([])) (.slice none 0 0) (.slice none 0 0) (.slice none 0 0) (.slice none 0 0) p0 vp0_kids hp0_kids 0 (((hp.get 1 rfl).get 2 rfl).get 3 rfl) x1 ex1) Ret.ret ?_
          intro v a w hR hE
          obtain ⟨vr12_kinds, vr12_texts, vr12_left, vr12_numbers, rfl, hp⟩ := Ret.of hR
          have hp : Hp Z ρ (OwnSl 3 vr12_kinds x1.kinds :: OwnSl 9 vr12_texts x1.texts :: OwnSl 3 vr12_left x1.left :: OwnSl 3 vr12_numbers x1.numbers :: _ :: _ :: _ :: _ :: L) w := hp
          refine s_nil (and_with ⟨fun _ => ⟨_, hp⟩, fun _ => ⟨_, (hp.get 6 rfl)⟩, fun _ => ⟨_, (hp.get 7 rfl)⟩, trivial⟩ fun hS => ?_)
          refine v_all [5] (by kernel_rfl) rfl ?_
          refine List.forall_mem_cons.2 ⟨?_, fun _ h => absurd h (by simp)⟩
          ·
            refine h_op rfl ?_
            have hp := hp.emp (OwnSl.nil (α := Int) 3)
            have hp : Hp Z ρ (OwnSl 3 (.slice none 0 0) ([] : List Int) :: _ :: _ :: _ :: _ :: _ :: _ :: _ :: _ :: L) w := hp
            have hp := hp.emp (OwnSl.nil (α := ByteArray) 9)
            have hp : Hp Z ρ (OwnSl 9 (.slice none 0 0) ([] : List ByteArray) :: _ :: _ :: _ :: _ :: _ :: _ :: _ :: _ :: _ :: L) w := hp
            have hp := hp.emp (OwnSl.nil (α := Int) 3)
            have hp : Hp Z ρ (OwnSl 3 (.slice none 0 0) ([] : List Int) :: _ :: _ :: _ :: _ :: _ :: _ :: _ :: _ :: _ :: _ :: L) w := hp
            have hp := hp.emp (OwnSl.nil (α := Int) 3)
            have hp : Hp Z ρ (OwnSl 3 (.slice none 0 0) ([] : List Int) :: _ :: _ :: _ :: _ :: _ :: _ :: _ :: _ :: _ :: _ :: _ :: L) w := hp
            refine s_call (wk0 rfl) rfl rfl hE rfl [(.agg #[(.slice none 0 0), (.slice none 0 0), (.slice none 0 0), (.slice none 0 0)]), (.agg #[(.int .i64 p1.kind), (.string p1.text), (.int .i64 p1.at_), (.int .i64 p1.fin), vp1_kids]), (.int .i64 0)] ⟨rfl, rfl, rfl, trivial⟩ ent31 (c_assessorref37_flat (RFlat.mk ([]) ([]) ([]) ([])) (.slice none 0 0) (.slice none 0 0) (.slice none 0 0) (.slice none 0 0) p1 vp1_kids hp1_kids 0 (((hp.get 1 rfl).get 2 rfl).get 3 rfl) x2 ex2) Ret.ret ?_
            intro v a w hR hE
            obtain ⟨vr13_kinds, vr13_texts, vr13_left, vr13_numbers, rfl, hp⟩ := Ret.of hR
            have hp : Hp Z ρ (OwnSl 3 vr13_kinds x2.kinds :: OwnSl 9 vr13_texts x2.texts :: OwnSl 3 vr13_left x2.left :: OwnSl 3 vr13_numbers x2.numbers :: _ :: _ :: _ :: _ :: _ :: _ :: _ :: _ :: L) w := hp
            refine s_nil (and_with ⟨fun _ => ⟨_, hp⟩, fun _ => ⟨_, (hp.get 10 rfl)⟩, fun _ => ⟨_, (hp.get 11 rfl)⟩, trivial⟩ fun hS => ?_)
            refine v_all [8] (by kernel_rfl) rfl ?_
            refine List.forall_mem_cons.2 ⟨?_, fun _ h => absurd h (by simp)⟩
            ·
              refine h_op rfl ?_
              refine s_store (wk0 rfl) rfl hE hp rfl rfl rfl 9 rfl varty60.size_ rfl (allOne_mem ⟨(OwnSl.one hp 4 rfl), (OwnSl.one hp 5 rfl), (OwnSl.one hp 6 rfl), (OwnSl.one hp 7 rfl), trivial⟩) [vr12_kinds, vr12_texts, vr12_left, vr12_numbers] rfl ?_
              intro w hp
              have hp : Hp Z ρ (_ :: _ :: _ :: _ :: _ :: _ :: _ :: _ :: _ :: Pt b15 (.cells #[vr12_kinds, vr12_texts, vr12_left, vr12_numbers] 60 (0, 0)) :: _ :: _ :: L) w := hp
              refine s_nil (and_with ⟨fun _ => ⟨_, hp⟩, fun _ => ⟨_, (hp.get 10 rfl)⟩, fun _ => ⟨_, (hp.get 11 rfl)⟩, trivial⟩ fun hS => ?_)
              refine v_all [9] (by kernel_rfl) rfl ?_
              refine List.forall_mem_cons.2 ⟨?_, fun _ h => absurd h (by simp)⟩
              ·
                refine h_op rfl ?_
                refine s_store (wk0 rfl) rfl hE hp rfl rfl rfl 8 rfl varty60.size_ rfl (allOne_mem ⟨(OwnSl.one hp 0 rfl), (OwnSl.one hp 1 rfl), (OwnSl.one hp 2 rfl), (OwnSl.one hp 3 rfl), trivial⟩) [vr13_kinds, vr13_texts, vr13_left, vr13_numbers] rfl ?_
                intro w hp
                have hp : Hp Z ρ (_ :: _ :: _ :: _ :: _ :: _ :: _ :: _ :: Pt b18 (.cells #[vr13_kinds, vr13_texts, vr13_left, vr13_numbers] 60 (0, 0)) :: _ :: _ :: _ :: L) w := hp
                refine s_nil (and_with ⟨fun _ => ⟨_, hp⟩, fun _ => ⟨_, (hp.get 10 rfl)⟩, fun _ => ⟨_, (hp.get 11 rfl)⟩, trivial⟩ fun hS => ?_)
                exact v_done (by kernel_rfl) ⟨_, _, _, _, _, _, _, _, _, _, hE.cut ⟨rfl, rfl, trivial⟩, ((((((((((((hp.get 11 rfl).get 11 rfl).get 9 rfl).get 9 rfl).get 9 rfl).get 9 rfl).get 9 rfl).get 9 rfl).get 9 rfl).get 9 rfl).get 11 rfl).get 11 rfl)⟩
    ·
      refine h_op rfl ?_
      refine s_new (wk0 rfl) rfl rfl hE hp rfl [(.slice none 0 0), (.slice none 0 0), (.slice none 0 0), (.slice none 0 0)] (fun w => by simp [Instr.alloc, go_sem] <;> rfl) ?_
      intro a w b19 hE hp
      have hp : Hp Z ρ (Pt b19 (.cells #[(.slice none 0 0), (.slice none 0 0), (.slice none 0 0), (.slice none 0 0)] 60 (0, 0)) :: _ :: _ :: L) w := hp
      refine s_nil (and_with ⟨fun _ => ⟨_, hp⟩, fun _ => ⟨_, (hp.get 1 rfl)⟩, fun _ => ⟨_, (hp.get 2 rfl)⟩, trivial⟩ fun hS => ?_)
      refine v_all [2, 6] (by kernel_rfl) rfl ?_
      refine List.forall_mem_cons.2 ⟨?_, List.forall_mem_cons.2 ⟨?_, fun _ h => absurd h (by simp)⟩⟩
      ·
        refine h_op rfl ?_
        have hp := hp.emp (OwnSl.nil (α := Int) 3)
        have hp : Hp Z ρ (OwnSl 3 (.slice none 0 0) ([] : List Int) :: _ :: _ :: _ :: L) w := hp
        have hp := hp.emp (OwnSl.nil (α := ByteArray) 9)
        have hp : Hp Z ρ (OwnSl 9 (.slice none 0 0) ([] : List ByteArray) :: _ :: _ :: _ :: _ :: L) w := hp
        have hp := hp.emp (OwnSl.nil (α := Int) 3)
        have hp : Hp Z ρ (OwnSl 3 (.slice none 0 0) ([] : List Int) :: _ :: _ :: _ :: _ :: _ :: L) w := hp
        have hp := hp.emp (OwnSl.nil (α := Int) 3)
        have hp : Hp Z ρ (OwnSl 3 (.slice none 0 0) ([] : List Int) :: _ :: _ :: _ :: _ :: _ :: _ :: L) w := hp
        refine s_call (wk0 rfl) rfl rfl hE rfl [(.agg #[(.slice none 0 0), (.slice none 0 0), (.slice none 0 0), (.slice none 0 0)]), (.agg #[(.int .i64 p0.kind), (.string p0.text), (.int .i64 p0.at_), (.int .i64 p0.fin), vp0_kids]), (.int .i64 0)] ⟨rfl, rfl, rfl, trivial⟩ ent31 (c_assessorref37_flat (RFlat.mk ([]) ([]) ([]) ([])) (.slice none 0 0) (.slice none 0 0) (.slice none 0 0) (.slice none 0 0) p0 vp0_kids hp0_kids 0 (((hp.get 1 rfl).get 2 rfl).get 3 rfl) x1 ex1) Ret.ret ?_
        intro v a w hR hE
        obtain ⟨vr14_kinds, vr14_texts, vr14_left, vr14_numbers, rfl, hp⟩ := Ret.of hR
        have hp : Hp Z ρ (OwnSl 3 vr14_kinds x1.kinds :: OwnSl 9 vr14_texts x1.texts :: OwnSl 3 vr14_left x1.left :: OwnSl 3 vr14_numbers x1.numbers :: _ :: _ :: _ :: L) w := hp
        refine s_nil (and_with ⟨fun _ => ⟨_, hp⟩, fun _ => ⟨_, (hp.get 5 rfl)⟩, fun _ => ⟨_, (hp.get 6 rfl)⟩, trivial⟩ fun hS => ?_)
        refine v_all [5, 6] (by kernel_rfl) rfl ?_
        refine List.forall_mem_cons.2 ⟨?_, List.forall_mem_cons.2 ⟨?_, fun _ h => absurd h (by simp)⟩⟩
        ·
          refine h_op rfl ?_
          have hp := hp.emp (OwnSl.nil (α := Int) 3)
          have hp : Hp Z ρ (OwnSl 3 (.slice none 0 0) ([] : List Int) :: _ :: _ :: _ :: _ :: _ :: _ :: _ :: L) w := hp
          have hp := hp.emp (OwnSl.nil (α := ByteArray) 9)
          have hp : Hp Z ρ (OwnSl 9 (.slice none 0 0) ([] : List ByteArray) :: _ :: _ :: _ :: _ :: _ :: _ :: _ :: _ :: L) w := hp
          have hp := hp.emp (OwnSl.nil (α := Int) 3)
          have hp : Hp Z ρ (OwnSl 3 (.slice none 0 0) ([] : List Int) :: _ :: _ :: _ :: _ :: _ :: _ :: _ :: _ :: _ :: L) w := hp
          have hp := hp.emp (OwnSl.nil (α := Int) 3)
          have hp : Hp Z ρ (OwnSl 3 (.slice none 0 0) ([] : List Int) :: _ :: _ :: _ :: _ :: _ :: _ :: _ :: _ :: _ :: _ :: L) w := hp
          refine s_call (wk0 rfl) rfl rfl hE rfl [(.agg #[(.slice none 0 0), (.slice none 0 0), (.slice none 0 0), (.slice none 0 0)]), (.agg #[(.int .i64 p1.kind), (.string p1.text), (.int .i64 p1.at_), (.int .i64 p1.fin), vp1_kids]), (.int .i64 0)] ⟨rfl, rfl, rfl, trivial⟩ ent31 (c_assessorref37_flat (RFlat.mk ([]) ([]) ([]) ([])) (.slice none 0 0) (.slice none 0 0) (.slice none 0 0) (.slice none 0 0) p1 vp1_kids hp1_kids 0 (((hp.get 1 rfl).get 2 rfl).get 3 rfl) x2 ex2) Ret.ret ?_
          intro v a w hR hE
          obtain ⟨vr15_kinds, vr15_texts, vr15_left, vr15_numbers, rfl, hp⟩ := Ret.of hR
          have hp : Hp Z ρ (OwnSl 3 vr15_kinds x2.kinds :: OwnSl 9 vr15_texts x2.texts :: OwnSl 3 vr15_left x2.left :: OwnSl 3 vr15_numbers x2.numbers :: _ :: _ :: _ :: _ :: _ :: _ :: _ :: L) w := hp
          refine s_nil (and_with ⟨fun _ => ⟨_, hp⟩, fun _ => ⟨_, (hp.get 9 rfl)⟩, fun _ => ⟨_, (hp.get 10 rfl)⟩, trivial⟩ fun hS => ?_)
          refine v_all [6] (by kernel_rfl) rfl ?_
          refine List.forall_mem_cons.2 ⟨?_, fun _ h => absurd h (by simp)⟩
          ·
            refine h_op rfl ?_
            refine s_new (wk0 rfl) rfl rfl hE hp rfl [(.slice none 0 0), (.slice none 0 0), (.slice none 0 0), (.slice none 0 0)] (fun w => by simp [Instr.alloc, go_sem] <;> rfl) ?_
            intro a w b20 hE hp
            have hp : Hp Z ρ (Pt b20 (.cells #[(.slice none 0 0), (.slice none 0 0), (.slice none 0 0), (.slice none 0 0)] 60 (0, 0)) :: _ :: _ :: _ :: _ :: _ :: _ :: _ :: _ :: _ :: _ :: _ :: L) w := hp
            refine s_nil (and_with ⟨fun _ => ⟨_, hp⟩, fun _ => ⟨_, (hp.get 10 rfl)⟩, fun _ => ⟨_, (hp.get 11 rfl)⟩, trivial⟩ fun hS => ?_)
            refine v_all [8] (by kernel_rfl) rfl ?_
            refine List.forall_mem_cons.2 ⟨?_, fun _ h => absurd h (by simp)⟩
            ·
              refine h_op rfl ?_
              refine s_store (wk0 rfl) rfl hE hp rfl rfl rfl 0 rfl varty60.size_ rfl (allOne_mem ⟨(OwnSl.one hp 5 rfl), (OwnSl.one hp 6 rfl), (OwnSl.one hp 7 rfl), (OwnSl.one hp 8 rfl), trivial⟩) [vr14_kinds, vr14_texts, vr14_left, vr14_numbers] rfl ?_
              intro w hp
              have hp : Hp Z ρ (Pt b20 (.cells #[vr14_kinds, vr14_texts, vr14_left, vr14_numbers] 60 (0, 0)) :: _ :: _ :: _ :: _ :: _ :: _ :: _ :: _ :: _ :: _ :: _ :: L) w := hp
              refine s_nil (and_with ⟨fun _ => ⟨_, hp⟩, fun _ => ⟨_, (hp.get 10 rfl)⟩, fun _ => ⟨_, (hp.get 11 rfl)⟩, trivial⟩ fun hS => ?_)
              refine v_all [9] (by kernel_rfl) rfl ?_
              refine List.forall_mem_cons.2 ⟨?_, fun _ h => absurd h (by simp)⟩
              ·
                refine h_op rfl ?_
                refine s_store (wk0 rfl) rfl hE hp rfl rfl rfl 9 rfl varty60.size_ rfl (allOne_mem ⟨(OwnSl.one hp 1 rfl), (OwnSl.one hp 2 rfl), (OwnSl.one hp 3 rfl), (OwnSl.one hp 4 rfl), trivial⟩) [vr15_kinds, vr15_texts, vr15_left, vr15_numbers] rfl ?_
                intro w hp
                have hp : Hp Z ρ (_ :: _ :: _ :: _ :: _ :: _ :: _ :: _ :: _ :: Pt b19 (.cells #[vr15_kinds, vr15_texts, vr15_left, vr15_numbers] 60 (0, 0)) :: _ :: _ :: L) w := hp
                refine s_nil (and_with ⟨fun _ => ⟨_, hp⟩, fun _ => ⟨_, (hp.get 10 rfl)⟩, fun _ => ⟨_, (hp.get 11 rfl)⟩, trivial⟩ fun hS => ?_)
                exact v_done (by kernel_rfl) ⟨_, _, _, _, _, _, _, _, _, _, hE.cut ⟨rfl, rfl, trivial⟩, ((((((((((((hp.get 11 rfl).get 11 rfl).get 10 rfl).get 10 rfl).get 10 rfl).get 10 rfl).get 10 rfl).get 10 rfl).get 10 rfl).get 10 rfl).get 10 rfl).get 11 rfl)⟩
        ·
          refine h_op rfl ?_
          refine s_new (wk0 rfl) rfl rfl hE hp rfl [(.slice none 0 0), (.slice none 0 0), (.slice none 0 0), (.slice none 0 0)] (fun w => by simp [Instr.alloc, go_sem] <;> rfl) ?_
          intro a w b21 hE hp
          have hp : Hp Z ρ (Pt b21 (.cells #[(.slice none 0 0), (.slice none 0 0), (.slice none 0 0), (.slice none 0 0)] 60 (0, 0)) :: _ :: _ :: _ :: _ :: _ :: _ :: _ :: L) w := hp
          refine s_nil (and_with ⟨fun _ => ⟨_, hp⟩, fun _ => ⟨_, (hp.get 6 rfl)⟩, fun _ => ⟨_, (hp.get 7 rfl)⟩, trivial⟩ fun hS => ?_)
          refine v_all [5] (by kernel_rfl) rfl ?_
          refine List.forall_mem_cons.2 ⟨?_, fun _ h => absurd h (by simp)⟩
          ·
            refine h_op rfl ?_
            have hp := hp.emp (OwnSl.nil (α := Int) 3)
            have hp : Hp Z ρ (OwnSl 3 (.slice none 0 0) ([] : List Int) :: _ :: _ :: _ :: _ :: _ :: _ :: _ :: _ :: L) w := hp
            have hp := hp.emp (OwnSl.nil (α := ByteArray) 9)
            have hp : Hp Z ρ (OwnSl 9 (.slice none 0 0) ([] : List ByteArray) :: _ :: _ :: _ :: _ :: _ :: _ :: _ :: _ :: _ :: L) w := hp
            have hp := hp.emp (OwnSl.nil (α := Int) 3)
            have hp : Hp Z ρ (OwnSl 3 (.slice none 0 0) ([] : List Int) :: _ :: _ :: _ :: _ :: _ :: _ :: _ :: _ :: _ :: _ :: L) w := hp
            have hp := hp.emp (OwnSl.nil (α := Int) 3)
            have hp : Hp Z ρ (OwnSl 3 (.slice none 0 0) ([] : List Int) :: _ :: _ :: _ :: _ :: _ :: _ :: _ :: _ :: _ :: _ :: _ :: L) w := hp
            refine s_call (wk0 rfl) rfl rfl hE rfl [(.agg #[(.slice none 0 0), (.slice none 0 0), (.slice none 0 0), (.slice none 0 0)]), (.agg #[(.int .i64 p1.kind), (.string p1.text), (.int .i64 p1.at_), (.int .i64 p1.fin), vp1_kids]), (.int .i64 0)] ⟨rfl, rfl, rfl, trivial⟩ ent31 (c_assessorref37_flat (RFlat.mk ([]) ([]) ([]) ([])) (.slice none 0 0) (.slice none 0 0) (.slice none 0 0) (.slice none 0 0) p1 vp1_kids hp1_kids 0 (((hp.get 1 rfl).get 2 rfl).get 3 rfl) x2 ex2) Ret.ret ?_
            intro v a w hR hE
            obtain ⟨vr16_kinds, vr16_texts, vr16_left, vr16_numbers, rfl, hp⟩ := Ret.of hR
            have hp : Hp Z ρ (OwnSl 3 vr16_kinds x2.kinds :: OwnSl 9 vr16_texts x2.texts :: OwnSl 3 vr16_left x2.left :: OwnSl 3 vr16_numbers x2.numbers :: _ :: _ :: _ :: _ :: _ :: _ :: _ :: _ :: L) w := hp
            refine s_nil (and_with ⟨fun _ => ⟨_, hp⟩, fun _ => ⟨_, (hp.get 10 rfl)⟩, fun _ => ⟨_, (hp.get 11 rfl)⟩, trivial⟩ fun hS => ?_)
            refine v_all [8] (by kernel_rfl) rfl ?_
            refine List.forall_mem_cons.2 ⟨?_, fun _ h => absurd h (by simp)⟩
            ·
              refine h_op rfl ?_
              refine s_store (wk0 rfl) rfl hE hp rfl rfl rfl 4 rfl varty60.size_ rfl (allOne_mem ⟨(OwnSl.one hp 5 rfl), (OwnSl.one hp 6 rfl), (OwnSl.one hp 7 rfl), (OwnSl.one hp 8 rfl), trivial⟩) [vr14_kinds, vr14_texts, vr14_left, vr14_numbers] rfl ?_
              intro w hp
              have hp : Hp Z ρ (_ :: _ :: _ :: _ :: Pt b21 (.cells #[vr14_kinds, vr14_texts, vr14_left, vr14_numbers] 60 (0, 0)) :: _ :: _ :: _ :: _ :: _ :: _ :: _ :: L) w := hp
              refine s_nil (and_with ⟨fun _ => ⟨_, hp⟩, fun _ => ⟨_, (hp.get 10 rfl)⟩, fun _ => ⟨_, (hp.get 11 rfl)⟩, trivial⟩ fun hS => ?_)
              refine v_all [9] (by kernel_rfl) rfl ?_
              refine List.forall_mem_cons.2 ⟨?_, fun _ h => absurd h (by simp)⟩
              ·
                refine h_op rfl ?_
                refine s_store (wk0 rfl) rfl hE hp rfl rfl rfl 9 rfl varty60.size_ rfl (allOne_mem ⟨(OwnSl.one hp 0 rfl), (OwnSl.one hp 1 rfl), (OwnSl.one hp 2 rfl), (OwnSl.one hp 3 rfl), trivial⟩) [vr16_kinds, vr16_texts, vr16_left, vr16_numbers] rfl ?_
                intro w hp
                have hp : Hp Z ρ (_ :: _ :: _ :: _ :: _ :: _ :: _ :: _ :: _ :: Pt b19 (.cells #[vr16_kinds, vr16_texts, vr16_left, vr16_numbers] 60 (0, 0)) :: _ :: _ :: L) w := hp
                refine s_nil (and_with ⟨fun _ => ⟨_, hp⟩, fun _ => ⟨_, (hp.get 10 rfl)⟩, fun _ => ⟨_, (hp.get 11 rfl)⟩, trivial⟩ fun hS => ?_)
                exact v_done (by kernel_rfl) ⟨_, _, _, _, _, _, _, _, _, _, hE.cut ⟨rfl, rfl, trivial⟩, ((((((((((((hp.get 11 rfl).get 11 rfl).get 10 rfl).get 10 rfl).get 10 rfl).get 10 rfl).get 9 rfl).get 9 rfl).get 9 rfl).get 9 rfl).get 10 rfl).get 11 rfl)⟩
      ·
        refine h_op rfl ?_
        refine s_new (wk0 rfl) rfl rfl hE hp rfl [(.slice none 0 0), (.slice none 0 0), (.slice none 0 0), (.slice none 0 0)] (fun w => by simp [Instr.alloc, go_sem] <;> rfl) ?_
        intro a w b22 hE hp
        have hp : Hp Z ρ (Pt b22 (.cells #[(.slice none 0 0), (.slice none 0 0), (.slice none 0 0), (.slice none 0 0)] 60 (0, 0)) :: _ :: _ :: _ :: L) w := hp
        refine s_nil (and_with ⟨fun _ => ⟨_, hp⟩, fun _ => ⟨_, (hp.get 2 rfl)⟩, fun _ => ⟨_, (hp.get 3 rfl)⟩, trivial⟩ fun hS => ?_)
        refine v_all [2] (by kernel_rfl) rfl ?_
        refine List.forall_mem_cons.2 ⟨?_, fun _ h => absurd h (by simp)⟩
        ·
          refine h_op rfl ?_
          have hp := hp.emp (OwnSl.nil (α := Int) 3)
          have hp : Hp Z ρ (OwnSl 3 (.slice none 0 0) ([] : List Int) :: _ :: _ :: _ :: _ :: L) w := hp
          have hp := hp.emp (OwnSl.nil (α := ByteArray) 9)
          have hp : Hp Z ρ (OwnSl 9 (.slice none 0 0) ([] : List ByteArray) :: _ :: _ :: _ :: _ :: _ :: L) w := hp
          have hp := hp.emp (OwnSl.nil (α := Int) 3)
          have hp : Hp Z ρ (OwnSl 3 (.slice none 0 0) ([] : List Int) :: _ :: _ :: _ :: _ :: _ :: _ :: L) w := hp
          have hp := hp.emp (OwnSl.nil (α := Int) 3)
          have hp : Hp Z ρ (OwnSl 3 (.slice none 0 0) ([] : List Int) :: _ :: _ :: _ :: _ :: _ :: _ :: _ :: L) w := hp
          refine s_call (wk0 rfl) rfl rfl hE rfl [(.agg #[(.slice none 0 0), (.slice none 0 0), (.slice none 0 0), (.slice none 0 0)]), (.agg #[(.int .i64 p0.kind), (.string p0.text), (.int .i64 p0.at_), (.int .i64 p0.fin), vp0_kids]), (.int .i64 0)] ⟨rfl, rfl, rfl, trivial⟩ ent31 (c_assessorref37_flat (RFlat.mk ([]) ([]) ([]) ([])) (.slice none 0 0) (.slice none 0 0) (.slice none 0 0) (.slice none 0 0) p0 vp0_kids hp0_kids 0 (((hp.get 1 rfl).get 2 rfl).get 3 rfl) x1 ex1) Ret.ret ?_
          intro v a w hR hE
          obtain ⟨vr17_kinds, vr17_texts, vr17_left, vr17_numbers, rfl, hp⟩ := Ret.of hR
          have hp : Hp Z ρ (OwnSl 3 vr17_kinds x1.kinds :: OwnSl 9 vr17_texts x1.texts :: OwnSl 3 vr17_left x1.left :: OwnSl 3 vr17_numbers x1.numbers :: _ :: _ :: _ :: _ :: L) w := hp
          refine s_nil (and_with ⟨fun _ => ⟨_, hp⟩, fun _ => ⟨_, (hp.get 6 rfl)⟩, fun _ => ⟨_, (hp.get 7 rfl)⟩, trivial⟩ fun hS => ?_)
          refine v_all [5] (by kernel_rfl) rfl ?_
          refine List.forall_mem_cons.2 ⟨?_, fun _ h => absurd h (by simp)⟩
          ·
            refine h_op rfl ?_
            have hp := hp.emp (OwnSl.nil (α := Int) 3)
            have hp : Hp Z ρ (OwnSl 3 (.slice none 0 0) ([] : List Int) :: _ :: _ :: _ :: _ :: _ :: _ :: _ :: _ :: L) w := hp
            have hp := hp.emp (OwnSl.nil (α := ByteArray) 9)
            have hp : Hp Z ρ (OwnSl 9 (.slice none 0 0) ([] : List ByteArray) :: _ :: _ :: _ :: _ :: _ :: _ :: _ :: _ :: _ :: L) w := hp
            have hp := hp.emp (OwnSl.nil (α := Int) 3)
            have hp : Hp Z ρ (OwnSl 3 (.slice none 0 0) ([] : List Int) :: _ :: _ :: _ :: _ :: _ :: _ :: _ :: _ :: _ :: _ :: L) w := hp
            have hp := hp.emp (OwnSl.nil (α := Int) 3)
            have hp : Hp Z ρ (OwnSl 3 (.slice none 0 0) ([] : List Int) :: _ :: _ :: _ :: _ :: _ :: _ :: _ :: _ :: _ :: _ :: _ :: L) w := hp
            refine s_call (wk0 rfl) rfl rfl hE rfl [(.agg #[(.slice none 0 0), (.slice none 0 0), (.slice none 0 0), (.slice none 0 0)]), (.agg #[(.int .i64 p1.kind), (.string p1.text), (.int .i64 p1.at_), (.int .i64 p1.fin), vp1_kids]), (.int .i64 0)] ⟨rfl, rfl, rfl, trivial⟩ ent31 (c_assessorref37_flat (RFlat.mk ([]) ([]) ([]) ([])) (.slice none 0 0) (.slice none 0 0) (.slice none 0 0) (.slice none 0 0) p1 vp1_kids hp1_kids 0 (((hp.get 1 rfl).get 2 rfl).get 3 rfl) x2 ex2) Ret.ret ?_
            intro v a w hR hE
            obtain ⟨vr18_kinds, vr18_texts, vr18_left, vr18_numbers, rfl, hp⟩ := Ret.of hR
            have hp : Hp Z ρ (OwnSl 3 vr18_kinds x2.kinds :: OwnSl 9 vr18_texts x2.texts :: OwnSl 3 vr18_left x2.left :: OwnSl 3 vr18_numbers x2.numbers :: _ :: _ :: _ :: _ :: _ :: _ :: _ :: _ :: L) w := hp
            refine s_nil (and_with ⟨fun _ => ⟨_, hp⟩, fun _ => ⟨_, (hp.get 10 rfl)⟩, fun _ => ⟨_, (hp.get 11 rfl)⟩, trivial⟩ fun hS => ?_)
            refine v_all [8] (by kernel_rfl) rfl ?_
            refine List.forall_mem_cons.2 ⟨?_, fun _ h => absurd h (by simp)⟩
            ·
              refine h_op rfl ?_
              refine s_store (wk0 rfl) rfl hE hp rfl rfl rfl 8 rfl varty60.size_ rfl (allOne_mem ⟨(OwnSl.one hp 4 rfl), (OwnSl.one hp 5 rfl), (OwnSl.one hp 6 rfl), (OwnSl.one hp 7 rfl), trivial⟩) [vr17_kinds, vr17_texts, vr17_left, vr17_numbers] rfl ?_
              intro w hp
              have hp : Hp Z ρ (_ :: _ :: _ :: _ :: _ :: _ :: _ :: _ :: Pt b22 (.cells #[vr17_kinds, vr17_texts, vr17_left, vr17_numbers] 60 (0, 0)) :: _ :: _ :: _ :: L) w := hp
              refine s_nil (and_with ⟨fun _ => ⟨_, hp⟩, fun _ => ⟨_, (hp.get 10 rfl)⟩, fun _ => ⟨_, (hp.get 11 rfl)⟩, trivial⟩ fun hS => ?_)
              refine v_all [9] (by kernel_rfl) rfl ?_
              refine List.forall_mem_cons.2 ⟨?_, fun _ h => absurd h (by simp)⟩
              ·
                refine h_op rfl ?_
                refine s_store (wk0 rfl) rfl hE hp rfl rfl rfl 9 rfl varty60.size_ rfl (allOne_mem ⟨(OwnSl.one hp 0 rfl), (OwnSl.one hp 1 rfl), (OwnSl.one hp 2 rfl), (OwnSl.one hp 3 rfl), trivial⟩) [vr18_kinds, vr18_texts, vr18_left, vr18_numbers] rfl ?_
                intro w hp
                have hp : Hp Z ρ (_ :: _ :: _ :: _ :: _ :: _ :: _ :: _ :: _ :: Pt b19 (.cells #[vr18_kinds, vr18_texts, vr18_left, vr18_numbers] 60 (0, 0)) :: _ :: _ :: L) w := hp
                refine s_nil (and_with ⟨fun _ => ⟨_, hp⟩, fun _ => ⟨_, (hp.get 10 rfl)⟩, fun _ => ⟨_, (hp.get 11 rfl)⟩, trivial⟩ fun hS => ?_)
                exact v_done (by kernel_rfl) ⟨_, _, _, _, _, _, _, _, _, _, hE.cut ⟨rfl, rfl, trivial⟩, ((((((((((((hp.get 11 rfl).get 11 rfl).get 9 rfl).get 9 rfl).get 9 rfl).get 9 rfl).get 9 rfl).get 9 rfl).get 9 rfl).get 9 rfl).get 10 rfl).get 11 rfl)⟩
  · rintro a w ⟨y12, y11, y7, y8, y9, y10, y3, y4, y5, y6, hE, hp⟩
    refine k_seq ?_
    refine k_region ?_
    refine s_val (wk0 rfl) rfl rfl hE hp (v := (.pointer (some ⟨y12, 0, none⟩))) (ex_field rfl hE rfl (fldty60_0 _ _)) ?_
    intro a hE
    refine s_val (wk0 rfl) rfl rfl hE hp (v := y7) (ex_load rfl hE rfl (fun w hw => run_ld1 varty34 (Hp.c 0 rfl 0 rfl w hw))) ?_
    intro a hE
    refine s_val (wk0 rfl) rfl rfl hE hp (v := (.int .i64 (x2.kinds.length : Int))) (ex_len rfl hE rfl (OwnSl.len hp 2 rfl slty34)) ?_
    intro a hE
    obtain ⟨x3, ex3, hm⟩ := bnd hm
    refine s_make (wk0 rfl) rfl rfl hE hp rfl (El := 4) (bytes := 1) (by kernel_rfl) (false : Bool) (by kernel_rfl) (by kernel_rfl) rfl rfl ex3 ?_
    intro v1 a w hE hp
    have hp : Hp Z ρ (OwnSl 4 v1 x3 :: Pt y12 (.cells #[y7, y8, y9, y10] 60 (0, 0)) :: Pt y11 (.cells #[y3, y4, y5, y6] 60 (0, 0)) :: OwnSl 3 y7 x2.kinds :: OwnSl 9 y8 x2.texts :: OwnSl 3 y9 x2.left :: OwnSl 3 y10 x2.numbers :: OwnSl 3 y3 x1.kinds :: OwnSl 9 y4 x1.texts :: OwnSl 3 y5 x1.left :: OwnSl 3 y6 x1.numbers :: _ :: _ :: L) w := hp
    refine s_val (wk0 rfl) rfl rfl hE hp (v := v1) (ex_asn rfl hE rfl) ?_
    intro a hE
    refine s_nil ?_
    refine k_seq ?_
    refine k_region ?_
    refine s_val (wk0 rfl) rfl rfl hE hp (v := (.int .i64 0)) (ex_asn rfl hE rfl) ?_
    intro a hE
    refine s_nil ?_
    refine k_seq ?_
    refine k_seq ?_
    refine k_region ?_
    refine s_val (wk0 rfl) rfl rfl hE hp (v := (.int .i64 0)) (ex_asn rfl hE rfl) ?_
    intro a hE
    refine s_nil ?_
    obtain ⟨b23, hb1, hm⟩ := bnd hm
    refine k_block (fun a w => ∃ (w13 : Value), Env 85 [(5, (.pointer (some ⟨y11, 0, none⟩))), (6, (.pointer (some ⟨y12, 0, none⟩))), (8, (.int .i64 b23.1))] a ∧ Hp Z ρ (OwnSl 4 w13 b23.2 :: Pt y12 (.cells #[y7, y8, y9, y10] 60 (0, 0)) :: Pt y11 (.cells #[y3, y4, y5, y6] 60 (0, 0)) :: OwnSl 3 y7 x2.kinds :: OwnSl 9 y8 x2.texts :: OwnSl 3 y9 x2.left :: OwnSl 3 y10 x2.numbers :: OwnSl 3 y3 x1.kinds :: OwnSl 9 y4 x1.texts :: OwnSl 3 y5 x1.left :: OwnSl 3 y6 x1.numbers :: Pt b2 (.cells #[(.int .i64 p1.kind), (.string p1.text), (.int .i64 p1.at_), (.int .i64 p1.fin), vp1_kids] 24 (0, 0)) :: Pt b1 (.cells #[(.int .i64 p0.kind), (.string p0.text), (.int .i64 p0.at_), (.int .i64 p0.fin), vp0_kids] 24 (0, 0)) :: L) w) ?_ ?_
    · refine k_loop hb1 (fun s a w => ∃ (w13 : Value), Env 85 [(5, (.pointer (some ⟨y11, 0, none⟩))), (6, (.pointer (some ⟨y12, 0, none⟩))), (7, w13), (8, (.int .i64 s.1)), (9, (.int .i64 s.2.1))] a ∧ Hp Z ρ (OwnSl 4 w13 s.2.2 :: Pt y12 (.cells #[y7, y8, y9, y10] 60 (0, 0)) :: Pt y11 (.cells #[y3, y4, y5, y6] 60 (0, 0)) :: OwnSl 3 y7 x2.kinds :: OwnSl 9 y8 x2.texts :: OwnSl 3 y9 x2.left :: OwnSl 3 y10 x2.numbers :: OwnSl 3 y3 x1.kinds :: OwnSl 9 y4 x1.texts :: OwnSl 3 y5 x1.left :: OwnSl 3 y6 x1.numbers :: Pt b2 (.cells #[(.int .i64 p1.kind), (.string p1.text), (.int .i64 p1.at_), (.int .i64 p1.fin), vp1_kids] 24 (0, 0)) :: Pt b1 (.cells #[(.int .i64 p0.kind), (.string p0.text), (.int .i64 p0.at_), (.int .i64 p0.fin), vp0_kids] 24 (0, 0)) :: L) w) ?_ ?_
      · exact ⟨_, hE.cut ⟨rfl, rfl, rfl, rfl, rfl, trivial⟩, hp⟩
      · rintro ⟨lp1_0, lp1_1, lp1_2⟩ st a w ⟨w13, hE, hp⟩ hl1
        have hE : Env 85 [(5, (.pointer (some ⟨y11, 0, none⟩))), (6, (.pointer (some ⟨y12, 0, none⟩))), (7, w13), (8, (.int .i64 lp1_0)), (9, (.int .i64 lp1_1))] a := hE
        have hp : Hp Z ρ (OwnSl 4 w13 lp1_2 :: _ :: _ :: _ :: _ :: _ :: _ :: _ :: _ :: _ :: _ :: _ :: _ :: L) w := hp
        replace hl1 : m_assessorref37_Bound_lp1 x1 x2 lp1_0 lp1_1 lp1_2 = some st := hl1
        unfold m_assessorref37_Bound_lp1 at hl1
        refine k_seq ?_
        refine k_seq ?_
        refine k_region ?_
        refine s_val (wk0 rfl) rfl rfl hE hp (v := (.int .i64 lp1_1)) (ex_move rfl hE rfl) ?_
        intro a hE
        refine s_val (wk0 rfl) rfl rfl hE hp (v := (.pointer (some ⟨y11, 0, none⟩))) (ex_field rfl hE rfl (fldty60_0 _ _)) ?_
        intro a hE
        refine s_val (wk0 rfl) rfl rfl hE hp (v := y3) (ex_load rfl hE rfl (fun w hw => run_ld1 varty34 (Hp.c 2 rfl 0 rfl w hw))) ?_
        intro a hE
        refine s_val (wk0 rfl) rfl rfl hE hp (v := (.int .i64 (x1.kinds.length : Int))) (ex_len rfl hE rfl (OwnSl.len hp 7 rfl slty34)) ?_
        intro a hE
        refine s_val (wk0 rfl) rfl rfl hE hp (v := (.bool (decide (lp1_1 < (x1.kinds.length : Int))))) (ex_lss rfl hE rfl rfl) ?_
        intro a hE
        refine s_nil ?_
        have hE := hE.cut (E' := [(5, (.pointer (some ⟨y11, 0, none⟩))), (6, (.pointer (some ⟨y12, 0, none⟩))), (7, w13), (8, (.int .i64 lp1_0)), (9, (.int .i64 lp1_1)), (26, (.bool (decide (lp1_1 < (x1.kinds.length : Int)))))]) ⟨rfl, rfl, rfl, rfl, rfl, rfl, trivial⟩
        refine k_if hE rfl (fun hb2 => ?_) (fun hb2 => ?_)
        · replace hl1 := (it hb2).symm.trans hl1
          refine k_skip ?_
          refine k_seq ?_
          refine k_plain ?_
          refine k_seq ?_
          refine k_region ?_
          refine s_val (wk0 rfl) rfl rfl hE hp (v := (.bool false)) (ex_asn rfl hE rfl) ?_
          intro a hE
          refine s_nil ?_
          refine k_seq ?_
          refine k_region ?_
          refine s_val (wk0 rfl) rfl rfl hE hp (v := (.int .i64 0)) (ex_asn rfl hE rfl) ?_
          intro a hE
          refine s_nil ?_
          obtain ⟨b24, hb3, hl1⟩ := bnd hl1
          refine k_block (fun a w => ∃ (w13 : Value), Env 85 [(5, (.pointer (some ⟨y11, 0, none⟩))), (6, (.pointer (some ⟨y12, 0, none⟩))), (7, w13), (8, (.int .i64 b24.1)), (9, (.int .i64 lp1_1))] a ∧ Hp Z ρ (OwnSl 4 w13 b24.2 :: Pt y12 (.cells #[y7, y8, y9, y10] 60 (0, 0)) :: Pt y11 (.cells #[y3, y4, y5, y6] 60 (0, 0)) :: OwnSl 3 y7 x2.kinds :: OwnSl 9 y8 x2.texts :: OwnSl 3 y9 x2.left :: OwnSl 3 y10 x2.numbers :: OwnSl 3 y3 x1.kinds :: OwnSl 9 y4 x1.texts :: OwnSl 3 y5 x1.left :: OwnSl 3 y6 x1.numbers :: Pt b2 (.cells #[(.int .i64 p1.kind), (.string p1.text), (.int .i64 p1.at_), (.int .i64 p1.fin), vp1_kids] 24 (0, 0)) :: Pt b1 (.cells #[(.int .i64 p0.kind), (.string p0.text), (.int .i64 p0.at_), (.int .i64 p0.fin), vp0_kids] 24 (0, 0)) :: L) w) ?_ ?_
          · refine k_loop hb3 (fun s a w => ∃ (w13 : Value), Env 85 [(5, (.pointer (some ⟨y11, 0, none⟩))), (6, (.pointer (some ⟨y12, 0, none⟩))), (7, w13), (8, (.int .i64 s.1)), (9, (.int .i64 lp1_1)), (10, (.bool s.2.1)), (11, (.int .i64 s.2.2.1))] a ∧ Hp Z ρ (OwnSl 4 w13 s.2.2.2 :: Pt y12 (.cells #[y7, y8, y9, y10] 60 (0, 0)) :: Pt y11 (.cells #[y3, y4, y5, y6] 60 (0, 0)) :: OwnSl 3 y7 x2.kinds :: OwnSl 9 y8 x2.texts :: OwnSl 3 y9 x2.left :: OwnSl 3 y10 x2.numbers :: OwnSl 3 y3 x1.kinds :: OwnSl 9 y4 x1.texts :: OwnSl 3 y5 x1.left :: OwnSl 3 y6 x1.numbers :: Pt b2 (.cells #[(.int .i64 p1.kind), (.string p1.text), (.int .i64 p1.at_), (.int .i64 p1.fin), vp1_kids] 24 (0, 0)) :: Pt b1 (.cells #[(.int .i64 p0.kind), (.string p0.text), (.int .i64 p0.at_), (.int .i64 p0.fin), vp0_kids] 24 (0, 0)) :: L) w) ?_ ?_
            · exact ⟨_, hE.cut ⟨rfl, rfl, rfl, rfl, rfl, rfl, rfl, trivial⟩, hp⟩
            · rintro ⟨lp2_0, lp2_1, lp2_2, lp2_3⟩ st a w ⟨w13, hE, hp⟩ hl2
              have hE : Env 85 [(5, (.pointer (some ⟨y11, 0, none⟩))), (6, (.pointer (some ⟨y12, 0, none⟩))), (7, w13), (8, (.int .i64 lp2_0)), (9, (.int .i64 lp1_1)), (10, (.bool lp2_1)), (11, (.int .i64 lp2_2))] a := hE
              have hp : Hp Z ρ (OwnSl 4 w13 lp2_3 :: _ :: _ :: _ :: _ :: _ :: _ :: _ :: _ :: _ :: _ :: _ :: _ :: L) w := hp
              replace hl2 : m_assessorref37_Bound_lp2 x1 x2 lp1_1 lp2_0 lp2_1 lp2_2 lp2_3 = some st := hl2
              unfold m_assessorref37_Bound_lp2 at hl2
              refine k_seq ?_
              refine k_seq ?_
              refine k_region ?_
              refine s_val (wk0 rfl) rfl rfl hE hp (v := (.int .i64 lp2_2)) (ex_move rfl hE rfl) ?_
              intro a hE
              refine s_val (wk0 rfl) rfl rfl hE hp (v := (.pointer (some ⟨y12, 0, none⟩))) (ex_field rfl hE rfl (fldty60_0 _ _)) ?_
              intro a hE
              refine s_val (wk0 rfl) rfl rfl hE hp (v := y7) (ex_load rfl hE rfl (fun w hw => run_ld1 varty34 (Hp.c 1 rfl 0 rfl w hw))) ?_
              intro a hE
              refine s_val (wk0 rfl) rfl rfl hE hp (v := (.int .i64 (x2.kinds.length : Int))) (ex_len rfl hE rfl (OwnSl.len hp 3 rfl slty34)) ?_
              intro a hE
              refine s_val (wk0 rfl) rfl rfl hE hp (v := (.bool (decide (lp2_2 < (x2.kinds.length : Int))))) (ex_lss rfl hE rfl rfl) ?_
              intro a hE
              refine s_nil ?_
              have hE := hE.cut (E' := [(5, (.pointer (some ⟨y11, 0, none⟩))), (6, (.pointer (some ⟨y12, 0, none⟩))), (7, w13), (8, (.int .i64 lp2_0)), (9, (.int .i64 lp1_1)), (10, (.bool lp2_1)), (11, (.int .i64 lp2_2)), (33, (.bool (decide (lp2_2 < (x2.kinds.length : Int)))))]) ⟨rfl, rfl, rfl, rfl, rfl, rfl, rfl, rfl, trivial⟩
              refine k_if hE rfl (fun hb4 => ?_) (fun hb4 => ?_)
              · replace hl2 := (it hb4).symm.trans hl2
                refine k_skip ?_
                refine k_seq ?_
                refine k_plain ?_
                refine k_seq ?_
                refine k_quiet (by kernel_rfl) (by kernel_rfl) hp ?_
                refine q_val (wk0 rfl) rfl rfl hE (v := (.bool lp2_1)) (ex_move rfl hE rfl) ?_
                intro a hE
                refine q_val (wk0 rfl) rfl rfl hE (v := (.bool (!lp2_1))) (ex_not rfl hE rfl) ?_
                intro a hE
                refine q_val (wk0 rfl) rfl rfl hE (v := (.bool (!lp2_1))) (ex_move rfl hE rfl) ?_
                intro a hE
                obtain ⟨m1, hg1, hl2⟩ := bnd hl2
                refine q_cut [_, _, _, _, _, _] (fun a => Env 85 [(44, (.bool m1)), (5, (.pointer (some ⟨y11, 0, none⟩))), (6, (.pointer (some ⟨y12, 0, none⟩))), (7, w13), (8, (.int .i64 lp2_0)), (9, (.int .i64 lp1_1)), (10, (.bool lp2_1)), (11, (.int .i64 lp2_2))] a) ?_ ?_
                · rcases Bool.eq_false_or_eq_true (!lp2_1) with hb5 | hb5
                  ·
                    replace hg1 := (it hb5).symm.trans hg1
                    refine q_val (wk1 hE rfl rfl rfl hb5) rfl rfl hE (v := w13) (ex_move rfl hE rfl) ?_
                    intro a hE
                    refine q_val (wk1 hE rfl rfl rfl hb5) rfl rfl hE (v := (.int .i64 lp2_2)) (ex_move rfl hE rfl) ?_
                    intro a hE
                    obtain ⟨x4, ex4, hg1⟩ := bnd hg1
                    obtain ⟨b25, b25o, b25r, b25v, b25f⟩ := OwnSl.at hp 0 rfl slty71 ex4
                    have b25f : ∀ (j : Nat) (u : Value), ([(.bool x4)] : List Value)[j]? = some u → ∀ ρ' L' w, Hp Z ρ' (OwnSl 4 w13 lp2_3 :: L') w → w.cell? ⟨b25, b25o + j, none⟩ = some u := b25f
                    refine q_val (wk1 hE rfl rfl rfl hb5) rfl rfl hE (v := (.pointer (some ⟨b25, b25o, none⟩))) (ex_index rfl hE rfl rfl b25r) ?_
                    intro a hE
                    refine q_val (wk1 hE rfl rfl rfl hb5) rfl rfl hE (v := (.bool x4)) (ex_load rfl hE rfl (fun w hw => run_ld1 varty4 (b25f 0 _ rfl _ _ w (hw.get 0 rfl)))) ?_
                    intro a hE
                    refine q_val (wk1 hE rfl rfl rfl hb5) rfl rfl hE (v := (.bool (!x4))) (ex_not rfl hE rfl) ?_
                    intro a hE
                    refine q_val (wk0 rfl) rfl rfl hE (v := (.bool (!x4))) (ex_pick1 rfl hE rfl hb5 rfl) ?_
                    intro a hE
                    obtain rfl := Option.some.inj hg1
                    exact q_nil (hE.cut ⟨rfl, rfl, rfl, rfl, rfl, rfl, rfl, rfl, trivial⟩)
                  ·
                    replace hg1 := (ie hb5).symm.trans hg1
                    refine q_skip (wk2 hE rfl rfl rfl hb5) rfl rfl hE ?_
                    intro a hE
                    refine q_skip (wk2 hE rfl rfl rfl hb5) rfl rfl hE ?_
                    intro a hE
                    refine q_skip (wk2 hE rfl rfl rfl hb5) rfl rfl hE ?_
                    intro a hE
                    refine q_skip (wk2 hE rfl rfl rfl hb5) rfl rfl hE ?_
                    intro a hE
                    refine q_skip (wk2 hE rfl rfl rfl hb5) rfl rfl hE ?_
                    intro a hE
                    refine q_val (wk0 rfl) rfl rfl hE (v := (.bool false)) (ex_pick0 rfl hE rfl hb5 rfl) ?_
                    intro a hE
                    obtain rfl := Option.some.inj hg1
                    exact q_nil (hE.cut ⟨rfl, rfl, rfl, rfl, rfl, rfl, rfl, rfl, trivial⟩)
                · intro a hE
                  refine q_val (wk0 rfl) rfl rfl hE (v := (.bool m1)) (ex_move rfl hE rfl) ?_
                  intro a hE
                  obtain ⟨m2, hg2, hl2⟩ := bnd hl2
                  refine q_cut [_, _, _, _, _, _, _, _, _, _, _, _] (fun a => Env 85 [(57, (.bool m2)), (5, (.pointer (some ⟨y11, 0, none⟩))), (6, (.pointer (some ⟨y12, 0, none⟩))), (7, w13), (8, (.int .i64 lp2_0)), (9, (.int .i64 lp1_1)), (10, (.bool lp2_1)), (11, (.int .i64 lp2_2))] a) ?_ ?_
                  · rcases Bool.eq_false_or_eq_true m1 with hb6 | hb6
                    ·
                      replace hg2 := (it hb6).symm.trans hg2
                      refine q_val (wk1 hE rfl rfl rfl hb6) rfl rfl hE (v := (.pointer (some ⟨y11, 0, none⟩))) (ex_field rfl hE rfl (fldty60_0 _ _)) ?_
                      intro a hE
                      refine q_val (wk1 hE rfl rfl rfl hb6) rfl rfl hE (v := y3) (ex_load rfl hE rfl (fun w hw => run_ld1 varty34 (Hp.c 2 rfl 0 rfl w hw))) ?_
                      intro a hE
                      refine q_val (wk1 hE rfl rfl rfl hb6) rfl rfl hE (v := (.int .i64 lp1_1)) (ex_move rfl hE rfl) ?_
                      intro a hE
                      obtain ⟨x5, ex5, hg2⟩ := bnd hg2
                      obtain ⟨b26, b26o, b26r, b26v, b26f⟩ := OwnSl.at hp 7 rfl slty34 ex5
                      have b26f : ∀ (j : Nat) (u : Value), ([(.int .i64 x5)] : List Value)[j]? = some u → ∀ ρ' L' w, Hp Z ρ' (OwnSl 3 y3 x1.kinds :: L') w → w.cell? ⟨b26, b26o + j, none⟩ = some u := b26f
                      refine q_val (wk1 hE rfl rfl rfl hb6) rfl rfl hE (v := (.pointer (some ⟨b26, b26o, none⟩))) (ex_index rfl hE rfl rfl b26r) ?_
                      intro a hE
                      refine q_val (wk1 hE rfl rfl rfl hb6) rfl rfl hE (v := (.int .i64 x5)) (ex_load rfl hE rfl (fun w hw => run_ld1 varty3 (b26f 0 _ rfl _ _ w (hw.get 7 rfl)))) ?_
                      intro a hE
                      refine q_val (wk1 hE rfl rfl rfl hb6) rfl rfl hE (v := (.pointer (some ⟨y12, 0, none⟩))) (ex_field rfl hE rfl (fldty60_0 _ _)) ?_
                      intro a hE
                      refine q_val (wk1 hE rfl rfl rfl hb6) rfl rfl hE (v := y7) (ex_load rfl hE rfl (fun w hw => run_ld1 varty34 (Hp.c 1 rfl 0 rfl w hw))) ?_
                      intro a hE
                      refine q_val (wk1 hE rfl rfl rfl hb6) rfl rfl hE (v := (.int .i64 lp2_2)) (ex_move rfl hE rfl) ?_
                      intro a hE
                      obtain ⟨x6, ex6, hg2⟩ := bnd hg2
                      obtain ⟨b27, b27o, b27r, b27v, b27f⟩ := OwnSl.at hp 3 rfl slty34 ex6
                      have b27f : ∀ (j : Nat) (u : Value), ([(.int .i64 x6)] : List Value)[j]? = some u → ∀ ρ' L' w, Hp Z ρ' (OwnSl 3 y7 x2.kinds :: L') w → w.cell? ⟨b27, b27o + j, none⟩ = some u := b27f
                      refine q_val (wk1 hE rfl rfl rfl hb6) rfl rfl hE (v := (.pointer (some ⟨b27, b27o, none⟩))) (ex_index rfl hE rfl rfl b27r) ?_
                      intro a hE
                      refine q_val (wk1 hE rfl rfl rfl hb6) rfl rfl hE (v := (.int .i64 x6)) (ex_load rfl hE rfl (fun w hw => run_ld1 varty3 (b27f 0 _ rfl _ _ w (hw.get 3 rfl)))) ?_
                      intro a hE
                      refine q_val (wk1 hE rfl rfl rfl hb6) rfl rfl hE (v := (.bool (decide (x5 = x6)))) (ex_eql rfl hE rfl rfl) ?_
                      intro a hE
                      refine q_val (wk0 rfl) rfl rfl hE (v := (.bool (decide (x5 = x6)))) (ex_pick1 rfl hE rfl hb6 rfl) ?_
                      intro a hE
                      obtain rfl := Option.some.inj hg2
                      exact q_nil (hE.cut ⟨rfl, rfl, rfl, rfl, rfl, rfl, rfl, rfl, trivial⟩)
                    ·
                      replace hg2 := (ie hb6).symm.trans hg2
                      refine q_skip (wk2 hE rfl rfl rfl hb6) rfl rfl hE ?_
                      intro a hE
                      refine q_skip (wk2 hE rfl rfl rfl hb6) rfl rfl hE ?_
                      intro a hE
                      refine q_skip (wk2 hE rfl rfl rfl hb6) rfl rfl hE ?_
                      intro a hE
                      refine q_skip (wk2 hE rfl rfl rfl hb6) rfl rfl hE ?_
                      intro a hE
                      refine q_skip (wk2 hE rfl rfl rfl hb6) rfl rfl hE ?_
                      intro a hE
                      refine q_skip (wk2 hE rfl rfl rfl hb6) rfl rfl hE ?_
                      intro a hE
                      refine q_skip (wk2 hE rfl rfl rfl hb6) rfl rfl hE ?_
                      intro a hE
                      refine q_skip (wk2 hE rfl rfl rfl hb6) rfl rfl hE ?_
                      intro a hE
                      refine q_skip (wk2 hE rfl rfl rfl hb6) rfl rfl hE ?_
                      intro a hE
                      refine q_skip (wk2 hE rfl rfl rfl hb6) rfl rfl hE ?_
                      intro a hE
                      refine q_skip (wk2 hE rfl rfl rfl hb6) rfl rfl hE ?_
                      intro a hE
                      refine q_val (wk0 rfl) rfl rfl hE (v := (.bool false)) (ex_pick0 rfl hE rfl hb6 rfl) ?_
                      intro a hE
                      obtain rfl := Option.some.inj hg2
                      exact q_nil (hE.cut ⟨rfl, rfl, rfl, rfl, rfl, rfl, rfl, rfl, trivial⟩)
                  · intro a hE
                    refine q_val (wk0 rfl) rfl rfl hE (v := (.bool m2)) (ex_move rfl hE rfl) ?_
                    intro a hE
                    obtain ⟨m3, hg3, hl2⟩ := bnd hl2
                    refine q_cut [_, _, _, _, _, _, _, _, _, _, _, _] (fun a => Env 85 [(70, (.bool m3)), (5, (.pointer (some ⟨y11, 0, none⟩))), (6, (.pointer (some ⟨y12, 0, none⟩))), (7, w13), (8, (.int .i64 lp2_0)), (9, (.int .i64 lp1_1)), (10, (.bool lp2_1)), (11, (.int .i64 lp2_2))] a) ?_ ?_
                    · rcases Bool.eq_false_or_eq_true m2 with hb7 | hb7
                      ·
                        replace hg3 := (it hb7).symm.trans hg3
                        refine q_val (wk1 hE rfl rfl rfl hb7) rfl rfl hE (v := (.pointer (some ⟨y11, 1, none⟩))) (ex_field rfl hE rfl (fldty60_1 _ _)) ?_
                        intro a hE
                        refine q_val (wk1 hE rfl rfl rfl hb7) rfl rfl hE (v := y4) (ex_load rfl hE rfl (fun w hw => run_ld1 varty58 (Hp.c 2 rfl 1 rfl w hw))) ?_
                        intro a hE
                        refine q_val (wk1 hE rfl rfl rfl hb7) rfl rfl hE (v := (.int .i64 lp1_1)) (ex_move rfl hE rfl) ?_
                        intro a hE
                        obtain ⟨x7, ex7, hg3⟩ := bnd hg3
                        obtain ⟨b28, b28o, b28r, b28v, b28f⟩ := OwnSl.at hp 8 rfl slty58 ex7
                        have b28f : ∀ (j : Nat) (u : Value), ([(.string x7)] : List Value)[j]? = some u → ∀ ρ' L' w, Hp Z ρ' (OwnSl 9 y4 x1.texts :: L') w → w.cell? ⟨b28, b28o + j, none⟩ = some u := b28f
                        refine q_val (wk1 hE rfl rfl rfl hb7) rfl rfl hE (v := (.pointer (some ⟨b28, b28o, none⟩))) (ex_index rfl hE rfl rfl b28r) ?_
                        intro a hE
                        refine q_val (wk1 hE rfl rfl rfl hb7) rfl rfl hE (v := (.string x7)) (ex_load rfl hE rfl (fun w hw => run_ld1 varty9 (b28f 0 _ rfl _ _ w (hw.get 8 rfl)))) ?_
                        intro a hE
                        refine q_val (wk1 hE rfl rfl rfl hb7) rfl rfl hE (v := (.pointer (some ⟨y12, 1, none⟩))) (ex_field rfl hE rfl (fldty60_1 _ _)) ?_
                        intro a hE
                        refine q_val (wk1 hE rfl rfl rfl hb7) rfl rfl hE (v := y8) (ex_load rfl hE rfl (fun w hw => run_ld1 varty58 (Hp.c 1 rfl 1 rfl w hw))) ?_
                        intro a hE
                        refine q_val (wk1 hE rfl rfl rfl hb7) rfl rfl hE (v := (.int .i64 lp2_2)) (ex_move rfl hE rfl) ?_
                        intro a hE
                        obtain ⟨x8, ex8, hg3⟩ := bnd hg3
                        obtain ⟨b29, b29o, b29r, b29v, b29f⟩ := OwnSl.at hp 4 rfl slty58 ex8
                        have b29f : ∀ (j : Nat) (u : Value), ([(.string x8)] : List Value)[j]? = some u → ∀ ρ' L' w, Hp Z ρ' (OwnSl 9 y8 x2.texts :: L') w → w.cell? ⟨b29, b29o + j, none⟩ = some u := b29f
                        refine q_val (wk1 hE rfl rfl rfl hb7) rfl rfl hE (v := (.pointer (some ⟨b29, b29o, none⟩))) (ex_index rfl hE rfl rfl b29r) ?_
                        intro a hE
                        refine q_val (wk1 hE rfl rfl rfl hb7) rfl rfl hE (v := (.string x8)) (ex_load rfl hE rfl (fun w hw => run_ld1 varty9 (b29f 0 _ rfl _ _ w (hw.get 4 rfl)))) ?_
                        intro a hE
                        refine q_val (wk1 hE rfl rfl rfl hb7) rfl rfl hE (v := (.bool (decide (x7 = x8)))) (ex_seql rfl hE rfl rfl) ?_
                        intro a hE
                        refine q_val (wk0 rfl) rfl rfl hE (v := (.bool (decide (x7 = x8)))) (ex_pick1 rfl hE rfl hb7 rfl) ?_
                        intro a hE
                        obtain rfl := Option.some.inj hg3
                        exact q_nil (hE.cut ⟨rfl, rfl, rfl, rfl, rfl, rfl, rfl, rfl, trivial⟩)
                      ·
                        replace hg3 := (ie hb7).symm.trans hg3
                        refine q_skip (wk2 hE rfl rfl rfl hb7) rfl rfl hE ?_
                        intro a hE
                        refine q_skip (wk2 hE rfl rfl rfl hb7) rfl rfl hE ?_
                        intro a hE
                        refine q_skip (wk2 hE rfl rfl rfl hb7) rfl rfl hE ?_
                        intro a hE
                        refine q_skip (wk2 hE rfl rfl rfl hb7) rfl rfl hE ?_
                        intro a hE
                        refine q_skip (wk2 hE rfl rfl rfl hb7) rfl rfl hE ?_
                        intro a hE
                        refine q_skip (wk2 hE rfl rfl rfl hb7) rfl rfl hE ?_
                        intro a hE
                        refine q_skip (wk2 hE rfl rfl rfl hb7) rfl rfl hE ?_
                        intro a hE
                        refine q_skip (wk2 hE rfl rfl rfl hb7) rfl rfl hE ?_
                        intro a hE
                        refine q_skip (wk2 hE rfl rfl rfl hb7) rfl rfl hE ?_
                        intro a hE
                        refine q_skip (wk2 hE rfl rfl rfl hb7) rfl rfl hE ?_
                        intro a hE
                        refine q_skip (wk2 hE rfl rfl rfl hb7) rfl rfl hE ?_
                        intro a hE
                        refine q_val (wk0 rfl) rfl rfl hE (v := (.bool false)) (ex_pick0 rfl hE rfl hb7 rfl) ?_
                        intro a hE
                        obtain rfl := Option.some.inj hg3
                        exact q_nil (hE.cut ⟨rfl, rfl, rfl, rfl, rfl, rfl, rfl, rfl, trivial⟩)
                    · intro a hE
                      refine q_nil fun w hp => ?_
                      have hp : Hp Z ρ (_ :: _ :: _ :: _ :: _ :: _ :: _ :: _ :: _ :: _ :: _ :: _ :: _ :: L) w := hp
                      refine k_if hE rfl (fun hb8 => ?_) (fun hb8 => ?_)
                      · replace hl2 := (it hb8).symm.trans hl2
                        refine k_seq ?_
                        refine k_region ?_
                        refine s_val (wk0 rfl) rfl rfl hE hp (v := w13) (ex_move rfl hE rfl) ?_
                        intro a hE
                        refine s_val (wk0 rfl) rfl rfl hE hp (v := (.int .i64 lp2_2)) (ex_move rfl hE rfl) ?_
                        intro a hE
                        obtain ⟨x9, ex9, hl2⟩ := bnd hl2
                        obtain ⟨b30, b30o, b30r, b30v, b30f⟩ := OwnSl.at hp 0 rfl slty71 ex9
                        have b30f : ∀ (j : Nat) (u : Value), ([(.bool x9)] : List Value)[j]? = some u → ∀ ρ' L' w, Hp Z ρ' (OwnSl 4 w13 lp2_3 :: L') w → w.cell? ⟨b30, b30o + j, none⟩ = some u := b30f
                        refine s_val (wk0 rfl) rfl rfl hE hp (v := (.pointer (some ⟨b30, b30o, none⟩))) (ex_index rfl hE rfl rfl b30r) ?_
                        intro a hE
                        refine s_stel (wk0 rfl) rfl hE hp rfl rfl rfl 0 rfl ex9 b30v 0 (e' := true) varty4.size_ rfl rfl rfl ⟨rfl, rfl⟩ ?_
                        intro w hp
                        have hp : Hp Z ρ (OwnSl 4 w13 (lp2_3.set lp2_2.toNat true) :: _ :: _ :: _ :: _ :: _ :: _ :: _ :: _ :: _ :: _ :: _ :: _ :: L) w := hp
                        refine s_val (wk0 rfl) rfl rfl hE hp (v := (.bool true)) (ex_asn rfl hE rfl) ?_
                        intro a hE
                        refine s_nil ?_
                        refine k_region ?_
                        refine s_val (wk0 rfl) rfl rfl hE hp (v := (.int .i64 lp2_0)) (ex_move rfl hE rfl) ?_
                        intro a hE
                        obtain ⟨x10, ex10, hl2⟩ := bnd hl2
                        refine s_val (wk0 rfl) rfl rfl hE hp (v := (.int .i64 x10)) (ex_add rfl hE rfl rfl (inK_some ex10)) ?_
                        intro a hE
                        refine s_val (wk0 rfl) rfl rfl hE hp (v := (.int .i64 x10)) (ex_asn rfl hE rfl) ?_
                        intro a hE
                        refine s_nil ?_
                        refine k_region ?_
                        refine s_val (wk0 rfl) rfl rfl hE hp (v := (.int .i64 lp2_2)) (ex_move rfl hE rfl) ?_
                        intro a hE
                        obtain ⟨x11, ex11, hl2⟩ := bnd hl2
                        refine s_val (wk0 rfl) rfl rfl hE hp (v := (.int .i64 x11)) (ex_add rfl hE rfl rfl (inK_some ex11)) ?_
                        intro a hE
                        refine s_val (wk0 rfl) rfl rfl hE hp (v := (.int .i64 x11)) (ex_asn rfl hE rfl) ?_
                        intro a hE
                        refine s_nil ?_
                        exact ⟨_, (Option.some.inj hl2).symm, _, hE.cut ⟨rfl, rfl, rfl, rfl, rfl, rfl, rfl, trivial⟩, hp⟩
                      · replace hl2 := (ie hb8).symm.trans hl2
                        refine k_skip ?_
                        refine k_region ?_
                        refine s_val (wk0 rfl) rfl rfl hE hp (v := (.int .i64 lp2_2)) (ex_move rfl hE rfl) ?_
                        intro a hE
                        obtain ⟨x12, ex12, hl2⟩ := bnd hl2
                        refine s_val (wk0 rfl) rfl rfl hE hp (v := (.int .i64 x12)) (ex_add rfl hE rfl rfl (inK_some ex12)) ?_
                        intro a hE
                        refine s_val (wk0 rfl) rfl rfl hE hp (v := (.int .i64 x12)) (ex_asn rfl hE rfl) ?_
                        intro a hE
                        refine s_nil ?_
                        exact ⟨_, (Option.some.inj hl2).symm, _, hE.cut ⟨rfl, rfl, rfl, rfl, rfl, rfl, rfl, trivial⟩, hp⟩
              · replace hl2 := (ie hb4).symm.trans hl2
                refine k_exit ?_
                refine ⟨_, (Option.some.inj hl2).symm, fun hbb => ?_⟩
                subst hbb
                exact ⟨_, hE.cut ⟨rfl, rfl, rfl, rfl, rfl, trivial⟩, hp⟩
          · rintro a w ⟨w13, hE, hp⟩
            refine k_region ?_
            refine s_val (wk0 rfl) rfl rfl hE hp (v := (.int .i64 lp1_1)) (ex_move rfl hE rfl) ?_
            intro a hE
            obtain ⟨x13, ex13, hl1⟩ := bnd hl1
            refine s_val (wk0 rfl) rfl rfl hE hp (v := (.int .i64 x13)) (ex_add rfl hE rfl rfl (inK_some ex13)) ?_
            intro a hE
            refine s_val (wk0 rfl) rfl rfl hE hp (v := (.int .i64 x13)) (ex_asn rfl hE rfl) ?_
            intro a hE
            refine s_nil ?_
            exact ⟨_, (Option.some.inj hl1).symm, _, hE.cut ⟨rfl, rfl, rfl, rfl, rfl, trivial⟩, hp⟩
        · replace hl1 := (ie hb2).symm.trans hl1
          refine k_exit ?_
          refine ⟨_, (Option.some.inj hl1).symm, fun hbb => ?_⟩
          subst hbb
          exact ⟨_, hE.cut ⟨rfl, rfl, rfl, trivial⟩, hp⟩
    · rintro a w ⟨w13, hE, hp⟩
      refine k_seq ?_
      refine k_region ?_
      refine s_val (wk0 rfl) rfl rfl hE hp (v := (.pointer (some ⟨y11, 0, none⟩))) (ex_field rfl hE rfl (fldty60_0 _ _)) ?_
      intro a hE
      refine s_val (wk0 rfl) rfl rfl hE hp (v := y3) (ex_load rfl hE rfl (fun w hw => run_ld1 varty34 (Hp.c 2 rfl 0 rfl w hw))) ?_
      intro a hE
      refine s_val (wk0 rfl) rfl rfl hE hp (v := (.int .i64 (x1.kinds.length : Int))) (ex_len rfl hE rfl (OwnSl.len hp 7 rfl slty34)) ?_
      intro a hE
      refine s_val (wk0 rfl) rfl rfl hE hp (v := (.pointer (some ⟨y12, 0, none⟩))) (ex_field rfl hE rfl (fldty60_0 _ _)) ?_
      intro a hE
      refine s_val (wk0 rfl) rfl rfl hE hp (v := y7) (ex_load rfl hE rfl (fun w hw => run_ld1 varty34 (Hp.c 1 rfl 0 rfl w hw))) ?_
      intro a hE
      refine s_val (wk0 rfl) rfl rfl hE hp (v := (.int .i64 (x2.kinds.length : Int))) (ex_len rfl hE rfl (OwnSl.len hp 3 rfl slty34)) ?_
      intro a hE
      refine s_val (wk0 rfl) rfl rfl hE hp (v := (.int .i64 (max (x1.kinds.length : Int) (x2.kinds.length : Int)))) (ex_max rfl hE rfl rfl) ?_
      intro a hE
      refine s_val (wk0 rfl) rfl rfl hE hp (v := (.int .i64 b23.1)) (ex_move rfl hE rfl) ?_
      intro a hE
      obtain ⟨x14, ex14, hm⟩ := bnd hm
      refine s_val (wk0 rfl) rfl rfl hE hp (v := (.int .i64 x14)) (ex_sub rfl hE rfl rfl (inK_some ex14)) ?_
      intro a hE
      refine s_val (wk0 rfl) rfl rfl hE hp (v := (.int .i64 x14)) (ex_asn rfl hE rfl) ?_
      intro a hE
      refine s_nil ?_
      have hE := hE.cut (E' := [(4, (.int .i64 x14))]) ⟨rfl, trivial⟩
      refine k_ret ?_
      obtain rfl := Option.some.inj hm
      exact ret1 hE rfl rfl ⟨_, rfl, rfl, (((((((((((((((((((((((((hp.get 12 rfl).drop).get 11 rfl).drop).get 10 rfl).drop).get 9 rfl).drop).get 8 rfl).drop).get 7 rfl).drop).get 6 rfl).drop).get 5 rfl).drop).get 4 rfl).drop).get 3 rfl).drop).get 2 rfl).drop).get 1 rfl).drop).drop)⟩
end Go.Proofs.Ytnnccbagbgndpaa

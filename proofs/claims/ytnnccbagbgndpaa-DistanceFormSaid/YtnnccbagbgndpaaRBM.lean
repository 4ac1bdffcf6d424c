/-
  Models of: assessor/assessorref37.Subtrees, assessor/assessorref37.Bound. (Printed by wip/sp/gen.py.)
-/
import Derived.Test.YtnnccbagbgndpaaRRM
set_option linter.unusedVariables false
set_option linter.unusedSimpArgs false
namespace Go.Proofs.Ytnnccbagbgndpaa
open Go.RowKit
noncomputable def m_assessorref37_Subtrees_lp2 (x1 : RFlat) (x2 : RFlat) (lp1_0 : Int) (lp2_0 : Int) (lp2_1 : (List (List Int))) : Option (Step (Int × (List (List Int))) (List (List Int))) :=
  if (decide (lp2_0 < (x2.kinds.length : Int))) = true then
    (m_assessorref37_forests x1 x2 lp1_0 lp2_0 lp2_1).bind fun x4 =>
    (inK .i64 (lp2_0 + 1)).bind fun x5 =>
    some (.next (x5, x4))
  else
    some (.done lp2_1)
noncomputable def m_assessorref37_Subtrees_lp1 (x1 : RFlat) (x2 : RFlat) (lp1_0 : Int) (lp1_1 : (List (List Int))) : Option (Step (Int × (List (List Int))) (List (List Int))) :=
  if (decide (lp1_0 < (x1.kinds.length : Int))) = true then
    (loopM (fun s => m_assessorref37_Subtrees_lp2 x1 x2 lp1_0 s.1 s.2) (0, lp1_1) : Option (List (List Int))).bind fun b24 =>
    (inK .i64 (lp1_0 + 1)).bind fun x6 =>
    some (.next (x6, b24))
  else
    some (.done lp1_1)
noncomputable def m_assessorref37_Subtrees_lp4 (x1 : RFlat) (x2 : RFlat) (b23 : (List (List Int))) (lp3_0 : Int) (lp4_0 : Int) (lp4_1 : (List (List Int))) : Option (Step (Int × (List (List Int))) (List (List Int))) :=
  if (decide (lp4_0 < (x2.kinds.length : Int))) = true then
    (idx x1.numbers lp3_0).bind fun x8 =>
    (idx lp4_1 x8).bind fun x9 =>
    (idx x2.numbers lp4_0).bind fun x10 =>
    (idx b23 lp3_0).bind fun x11 =>
    (idx x11 lp4_0).bind fun x12 =>
    (idx x9 x10).bind fun x13 =>
    (inK .i64 (lp4_0 + 1)).bind fun x14 =>
    some (.next (x14, lp4_1.set x8.toNat (x9.set x10.toNat x12)))
  else
    some (.done lp4_1)
noncomputable def m_assessorref37_Subtrees_lp3 (x1 : RFlat) (x2 : RFlat) (b23 : (List (List Int))) (lp3_0 : Int) (lp3_1 : (List (List Int))) : Option (Step (Int × (List (List Int))) (List (List Int))) :=
  if (decide (lp3_0 < (x1.kinds.length : Int))) = true then
    (loopM (fun s => m_assessorref37_Subtrees_lp4 x1 x2 b23 lp3_0 s.1 s.2) (0, lp3_1) : Option (List (List Int))).bind fun b26 =>
    (inK .i64 (lp3_0 + 1)).bind fun x15 =>
    some (.next (x15, b26))
  else
    some (.done lp3_1)
noncomputable def m_assessorref37_Subtrees (p0 : Node) (p1 : Node) : Option (List (List Int)) :=
  (m_assessorref37_flat (RFlat.mk ([]) ([]) ([]) ([])) p0 0).bind fun x1 =>
  (m_assessorref37_flat (RFlat.mk ([]) ([]) ([]) ([])) p1 0).bind fun x2 =>
  (m_assessorref37_table (x1.kinds.length : Int) (x2.kinds.length : Int)).bind fun x3 =>
  (loopM (fun s => m_assessorref37_Subtrees_lp1 x1 x2 s.1 s.2) (0, x3) : Option (List (List Int))).bind fun b23 =>
  (m_assessorref37_table (x1.kinds.length : Int) (x2.kinds.length : Int)).bind fun x7 =>
  (loopM (fun s => m_assessorref37_Subtrees_lp3 x1 x2 b23 s.1 s.2) (0, x7) : Option (List (List Int))).bind fun b25 =>
  some b25
noncomputable def m_assessorref37_Bound_lp2 (x1 : RFlat) (x2 : RFlat) (lp1_1 : Int) (lp2_0 : Int) (lp2_1 : Bool) (lp2_2 : Int) (lp2_3 : (List Bool)) : Option (Step (Int × Bool × Int × (List Bool)) (Int × (List Bool))) :=
  if (decide (lp2_2 < (x2.kinds.length : Int))) = true then
    ((if (!lp2_1) = true then
      (idx lp2_3 lp2_2).bind fun x4 =>
      some (!x4)
    else
      some false) : Option Bool).bind fun m1 =>
    ((if m1 = true then
      (idx x1.kinds lp1_1).bind fun x5 =>
      (idx x2.kinds lp2_2).bind fun x6 =>
      some (decide (x5 = x6))
    else
      some false) : Option Bool).bind fun m2 =>
    ((if m2 = true then
      (idx x1.texts lp1_1).bind fun x7 =>
      (idx x2.texts lp2_2).bind fun x8 =>
      some (decide (x7 = x8))
    else
      some false) : Option Bool).bind fun m3 =>
    if m3 = true then
      (idx lp2_3 lp2_2).bind fun x9 =>
      (inK .i64 (lp2_0 + 1)).bind fun x10 =>
      (inK .i64 (lp2_2 + 1)).bind fun x11 =>
      some (.next (x10, true, x11, lp2_3.set lp2_2.toNat true))
    else
      (inK .i64 (lp2_2 + 1)).bind fun x12 =>
      some (.next (lp2_0, lp2_1, x12, lp2_3))
  else
    some (.done (lp2_0, lp2_3))
noncomputable def m_assessorref37_Bound_lp1 (x1 : RFlat) (x2 : RFlat) (lp1_0 : Int) (lp1_1 : Int) (lp1_2 : (List Bool)) : Option (Step (Int × Int × (List Bool)) (Int × (List Bool))) :=
  if (decide (lp1_1 < (x1.kinds.length : Int))) = true then
    (loopM (fun s => m_assessorref37_Bound_lp2 x1 x2 lp1_1 s.1 s.2.1 s.2.2.1 s.2.2.2) (lp1_0, false, 0, lp1_2) : Option (Int × (List Bool))).bind fun b24 =>
    (inK .i64 (lp1_1 + 1)).bind fun x13 =>
    some (.next (b24.1, x13, b24.2))
  else
    some (.done (lp1_0, lp1_2))
noncomputable def m_assessorref37_Bound (p0 : Node) (p1 : Node) : Option Int :=
  (m_assessorref37_flat (RFlat.mk ([]) ([]) ([]) ([])) p0 0).bind fun x1 =>
  (m_assessorref37_flat (RFlat.mk ([]) ([]) ([]) ([])) p1 0).bind fun x2 =>
  (mkc (x2.kinds.length : Int) (x2.kinds.length : Int) (false : Bool)).bind fun x3 =>
  (loopM (fun s => m_assessorref37_Bound_lp1 x1 x2 s.1 s.2.1 s.2.2) (0, 0, x3) : Option (Int × (List Bool))).bind fun b23 =>
  (inK .i64 ((max (x1.kinds.length : Int) (x2.kinds.length : Int)) - b23.1)).bind fun x14 =>
  some x14
end Go.Proofs.Ytnnccbagbgndpaa

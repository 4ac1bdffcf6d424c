/-
  Models of: assessor/assessorlaw37.replace, assessor/assessorlaw37.DistanceReplaces. (Printed by wip/sp/gen.py.)
-/
import Derived.Test.YtnnccbagbgndpaaWM
set_option linter.unusedVariables false
set_option linter.unusedSimpArgs false
namespace Go.Proofs.Ytnnccbagbgndpaa
open Go.RowKit
noncomputable def m_assessorlaw37_replace_body_lp1 (p2 : Node) (self : Node → Int → Node → Option (Node × Node)) (x2 : List Node) (lp1_0 : Int) (lp1_1 : Int) (lp1_2 : Int) (lp1_3 : ByteArray) (lp1_4 : Int) (lp1_5 : Int) (lp1_6 : (List Node)) (lp1_7 : (List Node)) : Option (Step (Int × Int × Int × ByteArray × Int × Int × (List Node) × (List Node)) (Int × ByteArray × Int × Int × (List Node) × (List Node))) :=
  if (decide (lp1_1 < (x2.length : Int))) = true then
    (idx lp1_7 lp1_1).bind fun x3 =>
    (m_assessorref37_Count x3).bind fun x4 =>
    if (decide (lp1_0 < x4)) = true then
      (self x3 lp1_0 p2).bind fun x5 =>
      (idx lp1_7 lp1_1).bind fun x6 =>
      some (.done (x5.2.kind, x5.2.text, x5.2.at_, x5.2.fin, x5.2.kids, lp1_7.set lp1_1.toNat x5.1))
    else
      (inK .i64 (lp1_0 - x4)).bind fun x7 =>
      (inK .i64 (lp1_1 + 1)).bind fun x8 =>
      some (.next (x7, x8, lp1_2, lp1_3, lp1_4, lp1_5, lp1_6, lp1_7))
  else
    some (.done (lp1_2, lp1_3, lp1_4, lp1_5, lp1_6, lp1_7))
noncomputable def m_assessorlaw37_replace_body (self : Node → Int → Node → Option (Node × Node)) (p0 : Node) (p1 : Int) (p2 : Node) : Option (Node × Node) :=
  if (decide (p1 = 0)) = true then
    some (p2, p0)
  else
    (inK .i64 (p1 - 1)).bind fun x1 =>
    (app ([] : List Node) p0.kids).bind fun x2 =>
    (loopM (fun s => m_assessorlaw37_replace_body_lp1 p2 self x2 s.1 s.2.1 s.2.2.1 s.2.2.2.1 s.2.2.2.2.1 s.2.2.2.2.2.1 s.2.2.2.2.2.2.1 s.2.2.2.2.2.2.2) (x1, 0, p0.kind, p0.text, p0.at_, p0.fin, p0.kids, x2) : Option (Int × ByteArray × Int × Int × (List Node) × (List Node))).bind fun b7 =>
    some ((Node.mk p0.kind p0.text p0.at_ p0.fin b7.2.2.2.2.2), (Node.mk b7.1 b7.2.1 b7.2.2.1 b7.2.2.2.1 b7.2.2.2.2.1))
noncomputable def m_assessorlaw37_replace_r : Nat → Node → Int → Node → Option (Node × Node)
  | 0 => fun _ _ _ => none
  | n + 1 => m_assessorlaw37_replace_body (m_assessorlaw37_replace_r n)
noncomputable def m_assessorlaw37_replace (p0 : Node) (p1 : Int) (p2 : Node) : Option (Node × Node) := m_assessorlaw37_replace_r (SizeOf.sizeOf p0 + 1) p0 p1 p2
noncomputable def m_assessorlaw37_DistanceReplaces (p0 : Node) (p1 : Node) (p2 : Node) (p3 : Int) : Option Bool :=
  (m_assessorlaw37_awake ).bind fun x1 =>
  if (!x1) = true then
    some false
  else
    (m_assessorlaw37_few p0 p1 15).bind fun x2 =>
    ((if (!x2) = true then
      some true
    else
      (m_assessorlaw37_few p2 p2 15).bind fun x3 =>
      some (!x3)) : Option Bool).bind fun m1 =>
    if m1 = true then
      some true
    else
      (inK .i64 p3).bind fun x4 =>
      (m_assessorref37_Count p0).bind fun x5 =>
      (remK x4 x5).bind fun x6 =>
      (m_assessorlaw37_replace p0 x6 p2).bind fun x7 =>
      (m_distance_Distance p0 p1).bind fun x8 =>
      (m_distance_Distance x7.1 p1).bind fun x9 =>
      (m_distance_Distance x7.2 p2).bind fun x10 =>
      (m_distance_Distance p0 x7.1).bind fun x11 =>
      (m_distance_Subtrees x7.2 p2).bind fun x12 =>
      ((if (((((decide (x8.2 = 0)) && (decide (x9.2 = 0))) && (decide (x10.2 = 0))) && (decide (x11.2 = 0))) && (decide (x12.2 = 0))) = true then
        (inK .i64 (x8.1 - x9.1)).bind fun x13 =>
        some (decide (x13 ≤ x10.1))
      else
        some false) : Option Bool).bind fun m2 =>
      ((if m2 = true then
        (inK .i64 (x9.1 - x8.1)).bind fun x14 =>
        some (decide (x14 ≤ x10.1))
      else
        some false) : Option Bool).bind fun m3 =>
      ((if ((m3 && (decide (x11.1 ≤ x10.1))) && (decide (0 < (x12.1.length : Int)))) = true then
        (idx x12.1 0).bind fun x15 =>
        some (decide (0 < (x15.length : Int)))
      else
        some false) : Option Bool).bind fun m4 =>
      ((if m4 = true then
        (idx x12.1 0).bind fun x16 =>
        (idx x16 0).bind fun x17 =>
        some (decide (x17 = x10.1))
      else
        some false) : Option Bool).bind fun m5 =>
      some m5
end Go.Proofs.Ytnnccbagbgndpaa

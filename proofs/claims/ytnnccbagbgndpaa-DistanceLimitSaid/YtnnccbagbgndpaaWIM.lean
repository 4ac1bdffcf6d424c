/-
  Models of: assessor/assessorlaw37.wide, assessor/assessorlaw37.DistanceLimit. (Printed by wip/sp/gen.py.)
-/
import Derived.Test.YtnnccbagbgndpaaWM
set_option linter.unusedVariables false
set_option linter.unusedSimpArgs false
namespace Go.Proofs.Ytnnccbagbgndpaa
open Go.RowKit
noncomputable def m_assessorlaw37_wide_lp1 (x1 : Int) (lp1_0 : Int) (lp1_1 : (List Node)) : Option (Step (Int × (List Node)) (List Node)) :=
  if (decide (lp1_0 < x1)) = true then
    (m_assessorlaw37_name (ByteArray.mk #[97])).bind fun x2 =>
    (app lp1_1 [x2]).bind fun x3 =>
    (inK .i64 (lp1_0 + 1)).bind fun x4 =>
    some (.next (x4, x3))
  else
    some (.done lp1_1)
noncomputable def m_assessorlaw37_wide (p0 : Int) : Option Node :=
  (inK .i64 (p0 - 1)).bind fun x1 =>
  (loopM (fun s => m_assessorlaw37_wide_lp1 x1 s.1 s.2) (0, []) : Option (List Node)).bind fun b3 =>
  some (Node.mk 11 ByteArray.empty 0 0 b3)
noncomputable def m_assessorlaw37_DistanceLimit (p0 : Node) (p1 : Int) (p2 : Bool) : Option Bool :=
  (m_assessorlaw37_awake ).bind fun x1 =>
  if (!x1) = true then
    some false
  else
    (m_assessorlaw37_few p0 p0 6).bind fun x2 =>
    if (!x2) = true then
      some true
    else
      (inK .i64 p1).bind fun x3 =>
      (quoK .i64 x3 16).bind fun x4 =>
      (inK .i64 (256 + x4)).bind fun x5 =>
      (m_assessorlaw37_wide x5).bind fun x6 =>
      ((if p2 = true then
        (m_assessorlaw37_wide x5).bind fun x7 =>
        some (x7.kind, x7.text, x7.at_, x7.fin, x7.kids, p0.kind, p0.text, p0.at_, p0.fin, p0.kids)
      else
        some (p0.kind, p0.text, p0.at_, p0.fin, p0.kids, x6.kind, x6.text, x6.at_, x6.fin, x6.kids)) : Option (Int × ByteArray × Int × Int × (List Node) × Int × ByteArray × Int × Int × (List Node))).bind fun j1 =>
      (m_distance_Distance (Node.mk j1.2.2.2.2.2.1 j1.2.2.2.2.2.2.1 j1.2.2.2.2.2.2.2.1 j1.2.2.2.2.2.2.2.2.1 j1.2.2.2.2.2.2.2.2.2) (Node.mk j1.1 j1.2.1 j1.2.2.1 j1.2.2.2.1 j1.2.2.2.2.1)).bind fun x8 =>
      (m_distance_Within (Node.mk j1.2.2.2.2.2.1 j1.2.2.2.2.2.2.1 j1.2.2.2.2.2.2.2.1 j1.2.2.2.2.2.2.2.2.1 j1.2.2.2.2.2.2.2.2.2) (Node.mk j1.1 j1.2.1 j1.2.2.1 j1.2.2.2.1 j1.2.2.2.2.1) 500).bind fun x9 =>
      (m_distance_Subtrees (Node.mk j1.2.2.2.2.2.1 j1.2.2.2.2.2.2.1 j1.2.2.2.2.2.2.2.1 j1.2.2.2.2.2.2.2.2.1 j1.2.2.2.2.2.2.2.2.2) (Node.mk j1.1 j1.2.1 j1.2.2.1 j1.2.2.2.1 j1.2.2.2.2.1)).bind fun x10 =>
      (m_distance_Matrix ([p0, (Node.mk j1.2.2.2.2.2.1 j1.2.2.2.2.2.2.1 j1.2.2.2.2.2.2.2.1 j1.2.2.2.2.2.2.2.2.1 j1.2.2.2.2.2.2.2.2.2)] : List Node)).bind fun x11 =>
      (m_distance_Nearest (Node.mk j1.2.2.2.2.2.1 j1.2.2.2.2.2.2.1 j1.2.2.2.2.2.2.2.1 j1.2.2.2.2.2.2.2.2.1 j1.2.2.2.2.2.2.2.2.2) ([(Node.mk j1.1 j1.2.1 j1.2.2.1 j1.2.2.2.1 j1.2.2.2.2.1)] : List Node)).bind fun x12 =>
      ((if (decide (256 < x5)) = true then
        some 8
      else
        some 0) : Option Int).bind fun j2 =>
      (m_assessorlaw37_wide x5).bind fun x13 =>
      (m_distance_Nearest x13 []).bind fun x14 =>
      if (((decide (x5 ≤ 256)) && (!decide (x14.2.2 = 7))) || ((decide (256 < x5)) && (!decide (x14.2.2 = 8)))) = true then
        some false
      else
        ((if (((((decide (x8.2 = j2)) && (decide (x9.2 = j2))) && (decide (x10.2 = j2))) && (decide (x12.2.2 = j2))) && (p2 || (decide (x11.2 = j2)))) = true then
          (m_distance_Bound (Node.mk j1.2.2.2.2.2.1 j1.2.2.2.2.2.2.1 j1.2.2.2.2.2.2.2.1 j1.2.2.2.2.2.2.2.2.1 j1.2.2.2.2.2.2.2.2.2) (Node.mk j1.1 j1.2.1 j1.2.2.1 j1.2.2.2.1 j1.2.2.2.2.1)).bind fun x15 =>
          (inK .i64 (x5 - 6)).bind fun x16 =>
          some (decide (x16 ≤ x15))
        else
          some false) : Option Bool).bind fun m1 =>
        some m1
end Go.Proofs.Ytnnccbagbgndpaa

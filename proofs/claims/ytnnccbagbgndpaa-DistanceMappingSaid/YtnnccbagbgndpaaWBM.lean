/-
  Models of: assessor/assessorlaw37.DistanceBounds. (Printed by wip/sp/gen.py.)
-/
import Derived.Test.YtnnccbagbgndpaaWM
set_option linter.unusedVariables false
set_option linter.unusedSimpArgs false
namespace Go.Proofs.Ytnnccbagbgndpaa
open Go.RowKit
noncomputable def m_assessorlaw37_DistanceBounds (p0 : Node) (p1 : Node) : Option Bool :=
  (m_assessorlaw37_awake ).bind fun x1 =>
  if (!x1) = true then
    some false
  else
    (m_assessorlaw37_few p0 p1 30).bind fun x2 =>
    if (!x2) = true then
      some true
    else
      (m_distance_Distance p0 p1).bind fun x3 =>
      (m_assessorref37_Count p0).bind fun x4 =>
      (m_assessorref37_Count p1).bind fun x5 =>
      (m_distance_Bound p0 p1).bind fun x6 =>
      ((if (decide (x3.2 = 0)) = true then
        (inK .i64 ((max x4 x5) - (min x4 x5))).bind fun x7 =>
        some (decide (x7 ≤ x6))
      else
        some false) : Option Bool).bind fun m1 =>
      ((if (m1 && (decide (x6 ≤ x3.1))) = true then
        (inK .i64 (x4 + x5)).bind fun x8 =>
        (inK .i64 (x8 - 1)).bind fun x9 =>
        some (decide (x3.1 ≤ x9))
      else
        some false) : Option Bool).bind fun m2 =>
      ((if m2 = true then
        (m_distance_Bound p0 p0).bind fun x10 =>
        some (decide (x10 = 0))
      else
        some false) : Option Bool).bind fun m3 =>
      ((if m3 = true then
        (m_distance_Bound p1 p0).bind fun x11 =>
        some (decide (x11 = x6))
      else
        some false) : Option Bool).bind fun m4 =>
      some m4
end Go.Proofs.Ytnnccbagbgndpaa

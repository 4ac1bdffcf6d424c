/-
  Models of: assessor/assessorlaw37.DistanceMetric. (Printed by wip/sp/gen.py.)
-/
import Derived.Test.YtnnccbagbgndpaaWM
set_option linter.unusedVariables false
set_option linter.unusedSimpArgs false
namespace Go.Proofs.Ytnnccbagbgndpaa
open Go.RowKit
noncomputable def m_assessorlaw37_DistanceMetric (p0 : Node) (p1 : Node) (p2 : Node) (p3 : Int) : Option Bool :=
  (m_assessorlaw37_awake ).bind fun x1 =>
  if (!x1) = true then
    some false
  else
    (m_assessorlaw37_few p0 p1 20).bind fun x2 =>
    ((if (!x2) = true then
      some true
    else
      (m_assessorlaw37_few p2 p2 20).bind fun x3 =>
      some (!x3)) : Option Bool).bind fun m1 =>
    if m1 = true then
      some true
    else
      (m_distance_Distance p0 p1).bind fun x4 =>
      (m_distance_Distance p1 p0).bind fun x5 =>
      (m_distance_Distance p1 p2).bind fun x6 =>
      (m_distance_Distance p0 p2).bind fun x7 =>
      (m_distance_Within p0 p1 p3).bind fun x8 =>
      ((if ((((((decide (x4.2 = 0)) && (decide (x5.2 = 0))) && (decide (x6.2 = 0))) && (decide (x7.2 = 0))) && (decide (x8.2 = 0))) && (decide (x4.1 = x5.1))) = true then
        (inK .i64 (x4.1 + x6.1)).bind fun x9 =>
        some (decide (x7.1 ≤ x9))
      else
        some false) : Option Bool).bind fun m2 =>
      ((if m2 = true then
        (m_assessorref37_Same p0 p1).bind fun x10 =>
        some ((decide (x4.1 = 0)) == x10)
      else
        some false) : Option Bool).bind fun m3 =>
      some (m3 && (x8.1 == (decide (x4.1 ≤ p3))))
end Go.Proofs.Ytnnccbagbgndpaa

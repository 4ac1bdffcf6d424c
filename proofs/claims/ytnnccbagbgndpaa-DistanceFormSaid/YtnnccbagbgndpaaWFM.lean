/-
  Models of: assessor/assessorlaw37.DistanceForm. (Printed by wip/sp/gen.py.)
-/
import Derived.Test.YtnnccbagbgndpaaWM
import Derived.Test.YtnnccbagbgndpaaRBM
set_option linter.unusedVariables false
set_option linter.unusedSimpArgs false
namespace Go.Proofs.Ytnnccbagbgndpaa
open Go.RowKit
noncomputable def m_assessorlaw37_DistanceForm_lp2 (x4 : ((List (List Int)) × Int)) (x5 : (List (List Int))) (lp1_0 : Int) (x12 : (List Int)) (lp2_0 : Int) : Option (Step Int (Out Unit Bool)) :=
  if (decide (lp2_0 < (x12.length : Int))) = true then
    (idx x4.1 lp1_0).bind fun x13 =>
    (idx x13 lp2_0).bind fun x14 =>
    (idx x5 lp1_0).bind fun x15 =>
    (idx x15 lp2_0).bind fun x16 =>
    if (!decide (x14 = x16)) = true then
      some (.done (.ret false))
    else
      (inK .i64 (lp2_0 + 1)).bind fun x17 =>
      some (.next x17)
  else
    some (.done (.brk ()))
noncomputable def m_assessorlaw37_DistanceForm_lp1 (x4 : ((List (List Int)) × Int)) (x5 : (List (List Int))) (lp1_0 : Int) : Option (Step Int (Out Unit Bool)) :=
  if (decide (lp1_0 < (x5.length : Int))) = true then
    (idx x4.1 lp1_0).bind fun x10 =>
    (idx x5 lp1_0).bind fun x11 =>
    if (!decide ((x10.length : Int) = (x11.length : Int))) = true then
      some (.done (.ret false))
    else
      (idx x5 lp1_0).bind fun x12 =>
      (loopM (fun s => m_assessorlaw37_DistanceForm_lp2 x4 x5 lp1_0 x12 s) 0 : Option (Out Unit Bool)).bind fun b9 =>
      match b9 with
      | .brk b9s =>
        (inK .i64 (lp1_0 + 1)).bind fun x18 =>
        some (.next x18)
      | .ret r => some (.done (.ret r))
  else
    some (.done (.brk ()))
noncomputable def m_assessorlaw37_DistanceForm (p0 : Node) (p1 : Node) : Option Bool :=
  (m_assessorlaw37_awake ).bind fun x1 =>
  if (!x1) = true then
    some false
  else
    (m_assessorlaw37_few p0 p1 20).bind fun x2 =>
    if (!x2) = true then
      some true
    else
      (m_distance_Distance p0 p1).bind fun x3 =>
      (m_distance_Subtrees p0 p1).bind fun x4 =>
      (m_assessorref37_Subtrees p0 p1).bind fun x5 =>
      ((if ((!decide (x3.2 = 0)) || (!decide (x4.2 = 0))) = true then
        some true
      else
        (idx x5 0).bind fun x6 =>
        (idx x6 0).bind fun x7 =>
        some (!decide (x3.1 = x7))) : Option Bool).bind fun m1 =>
      ((if m1 = true then
        some true
      else
        (m_distance_Bound p0 p1).bind fun x8 =>
        (m_assessorref37_Bound p0 p1).bind fun x9 =>
        some (!decide (x8 = x9))) : Option Bool).bind fun m2 =>
      if (m2 || (!decide ((x4.1.length : Int) = (x5.length : Int)))) = true then
        some false
      else
        (loopM (fun s => m_assessorlaw37_DistanceForm_lp1 x4 x5 s) 0 : Option (Out Unit Bool)).bind fun b5 =>
        match b5 with
        | .brk b5s =>
          some true
        | .ret r => some r
end Go.Proofs.Ytnnccbagbgndpaa

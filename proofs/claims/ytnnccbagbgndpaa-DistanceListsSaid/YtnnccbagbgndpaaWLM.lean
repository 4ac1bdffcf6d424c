/-
  Models of: assessor/assessorlaw37.DistanceLists. (Printed by wip/sp/gen.py.)
-/
import Derived.Test.YtnnccbagbgndpaaWM
set_option linter.unusedVariables false
set_option linter.unusedSimpArgs false
namespace Go.Proofs.Ytnnccbagbgndpaa
open Go.RowKit
noncomputable def m_assessorlaw37_DistanceLists_lp1 (p1 : (List Node)) (lp1_0 : Int) : Option (Step Int (Out Unit Bool)) :=
  if (decide (lp1_0 < (p1.length : Int))) = true then
    (idx p1 lp1_0).bind fun x3 =>
    (m_assessorlaw37_few x3 x3 12).bind fun x4 =>
    if (!x4) = true then
      some (.done (.ret true))
    else
      (inK .i64 (lp1_0 + 1)).bind fun x5 =>
      some (.next x5)
  else
    some (.done (.brk ()))
noncomputable def m_assessorlaw37_DistanceLists_lp3 (p1 : (List Node)) (x6 : ((List (List Int)) × Int)) (lp2_2 : Int) (x8 : Node) (lp3_0 : Int) : Option (Step Int (Out Unit Bool)) :=
  if (decide (lp3_0 < (p1.length : Int))) = true then
    (idx p1 lp3_0).bind fun x10 =>
    (m_distance_Distance x8 x10).bind fun x11 =>
    ((if (!decide (x11.2 = 0)) = true then
      some true
    else
      (idx x6.1 lp2_2).bind fun x12 =>
      (idx x12 lp3_0).bind fun x13 =>
      some (!decide (x13 = x11.1))) : Option Bool).bind fun m2 =>
    if m2 = true then
      some (.done (.ret false))
    else
      (inK .i64 (lp3_0 + 1)).bind fun x14 =>
      some (.next x14)
  else
    some (.done (.brk ()))
noncomputable def m_assessorlaw37_DistanceLists_lp2 (p0 : Node) (p1 : (List Node)) (x6 : ((List (List Int)) × Int)) (lp2_0 : Int) (lp2_1 : Int) (lp2_2 : Int) : Option (Step (Int × Int × Int) (Out (Int × Int) Bool)) :=
  if (decide (lp2_2 < (p1.length : Int))) = true then
    (idx p1 lp2_2).bind fun x8 =>
    (idx x6.1 lp2_2).bind fun x9 =>
    if (!decide ((x9.length : Int) = (p1.length : Int))) = true then
      some (.done (.ret false))
    else
      (loopM (fun s => m_assessorlaw37_DistanceLists_lp3 p1 x6 lp2_2 x8 s) 0 : Option (Out Unit Bool)).bind fun b9 =>
      match b9 with
      | .brk b9s =>
        (m_distance_Distance p0 x8).bind fun x15 =>
        if (((!decide (x15.2 = 0)) || (decide (lp2_0 < 0))) || (decide (x15.1 < lp2_0))) = true then
          (inK .i64 (lp2_2 + 1)).bind fun x16 =>
          some (.next (x15.1, lp2_2, x16))
        else
          (inK .i64 (lp2_2 + 1)).bind fun x17 =>
          some (.next (lp2_0, lp2_1, x17))
      | .ret r => some (.done (.ret r))
  else
    some (.done (.brk (lp2_0, lp2_1)))
noncomputable def m_assessorlaw37_DistanceLists (p0 : Node) (p1 : (List Node)) : Option Bool :=
  (m_assessorlaw37_awake ).bind fun x1 =>
  if (!x1) = true then
    some false
  else
    ((if (decide (5 < (p1.length : Int))) = true then
      some true
    else
      (m_assessorlaw37_few p0 p0 12).bind fun x2 =>
      some (!x2)) : Option Bool).bind fun m1 =>
    if m1 = true then
      some true
    else
      (loopM (fun s => m_assessorlaw37_DistanceLists_lp1 p1 s) 0 : Option (Out Unit Bool)).bind fun b2 =>
      match b2 with
      | .brk b2s =>
        (m_distance_Matrix p1).bind fun x6 =>
        (m_distance_Nearest p0 p1).bind fun x7 =>
        if (((!decide (x6.2 = 0)) || (!decide ((x6.1.length : Int) = (p1.length : Int)))) || (decide ((p1.length : Int) = 0))) = true then
          some ((((((decide (x6.2 = 0)) && (decide ((x6.1.length : Int) = 0))) && (decide ((p1.length : Int) = 0))) && (decide (x7.1 = 0))) && (decide (x7.2.1 = 0))) && (decide (x7.2.2 = 7)))
        else
          (loopM (fun s => m_assessorlaw37_DistanceLists_lp2 p0 p1 x6 s.1 s.2.1 s.2.2) ((-1), 0, 0) : Option (Out (Int × Int) Bool)).bind fun b5 =>
          match b5 with
          | .brk b5s =>
            some (((decide (x7.2.2 = 0)) && (decide (x7.1 = b5s.2))) && (decide (x7.2.1 = b5s.1)))
          | .ret r => some r
      | .ret r => some r
end Go.Proofs.Ytnnccbagbgndpaa

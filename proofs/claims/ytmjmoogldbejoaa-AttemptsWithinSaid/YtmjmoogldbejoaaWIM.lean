/-
  Models of: assessor/assessorlaw52.AttemptsWithin. (Printed by wip/sp/gen.py.)
-/
import Derived.Test.YtmjmoogldbejoaaWM
set_option linter.unusedVariables false
set_option linter.unusedSimpArgs false
namespace Go.Proofs.Ytmjmoogldbejoaa
open Go.RowKit
noncomputable def m_assessorlaw52_AttemptsWithin_lp1 (p1 : (List Att)) (lp1_0 : Int) (lp1_1 : Int) (lp1_2 : Int) : Option (Step (Int × Int × Int) (Int × Int)) :=
  if (decide (lp1_2 < (p1.length : Int))) = true then
    (idx p1 lp1_2).bind fun x7 =>
    (inK .i64 (lp1_2 + 1)).bind fun x8 =>
    some (.next (min lp1_0 x7.pts, max lp1_1 x7.pts, x8))
  else
    some (.done (lp1_0, lp1_1))
noncomputable def m_assessorlaw52_AttemptsWithin_lp2 (p1 : (List Att)) (x2 : (List Int)) (lp2_0 : Int) (lp2_1 : Int) (lp2_2 : Int) : Option (Step (Int × Int × Int) (Out (Int × Int) Bool)) :=
  if (decide (lp2_2 < (x2.length : Int))) = true then
    (idx x2 lp2_2).bind fun x9 =>
    ((if ((decide (x9 < 1)) || (decide ((p1.length : Int) < x9))) = true then
      some true
    else
      ((if (decide (0 < lp2_2)) = true then
        (inK .i64 (lp2_2 - 1)).bind fun x10 =>
        (idx x2 x10).bind fun x11 =>
        some (decide (x9 ≤ x11))
      else
        some false) : Option Bool).bind fun m2 =>
      some m2) : Option Bool).bind fun m1 =>
    if m1 = true then
      some (.done (.ret false))
    else
      (inK .i64 (x9 - 1)).bind fun x12 =>
      (idx p1 x12).bind fun x13 =>
      (inK .i64 (lp2_0 + x13.pts)).bind fun x14 =>
      (inK .i64 (x9 - 1)).bind fun x15 =>
      (idx p1 x15).bind fun x16 =>
      (inK .i64 (lp2_2 + 1)).bind fun x17 =>
      some (.next (x14, min lp2_1 x16.pts, x17))
  else
    some (.done (.brk (lp2_0, lp2_1)))
noncomputable def m_assessorlaw52_AttemptsWithin_lp3 (p0 : Rule) (p1 : (List Att)) (x2 : (List Int)) (b7s : (Int × Int)) (lp3_0 : Int) : Option (Step Int (Out Unit Bool)) :=
  if (decide (lp3_0 < (p1.length : Int))) = true then
    (idx p1 lp3_0).bind fun x18 =>
    ((if (!decide (p0.kind = 1)) = true then
      (inK .i64 (lp3_0 + 1)).bind fun x19 =>
      (m_containsI x2 x19).bind fun x20 =>
      some (!x20)
    else
      some false) : Option Bool).bind fun m3 =>
    if (m3 && (decide (b7s.2 < x18.pts))) = true then
      some (.done (.ret false))
    else
      (inK .i64 (lp3_0 + 1)).bind fun x21 =>
      some (.next x21)
  else
    some (.done (.brk ()))
noncomputable def m_assessorlaw52_AttemptsWithin (p0 : Rule) (p1 : (List Att)) : Option Bool :=
  (m_assessorlaw52_awake ).bind fun x1 =>
  if (!x1) = true then
    some false
  else
    if (decide (20 < (p1.length : Int))) = true then
      some true
    else
      (m_attempts_Counting p0 p1).bind fun x2 =>
      (m_attempts_Final p0 p1).bind fun x3 =>
      (m_attempts_Valid p0 p1).bind fun x4 =>
      if (!x4) = true then
        some (((decide (x3.2 = 1)) && (decide (x3.1 = 0))) && (decide ((x2.length : Int) = 0)))
      else
        if ((!decide (x3.2 = 0)) || (!decide ((x2.length : Int) = (min (p1.length : Int) (max p0.keep 1))))) = true then
          some false
        else
          if (decide ((x2.length : Int) = 0)) = true then
            some (decide (x3.1 = 0))
          else
            (idx p1 0).bind fun x5 =>
            (idx p1 0).bind fun x6 =>
            (loopM (fun s => m_assessorlaw52_AttemptsWithin_lp1 p1 s.1 s.2.1 s.2.2) (x5.pts, x6.pts, 0) : Option (Int × Int)).bind fun b4 =>
            (loopM (fun s => m_assessorlaw52_AttemptsWithin_lp2 p1 x2 s.1 s.2.1 s.2.2) (0, b4.2, 0) : Option (Out (Int × Int) Bool)).bind fun b7 =>
            match b7 with
            | .brk b7s =>
              (loopM (fun s => m_assessorlaw52_AttemptsWithin_lp3 p0 p1 x2 b7s s) 0 : Option (Out Unit Bool)).bind fun b12 =>
              match b12 with
              | .brk b12s =>
                (inK .i64 (x3.1 * (x2.length : Int))).bind fun x22 =>
                (inK .i64 (x22 - b7s.1)).bind fun x23 =>
                (inK .i64 (2 * x23)).bind fun x24 =>
                ((if ((decide (b4.1 ≤ x3.1)) && (decide (x3.1 ≤ b4.2))) = true then
                  (inK .i64 (0 - (x2.length : Int))).bind fun x25 =>
                  some (decide (x25 < x24))
                else
                  some false) : Option Bool).bind fun m4 =>
                some (m4 && (decide (x24 ≤ (x2.length : Int))))
              | .ret r => some r
            | .ret r => some r
end Go.Proofs.Ytmjmoogldbejoaa

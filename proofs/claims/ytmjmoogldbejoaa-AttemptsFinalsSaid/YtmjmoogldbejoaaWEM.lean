/-
  Models of: assessor/assessorlaw52.AttemptsEarliest. (Printed by wip/sp/gen.py.)
-/
import Derived.Test.YtmjmoogldbejoaaWM
set_option linter.unusedVariables false
set_option linter.unusedSimpArgs false
namespace Go.Proofs.Ytmjmoogldbejoaa
open Go.RowKit
noncomputable def m_assessorlaw52_AttemptsEarliest_lp1 (p0 : Rule) (lp1_0 : Bool) (lp1_1 : Int) (lp1_2 : (List Att)) : Option (Step (Bool × Int × (List Att)) (Out (Bool × (List Att)) Bool)) :=
  if (decide (lp1_1 < 17)) = true then
    (m_attempts_Earliest p0 lp1_2).bind fun x7 =>
    if (!x7.2) = true then
      some (.done (.brk (x7.2, lp1_2)))
    else
      (inK .i64 ((lp1_2.length : Int) + 1)).bind fun x8 =>
      (app lp1_2 [(Att.mk x8 x7.1 0)]).bind fun x9 =>
      (m_attempts_Valid p0 x9).bind fun x10 =>
      if (!x10) = true then
        some (.done (.ret false))
      else
        (inK .i64 (lp1_1 + 1)).bind fun x11 =>
        some (.next (x7.2, x11, x9))
  else
    some (.done (.brk (lp1_0, lp1_2)))
noncomputable def m_assessorlaw52_AttemptsEarliest (p0 : Rule) (p1 : (List Att)) (p2 : Int) : Option Bool :=
  (m_assessorlaw52_awake ).bind fun x1 =>
  if (!x1) = true then
    some false
  else
    ((if (decide (20 < (p1.length : Int))) = true then
      some true
    else
      (m_attempts_Valid p0 p1).bind fun x2 =>
      some (!x2)) : Option Bool).bind fun m1 =>
    if m1 = true then
      some true
    else
      (m_attempts_Earliest p0 p1).bind fun x3 =>
      (m_attempts_Allowed p0 p1 p2).bind fun x4 =>
      if (!x3.2) = true then
        some ((decide (x3.1 = 0)) && (!decide (x4 = 0)))
      else
        (m_attempts_Allowed p0 p1 x3.1).bind fun x5 =>
        if ((!decide (x5 = 0)) || (!(((decide (x3.1 ≤ p2)) && (decide (p2 ≤ 1099511627776))) == (decide (x4 = 0))))) = true then
          some false
        else
          (app [] p1).bind fun x6 =>
          (loopM (fun s => m_assessorlaw52_AttemptsEarliest_lp1 p0 s.1 s.2.1 s.2.2) (x3.2, 0, x6) : Option (Out (Bool × (List Att)) Bool)).bind fun b2 =>
          match b2 with
          | .brk b2s =>
            ((if (!b2s.1) = true then
              ((if (decide ((b2s.2.length : Int) = p0.most)) = true then
                some true
              else
                ((if (decide (0 < (b2s.2.length : Int))) = true then
                  (inK .i64 ((b2s.2.length : Int) - 1)).bind fun x12 =>
                  (idx b2s.2 x12).bind fun x13 =>
                  (inK .i64 (1099511627776 - p0.pause)).bind fun x14 =>
                  some (decide (x14 < x13.tick))
                else
                  some false) : Option Bool).bind fun m4 =>
                some m4) : Option Bool).bind fun m3 =>
              some m3
            else
              some false) : Option Bool).bind fun m2 =>
            some m2
          | .ret r => some r
end Go.Proofs.Ytmjmoogldbejoaa

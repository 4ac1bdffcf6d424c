/-
  Models of: assessor/assessorlaw52.AttemptsNeeded. (Printed by wip/sp/gen.py.)
-/
import Derived.Test.YtmjmoogldbejoaaWM
set_option linter.unusedVariables false
set_option linter.unusedSimpArgs false
namespace Go.Proofs.Ytmjmoogldbejoaa
open Go.RowKit
noncomputable def m_assessorlaw52_AttemptsNeeded (p0 : Rule) (p1 : (List Att)) (p2 : Int) : Option Bool :=
  (m_assessorlaw52_awake ).bind fun x1 =>
  if (!x1) = true then
    some false
  else
    if (decide (20 < (p1.length : Int))) = true then
      some true
    else
      (m_attempts_Needed p0 p1 p2).bind fun x2 =>
      (m_attempts_Valid p0 p1).bind fun x3 =>
      if ((!x3) || (decide ((p1.length : Int) = p0.most))) = true then
        some ((!x2.2) && (decide (x2.1 = 0)))
      else
        if (!x2.2) = true then
          (m_assessorlaw52_next p1 100000000).bind fun x4 =>
          (m_attempts_Final p0 x4).bind fun x5 =>
          some (((decide (x2.1 = 0)) && (decide (x5.2 = 0))) && (decide (x5.1 < p2)))
        else
          if ((decide (x2.1 < 0)) || (decide (100000000 < x2.1))) = true then
            some false
          else
            (m_assessorlaw52_next p1 x2.1).bind fun x6 =>
            (m_attempts_Final p0 x6).bind fun x7 =>
            if ((!decide (x7.2 = 0)) || (decide (x7.1 < p2))) = true then
              some false
            else
              (inK .i64 (x2.1 - 1)).bind fun x8 =>
              (m_assessorlaw52_next p1 x8).bind fun x9 =>
              (m_attempts_Final p0 x9).bind fun x10 =>
              some ((decide (x2.1 = 0)) || ((decide (x10.2 = 0)) && (decide (x10.1 < p2))))
end Go.Proofs.Ytmjmoogldbejoaa

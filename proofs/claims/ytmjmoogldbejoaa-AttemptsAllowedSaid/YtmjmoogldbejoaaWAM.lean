/-
  Models of: assessor/assessorlaw52.AttemptsAllowed. (Printed by wip/sp/gen.py.)
-/
import Derived.Test.YtmjmoogldbejoaaWM
set_option linter.unusedVariables false
set_option linter.unusedSimpArgs false
namespace Go.Proofs.Ytmjmoogldbejoaa
open Go.RowKit
noncomputable def m_assessorlaw52_AttemptsAllowed (p0 : Rule) (p1 : (List Att)) (p2 : Int) : Option Bool :=
  (m_assessorlaw52_awake ).bind fun x1 =>
  if (!x1) = true then
    some false
  else
    if (decide (20 < (p1.length : Int))) = true then
      some true
    else
      (m_attempts_Earliest p0 p1).bind fun x2 =>
      (m_assessorref52_Earliest p0 p1).bind fun x3 =>
      (m_attempts_Valid p0 p1).bind fun x4 =>
      (m_assessorref52_Valid p0 p1).bind fun x5 =>
      ((if (x4 == x5) = true then
        (m_attempts_Allowed p0 p1 p2).bind fun x6 =>
        (m_assessorref52_Allowed p0 p1 p2).bind fun x7 =>
        some (decide (x6 = x7))
      else
        some false) : Option Bool).bind fun m1 =>
      some ((m1 && (decide (x2.1 = x3.1))) && (x2.2 == x3.2))
end Go.Proofs.Ytmjmoogldbejoaa

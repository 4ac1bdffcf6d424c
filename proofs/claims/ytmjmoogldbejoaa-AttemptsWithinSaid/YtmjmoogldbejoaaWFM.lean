/-
  Models of: assessor/assessorlaw52.AttemptsFinals. (Printed by wip/sp/gen.py.)
-/
import Derived.Test.YtmjmoogldbejoaaWM
set_option linter.unusedVariables false
set_option linter.unusedSimpArgs false
namespace Go.Proofs.Ytmjmoogldbejoaa
open Go.RowKit
noncomputable def m_assessorlaw52_AttemptsFinals (p0 : Rule) (p1 : (List Att)) (p2 : Int) : Option Bool :=
  (m_assessorlaw52_awake ).bind fun x1 =>
  if (!x1) = true then
    some false
  else
    if (decide (20 < (p1.length : Int))) = true then
      some true
    else
      (m_attempts_Final p0 p1).bind fun x2 =>
      (m_assessorref52_Final p0 p1).bind fun x3 =>
      (m_attempts_Needed p0 p1 p2).bind fun x4 =>
      (m_assessorref52_Needed p0 p1 p2).bind fun x5 =>
      (m_attempts_Counting p0 p1).bind fun x6 =>
      (m_assessorref52_Counting p0 p1).bind fun x7 =>
      (m_assessorref49_Ints x6 x7).bind fun x8 =>
      some ((((x8 && (decide (x2.1 = x3.1))) && (decide (x2.2 = x3.2))) && (decide (x4.1 = x5.1))) && (x4.2 == x5.2))
end Go.Proofs.Ytmjmoogldbejoaa

/-
  Models of: assessor/assessorlaw52.AttemptsRise. (Printed by wip/sp/gen.py.)
-/
import Derived.Test.YtmjmoogldbejoaaWM
set_option linter.unusedVariables false
set_option linter.unusedSimpArgs false
namespace Go.Proofs.Ytmjmoogldbejoaa
open Go.RowKit
noncomputable def m_assessorlaw52_AttemptsRise (p0 : Rule) (p1 : (List Att)) (p2 : Int) (p3 : Int) : Option Bool :=
  (m_assessorlaw52_awake ).bind fun x1 =>
  if (!x1) = true then
    some false
  else
    ((if ((decide (20 < (p1.length : Int))) || (decide ((p1.length : Int) = 0))) = true then
      some true
    else
      (m_attempts_Valid p0 p1).bind fun x2 =>
      some (!x2)) : Option Bool).bind fun m1 =>
    if m1 = true then
      some true
    else
      (inK .i64 p2).bind fun x3 =>
      (remK x3 (p1.length : Int)).bind fun x4 =>
      (app [] p1).bind fun x5 =>
      (idx x5 x4).bind fun x6 =>
      (m_attempts_Final p0 p1).bind fun x7 =>
      (m_attempts_Final p0 (x5.set x4.toNat (Att.mk x6.num x6.tick p3))).bind fun x8 =>
      ((if (!decide (x7.2 = 0)) = true then
        some true
      else
        (idx p1 x4).bind fun x9 =>
        some (((decide (x9.pts < p3)) && (decide (p3 ≤ 100000000))) && ((!decide (x8.2 = 0)) || (decide (x8.1 < x7.1))))) : Option Bool).bind fun m2 =>
      if m2 = true then
        some false
      else
        ((if ((!decide (x8.2 = 0)) || (!decide (p0.kind = 1))) = true then
          some true
        else
          (inK .i64 ((p1.length : Int) - 1)).bind fun x10 =>
          some (decide (x4 = x10))) : Option Bool).bind fun m3 =>
        some (m3 || (decide (x7.1 = x8.1)))
end Go.Proofs.Ytmjmoogldbejoaa

/-
  Models of: assessor/assessorlaw52.AttemptsBest. (Printed by wip/sp/gen.py.)
-/
import Derived.Test.YtmjmoogldbejoaaWM
set_option linter.unusedVariables false
set_option linter.unusedSimpArgs false
namespace Go.Proofs.Ytmjmoogldbejoaa
open Go.RowKit
noncomputable def m_assessorlaw52_AttemptsBest (p0 : Rule) (p1 : (List Att)) (p2 : Int) (p3 : Int) (p4 : Int) : Option Bool :=
  (m_assessorlaw52_awake ).bind fun x1 =>
  if (!x1) = true then
    some false
  else
    ((if ((decide (20 < (p1.length : Int))) || (decide ((p1.length : Int) = 0))) = true then
      some true
    else
      (m_attempts_Valid p0 p1).bind fun x2 =>
      some (!x2)) : Option Bool).bind fun m1 =>
    if m1 = true then
      some true
    else
      (m_attempts_Final (Rule.mk 0 p0.most p0.pause 0) p1).bind fun x3 =>
      (m_attempts_Final p0 p1).bind fun x4 =>
      (app [] p1).bind fun x5 =>
      (inK .i64 p3).bind fun x6 =>
      (remK x6 (p1.length : Int)).bind fun x7 =>
      (inK .i64 p4).bind fun x8 =>
      (remK x8 (p1.length : Int)).bind fun x9 =>
      (idx p1 x9).bind fun x10 =>
      (idx p1 x7).bind fun x11 =>
      (idx x5 x7).bind fun x12 =>
      (idx (x5.set x7.toNat (Att.mk x12.num x12.tick x10.pts)) x9).bind fun x13 =>
      (m_attempts_Final (Rule.mk 0 p0.most p0.pause 0) ((x5.set x7.toNat (Att.mk x12.num x12.tick x10.pts)).set x9.toNat (Att.mk x13.num x13.tick x11.pts))).bind fun x14 =>
      (m_attempts_Final p0 ((x5.set x7.toNat (Att.mk x12.num x12.tick x10.pts)).set x9.toNat (Att.mk x13.num x13.tick x11.pts))).bind fun x15 =>
      if (((((((!decide (x3.2 = 0)) || (!decide (x4.2 = 0))) || (!decide (x14.2 = 0))) || (!decide (x15.2 = 0))) || (decide (x3.1 < x4.1))) || (!decide (x3.1 = x14.1))) || ((!decide (p0.kind = 1)) && (!decide (x4.1 = x15.1)))) = true then
        some false
      else
        if (((decide ((p1.length : Int) = p0.most)) || (decide (p2 < 0))) || (decide (100000000 < p2))) = true then
          some true
        else
          (m_assessorlaw52_next p1 p2).bind fun x16 =>
          (m_attempts_Final (Rule.mk 0 p0.most p0.pause 0) x16).bind fun x17 =>
          some ((decide (x17.2 = 0)) && (decide (x17.1 = (max x3.1 p2))))
end Go.Proofs.Ytmjmoogldbejoaa

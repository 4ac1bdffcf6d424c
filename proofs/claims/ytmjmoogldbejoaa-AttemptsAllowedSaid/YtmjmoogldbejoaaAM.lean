/-
  Models of: assessor/attempts.isTime, assessor/attempts.right, assessor/attempts.Valid, assessor/attempts.last, assessor/attempts.next, assessor/attempts.Allowed, assessor/attempts.Earliest. (Printed by wip/sp/gen.py.)
-/
import Derived.Test.YtmjmoogldbejoaaTy
set_option linter.unusedVariables false
set_option linter.unusedSimpArgs false
namespace Go.Proofs.Ytmjmoogldbejoaa
open Go.RowKit
noncomputable def m_attempts_isTime (p0 : Int) : Option Bool :=
  some ((decide (0 ≤ p0)) && (decide (p0 ≤ 1099511627776)))
noncomputable def m_attempts_right (p0 : Rule) : Option Bool :=
  ((if ((((decide (p0.kind < 0)) || (decide (2 < p0.kind))) || (decide (p0.most < 1))) || (decide (16 < p0.most))) = true then
    some true
  else
    (m_attempts_isTime p0.pause).bind fun x1 =>
    some (!x1)) : Option Bool).bind fun m1 =>
  if m1 = true then
    some false
  else
    if (!decide (p0.kind = 2)) = true then
      some (decide (p0.keep = 0))
    else
      some ((decide (1 ≤ p0.keep)) && (decide (p0.keep ≤ p0.most)))
noncomputable def m_attempts_Valid_lp1 (p1 : (List Att)) (lp1_0 : Int) (lp1_1 : Int) : Option (Step (Int × Int) (Out Unit Bool)) :=
  if (decide (lp1_1 < (p1.length : Int))) = true then
    (idx p1 lp1_1).bind fun x2 =>
    (inK .i64 (lp1_1 + 1)).bind fun x3 =>
    ((if ((!decide (x2.num = x3)) || (decide (x2.tick < lp1_0))) = true then
      some true
    else
      (m_attempts_isTime x2.tick).bind fun x4 =>
      some (!x4)) : Option Bool).bind fun m1 =>
    if ((m1 || (decide (x2.pts < 0))) || (decide (100000000 < x2.pts))) = true then
      some (.done (.ret false))
    else
      (inK .i64 (lp1_1 + 1)).bind fun x5 =>
      some (.next (x2.tick, x5))
  else
    some (.done (.brk ()))
noncomputable def m_attempts_Valid (p0 : Rule) (p1 : (List Att)) : Option Bool :=
  (m_attempts_right p0).bind fun x1 =>
  if ((!x1) || (decide (p0.most < (p1.length : Int)))) = true then
    some false
  else
    (loopM (fun s => m_attempts_Valid_lp1 p1 s.1 s.2) (0, 0) : Option (Out Unit Bool)).bind fun b2 =>
    match b2 with
    | .brk b2s =>
      some true
    | .ret r => some r
noncomputable def m_attempts_last (p0 : (List Att)) : Option Int :=
  if (decide ((p0.length : Int) = 0)) = true then
    some 0
  else
    (inK .i64 ((p0.length : Int) - 1)).bind fun x1 =>
    (idx p0 x1).bind fun x2 =>
    some x2.tick
noncomputable def m_attempts_next (p0 : Rule) (p1 : (List Att)) : Option Int :=
  if (decide ((p1.length : Int) = 0)) = true then
    some 0
  else
    (m_attempts_last p1).bind fun x1 =>
    (inK .i64 (x1 + p0.pause)).bind fun x2 =>
    some x2
noncomputable def m_attempts_Allowed (p0 : Rule) (p1 : (List Att)) (p2 : Int) : Option Int :=
  (m_attempts_Valid p0 p1).bind fun x1 =>
  if (!x1) = true then
    some 1
  else
    (m_attempts_isTime p2).bind fun x2 =>
    ((if (!x2) = true then
      some true
    else
      (m_attempts_last p1).bind fun x3 =>
      some (decide (p2 < x3))) : Option Bool).bind fun m1 =>
    if m1 = true then
      some 2
    else
      if (decide ((p1.length : Int) = p0.most)) = true then
        some 8
      else
        (m_attempts_next p0 p1).bind fun x4 =>
        if (decide (p2 < x4)) = true then
          some 9
        else
          some 0
noncomputable def m_attempts_Earliest (p0 : Rule) (p1 : (List Att)) : Option (Int × Bool) :=
  (m_attempts_Valid p0 p1).bind fun x1 =>
  ((if ((!x1) || (decide ((p1.length : Int) = p0.most))) = true then
    some true
  else
    (m_attempts_next p0 p1).bind fun x2 =>
    (m_attempts_isTime x2).bind fun x3 =>
    some (!x3)) : Option Bool).bind fun m1 =>
  if m1 = true then
    some (0, false)
  else
    (m_attempts_next p0 p1).bind fun x4 =>
    some (x4, true)
end Go.Proofs.Ytmjmoogldbejoaa

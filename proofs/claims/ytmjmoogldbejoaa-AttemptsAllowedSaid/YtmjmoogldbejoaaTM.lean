/-
  Models of: assessor/assessorref52.with, assessor/assessorref52.Needed. (Printed by wip/sp/gen.py.)
-/
import Derived.Test.YtmjmoogldbejoaaRM
set_option linter.unusedVariables false
set_option linter.unusedSimpArgs false
namespace Go.Proofs.Ytmjmoogldbejoaa
open Go.RowKit
noncomputable def m_assessorref52_with (p0 : Rule) (p1 : (List Att)) (p2 : Int) : Option Int :=
  (inK .i64 ((p1.length : Int) + 1)).bind fun x1 =>
  ((if (decide (0 < (p1.length : Int))) = true then
    (inK .i64 ((p1.length : Int) - 1)).bind fun x2 =>
    (idx p1 x2).bind fun x3 =>
    some x3.tick
  else
    some 0) : Option Int).bind fun j1 =>
  (app ([] : List Att) p1).bind fun x4 =>
  (app x4 [(Att.mk x1 j1 p2)]).bind fun x5 =>
  (m_assessorref52_Final p0 x5).bind fun x6 =>
  some x6.1
noncomputable def m_assessorref52_Needed_lp1 (p0 : Rule) (p1 : (List Att)) (p2 : Int) (lp1_0 : Int) (lp1_1 : Int) : Option (Step (Int × Int) Int) :=
  (inK .i64 (lp1_1 - lp1_0)).bind fun x3 =>
  if (decide (1 < x3)) = true then
    (inK .i64 (lp1_0 + lp1_1)).bind fun x4 =>
    (quoK .i64 x4 2).bind fun x5 =>
    (m_assessorref52_with p0 p1 x5).bind fun x6 =>
    if (decide (p2 ≤ x6)) = true then
      some (.next (lp1_0, x5))
    else
      some (.next (x5, lp1_1))
  else
    some (.done lp1_1)
noncomputable def m_assessorref52_Needed (p0 : Rule) (p1 : (List Att)) (p2 : Int) : Option (Int × Bool) :=
  (m_assessorref52_Valid p0 p1).bind fun x1 =>
  ((if ((!x1) || (decide ((p1.length : Int) = p0.most))) = true then
    some true
  else
    (m_assessorref52_with p0 p1 100000000).bind fun x2 =>
    some (decide (x2 < p2))) : Option Bool).bind fun m1 =>
  if m1 = true then
    some (0, false)
  else
    (loopM (fun s => m_assessorref52_Needed_lp1 p0 p1 p2 s.1 s.2) ((-1), 100000000) : Option Int).bind fun b2 =>
    some (b2, true)
end Go.Proofs.Ytmjmoogldbejoaa

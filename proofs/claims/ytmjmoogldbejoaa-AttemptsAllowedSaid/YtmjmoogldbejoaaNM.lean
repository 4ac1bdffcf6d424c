/-
  Models of: assessor/attempts.Needed$1, assessor/attempts.Needed. (Printed by wip/sp/gen.py.)
-/
import Derived.Test.YtmjmoogldbejoaaCM
set_option linter.unusedVariables false
set_option linter.unusedSimpArgs false
namespace Go.Proofs.Ytmjmoogldbejoaa
open Go.RowKit
noncomputable def m_attempts_Needed_1 (p0 : Int) (c0 : (List Att)) (c1 : Rule) (c2 : Int) : Option Bool :=
  (inK .i64 ((c0.length : Int) + 1)).bind fun x1 =>
  (m_attempts_last c0).bind fun x2 =>
  (app [] c0).bind fun x3 =>
  (app x3 [(Att.mk x1 x2 p0)]).bind fun x4 =>
  (m_attempts_points c1 x4).bind fun x5 =>
  some (decide (c2 ≤ x5))
noncomputable def m_attempts_Needed_lp1 (p0 : Rule) (p1 : (List Att)) (p2 : Int) (lp1_0 : Int) (lp1_1 : Int) : Option (Step (Int × Int) Int) :=
  if (decide (lp1_0 < lp1_1)) = true then
    (inK .i64 (lp1_0 + lp1_1)).bind fun x3 =>
    (quoK .i64 x3 2).bind fun x4 =>
    (m_attempts_Needed_1 x4 p1 p0 p2).bind fun x5 =>
    if x5 = true then
      some (.next (lp1_0, x4))
    else
      (inK .i64 (x4 + 1)).bind fun x6 =>
      some (.next (x6, lp1_1))
  else
    some (.done lp1_0)
noncomputable def m_attempts_Needed (p0 : Rule) (p1 : (List Att)) (p2 : Int) : Option (Int × Bool) :=
  (m_attempts_Valid p0 p1).bind fun x1 =>
  if ((!x1) || (decide ((p1.length : Int) = p0.most))) = true then
    some (0, false)
  else
    (m_attempts_Needed_1 100000000 p1 p0 p2).bind fun x2 =>
    if (!x2) = true then
      some (0, false)
    else
      (loopM (fun s => m_attempts_Needed_lp1 p0 p1 p2 s.1 s.2) (0, 100000000) : Option Int).bind fun b4 =>
      some (b4, true)
end Go.Proofs.Ytmjmoogldbejoaa

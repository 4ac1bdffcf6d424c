/-
  Models of: slices.Clone[[]assessor/api.Attempt,assessor/api.Attempt], assessor/attempts.chosen, assessor/attempts.Counting, assessor/attempts.points, assessor/attempts.Final. (Printed by wip/sp/gen.py.)
-/
import Derived.Test.YtmjmoogldbejoaaAM
import Derived.Test.YtmjmoogldbejoaaS52
import Derived.Test.YtmjmoogldbejoaaLibI
set_option linter.unusedVariables false
set_option linter.unusedSimpArgs false
namespace Go.Proofs.Ytmjmoogldbejoaa
open Go.RowKit
noncomputable def m_attempts_chosen (p0 : Rule) (p1 : (List Att)) : Option (List Att) :=
  (mkc (p1.length : Int) (p1.length : Int) ((Att.mk 0 0 0) : Att)).bind fun x1 =>
  if (decide (p0.kind = 1)) = true then
    (sub ((cpy x1 p1).reverse) 0 (min 1 (((cpy x1 p1).reverse).length : Int))).bind fun x2 =>
    some x2
  else
    (m_sortA (cpy x1 p1)).bind fun x3 =>
    (sub x3 0 (min (max 1 p0.keep) (x3.length : Int))).bind fun x4 =>
    some x4
noncomputable def m_attempts_Counting_lp1 (x2 : (List Att)) (lp1_0 : Int) (lp1_1 : (List Int)) : Option (Step (Int × (List Int)) (List Int)) :=
  if (decide (lp1_0 < (x2.length : Int))) = true then
    (idx x2 lp1_0).bind fun x3 =>
    (app lp1_1 [x3.num]).bind fun x4 =>
    (inK .i64 (lp1_0 + 1)).bind fun x5 =>
    some (.next (x5, x4))
  else
    some (.done lp1_1)
noncomputable def m_attempts_Counting (p0 : Rule) (p1 : (List Att)) : Option (List Int) :=
  (m_attempts_Valid p0 p1).bind fun x1 =>
  if (!x1) = true then
    some ([])
  else
    (m_attempts_chosen p0 p1).bind fun x2 =>
    (loopM (fun s => m_attempts_Counting_lp1 x2 s.1 s.2) (0, []) : Option (List Int)).bind fun b2 =>
    (m_sortI b2).bind fun x6 =>
    some x6
noncomputable def m_attempts_points_lp1 (x1 : (List Att)) (lp1_0 : Int) (lp1_1 : Int) : Option (Step (Int × Int) Int) :=
  if (decide (lp1_1 < (x1.length : Int))) = true then
    (idx x1 lp1_1).bind fun x2 =>
    (inK .i64 (lp1_0 + x2.pts)).bind fun x3 =>
    (inK .i64 (lp1_1 + 1)).bind fun x4 =>
    some (.next (x3, x4))
  else
    some (.done lp1_0)
noncomputable def m_attempts_points (p0 : Rule) (p1 : (List Att)) : Option Int :=
  (m_attempts_chosen p0 p1).bind fun x1 =>
  if (decide ((x1.length : Int) = 0)) = true then
    some 0
  else
    (loopM (fun s => m_attempts_points_lp1 x1 s.1 s.2) (0, 0) : Option Int).bind fun b2 =>
    (inK .i64 (2 * b2)).bind fun x5 =>
    (inK .i64 (x5 + (x1.length : Int))).bind fun x6 =>
    (inK .i64 (2 * (x1.length : Int))).bind fun x7 =>
    (quoK .i64 x6 x7).bind fun x8 =>
    some x8
noncomputable def m_attempts_Final (p0 : Rule) (p1 : (List Att)) : Option (Int × Int) :=
  (m_attempts_Valid p0 p1).bind fun x1 =>
  if (!x1) = true then
    some (0, 1)
  else
    (m_attempts_points p0 p1).bind fun x2 =>
    some (x2, 0)
end Go.Proofs.Ytmjmoogldbejoaa

/-
  Models of: assessor/assessorlaw52.awake, assessor/assessorlaw52.next. (Printed by wip/sp/gen.py.)
-/
import Derived.Test.YtmjmoogldbejoaaNM
import Derived.Test.YtmjmoogldbejoaaTM
set_option linter.unusedVariables false
set_option linter.unusedSimpArgs false
namespace Go.Proofs.Ytmjmoogldbejoaa
open Go.RowKit
noncomputable def m_assessorlaw52_awake  : Option Bool :=
  (m_attempts_Final (Rule.mk 2 5 0 2) ([(Att.mk 1 0 50), (Att.mk 2 0 80), (Att.mk 3 0 71)] : List Att)).bind fun x1 =>
  (m_attempts_Needed (Rule.mk 2 5 0 2) ([(Att.mk 1 0 50), (Att.mk 2 0 80), (Att.mk 3 0 71)] : List Att) 85).bind fun x2 =>
  (m_attempts_Counting (Rule.mk 2 5 0 2) ([(Att.mk 1 0 50), (Att.mk 2 0 80), (Att.mk 3 0 71)] : List Att)).bind fun x3 =>
  (m_equalI x3 ([2, 3] : List Int)).bind fun x4 =>
  some ((((x4 && (decide (x1.1 = 76))) && (decide (x1.2 = 0))) && x2.2) && (decide (x2.1 = 89)))
noncomputable def m_assessorlaw52_next (p0 : (List Att)) (p1 : Int) : Option (List Att) :=
  (inK .i64 ((p0.length : Int) + 1)).bind fun x1 =>
  ((if (decide (0 < (p0.length : Int))) = true then
    (inK .i64 ((p0.length : Int) - 1)).bind fun x2 =>
    (idx p0 x2).bind fun x3 =>
    some x3.tick
  else
    some 0) : Option Int).bind fun j1 =>
  (app [] p0).bind fun x4 =>
  (app x4 [(Att.mk x1 j1 p1)]).bind fun x5 =>
  some x5
end Go.Proofs.Ytmjmoogldbejoaa

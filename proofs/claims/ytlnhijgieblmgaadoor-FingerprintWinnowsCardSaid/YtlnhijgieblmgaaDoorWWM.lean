/-
  Models of: assessor/assessorlaw43.FingerprintWinnows. (Printed by wip/sp/gen.py.)
-/
import Derived.Test.YtlnhijgieblmgaaDoorWM
set_option linter.unusedVariables false
set_option linter.unusedSimpArgs false
namespace Go.Proofs.YtlnhijgieblmgaaDoor
open Go.RowKit
noncomputable def m_assessorlaw43_FingerprintWinnows (p0 : (List Int)) (p1 : Int) (p2 : (List Mark)) (p3 : (List Mark)) : Option Bool :=
  (m_assessorlaw43_awake ).bind fun x1 =>
  if (!x1) = true then
    some false
  else
    if ((((decide (150 < (p0.length : Int))) && (decide ((p0.length : Int) ≤ 2048))) || (decide (60 < (p2.length : Int)))) || (decide (60 < (p3.length : Int)))) = true then
      some true
    else
      (m_fingerprint_Winnow p0 p1).bind fun x2 =>
      (m_assessorref43_Winnow p0 p1).bind fun x3 =>
      ((if (decide (x2.2 = x3.2)) = true then
        (m_assessorref43_Same x2.1 x3.1).bind fun x4 =>
        some x4
      else
        some false) : Option Bool).bind fun m1 =>
      ((if m1 = true then
        (m_fingerprint_Shared p2 p3).bind fun x5 =>
        (m_assessorref43_Shared p2 p3).bind fun x6 =>
        (m_assessorref35_Same x5 x6).bind fun x7 =>
        some x7
      else
        some false) : Option Bool).bind fun m2 =>
      some m2
end Go.Proofs.YtlnhijgieblmgaaDoor

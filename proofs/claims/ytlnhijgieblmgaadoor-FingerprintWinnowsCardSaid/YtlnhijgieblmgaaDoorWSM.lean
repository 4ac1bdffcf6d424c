/-
  Models of: assessor/assessorlaw43.FingerprintSymbols. (Printed by wip/sp/gen.py.)
-/
import Derived.Test.YtlnhijgieblmgaaDoorWM
set_option linter.unusedVariables false
set_option linter.unusedSimpArgs false
namespace Go.Proofs.YtlnhijgieblmgaaDoor
open Go.RowKit
noncomputable def m_assessorlaw43_FingerprintSymbols (p0 : Node) (p1 : (List Int)) (p2 : Int) (p3 : Int) : Option Bool :=
  (m_assessorlaw43_awake ).bind fun x1 =>
  if (!x1) = true then
    some false
  else
    (m_assessorref37_Few p0 60).bind fun x2 =>
    if ((!x2) || (decide (70 < (p1.length : Int)))) = true then
      some true
    else
      (m_fingerprint_Marks p0 p2 p3).bind fun x3 =>
      (m_assessorref43_Marks p0 p2 p3).bind fun x4 =>
      (m_fingerprint_Symbols p0).bind fun x5 =>
      (m_assessorref43_Symbols p0).bind fun x6 =>
      (m_assessorref35_Same x5 x6).bind fun x7 =>
      ((if x7 = true then
        (m_fingerprint_Hash p1).bind fun x8 =>
        (m_assessorref43_Hash p1).bind fun x9 =>
        some (decide (x8 = x9))
      else
        some false) : Option Bool).bind fun m1 =>
      ((if (m1 && (decide (x3.2 = x4.2))) = true then
        (m_assessorref43_Same x3.1 x4.1).bind fun x10 =>
        some x10
      else
        some false) : Option Bool).bind fun m2 =>
      some m2
end Go.Proofs.YtlnhijgieblmgaaDoor

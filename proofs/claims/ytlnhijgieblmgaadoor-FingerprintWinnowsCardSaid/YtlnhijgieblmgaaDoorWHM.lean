/-
  Models of: assessor/assessorlaw43.FingerprintHashes. (Printed by wip/sp/gen.py.)
-/
import Derived.Test.YtlnhijgieblmgaaDoorWM
set_option linter.unusedVariables false
set_option linter.unusedSimpArgs false
namespace Go.Proofs.YtlnhijgieblmgaaDoor
open Go.RowKit
noncomputable def m_assessorlaw43_FingerprintHashes (p0 : (List Int)) (p1 : Int) (p2 : Int) (p3 : Int) (p4 : Int) : Option Bool :=
  (m_assessorlaw43_awake ).bind fun x1 =>
  if (!x1) = true then
    some false
  else
    if ((decide (100 < (p0.length : Int))) && (decide ((p0.length : Int) ≤ 2048))) = true then
      some true
    else
      (m_fingerprint_Hashes p0 p4).bind fun x2 =>
      (m_assessorref43_Hashes p0 p4).bind fun x3 =>
      (m_fingerprint_Roll p1 p2 p3 p4).bind fun x4 =>
      (m_assessorref43_Roll p1 p2 p3 p4).bind fun x5 =>
      ((if (decide (x2.2 = x3.2)) = true then
        (m_assessorref35_Same x2.1 x3.1).bind fun x6 =>
        some x6
      else
        some false) : Option Bool).bind fun m1 =>
      some ((m1 && (decide (x4.1 = x5.1))) && (decide (x4.2 = x5.2)))
end Go.Proofs.YtlnhijgieblmgaaDoor

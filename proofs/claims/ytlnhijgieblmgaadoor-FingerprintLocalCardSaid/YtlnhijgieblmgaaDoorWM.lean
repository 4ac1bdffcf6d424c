/-
  Models of: assessor/assessorlaw43.awake. (Printed by wip/sp/gen.py.)
-/
import Derived.Test.YtlnhijgieblmgaaDoorFM
import Derived.Test.YtlnhijgieblmgaaDoorRM
set_option linter.unusedVariables false
set_option linter.unusedSimpArgs false
namespace Go.Proofs.YtlnhijgieblmgaaDoor
open Go.RowKit
noncomputable def m_assessorlaw43_awake  : Option Bool :=
  (m_fingerprint_Winnow ([5, 3, 9, 3, 7] : List Int) 3).bind fun x1 =>
  (m_fingerprint_Hashes ([1, 2, 3] : List Int) 2).bind fun x2 =>
  (m_fingerprint_Roll 1000005 1 3 2).bind fun x3 =>
  (m_fingerprint_Symbols (Node.mk 28 (ByteArray.mk #[45]) 0 0 ([(Node.mk 20 (ByteArray.mk #[97]) 0 0 ([]))] : List Node))).bind fun x4 =>
  (m_fingerprint_Marks (Node.mk 20 (ByteArray.mk #[97]) 0 0 ([])) 1 1).bind fun x5 =>
  ((if (decide (x1.2 = 0)) = true then
    (m_assessorref43_Same x1.1 ([(Mark.mk 3 1), (Mark.mk 3 3)] : List Mark)).bind fun x6 =>
    some x6
  else
    some false) : Option Bool).bind fun m1 =>
  ((if (m1 && (decide (x2.2 = 0))) = true then
    (m_assessorref35_Same x2.1 ([1000005, 2000009] : List Int)).bind fun x7 =>
    some x7
  else
    some false) : Option Bool).bind fun m2 =>
  ((if ((m2 && (decide (x3.2 = 0))) && (decide (x3.1 = 2000009))) = true then
    (m_fingerprint_Hash ([1, 2] : List Int)).bind fun x8 =>
    some (decide (x8 = 1000005))
  else
    some false) : Option Bool).bind fun m3 =>
  ((if (m3 && (decide ((x4.length : Int) = 3))) = true then
    (idx x4 2).bind fun x9 =>
    some (decide (x9 = 0))
  else
    some false) : Option Bool).bind fun m4 =>
  ((if ((m4 && (decide (x5.2 = 0))) && (decide ((x5.1.length : Int) = 1))) = true then
    (m_fingerprint_Shared x1.1 ([(Mark.mk 4 0), (Mark.mk 3 9)] : List Mark)).bind fun x10 =>
    (m_assessorref35_Same x10 ([3] : List Int)).bind fun x11 =>
    some x11
  else
    some false) : Option Bool).bind fun m5 =>
  some m5
end Go.Proofs.YtlnhijgieblmgaaDoor

/-
  Models of: assessor/assessorlaw37.name, assessor/assessorlaw37.binary, assessor/assessorlaw37.few, assessor/assessorlaw37.awake. (Printed by wip/sp/gen.py.)
-/
import Derived.Test.YtnnccbagbgndpaaRM
import Derived.Test.YtnnccbagbgndpaaDDM
set_option linter.unusedVariables false
set_option linter.unusedSimpArgs false
namespace Go.Proofs.Ytnnccbagbgndpaa
open Go.RowKit
noncomputable def m_assessorlaw37_name (p0 : ByteArray) : Option Node :=
  some (Node.mk 20 p0 0 0 ([]))
noncomputable def m_assessorlaw37_binary (p0 : ByteArray) (p1 : Node) (p2 : Node) : Option Node :=
  some (Node.mk 29 p0 0 0 ([p1, p2] : List Node))
noncomputable def m_assessorlaw37_few (p0 : Node) (p1 : Node) (p2 : Int) : Option Bool :=
  (m_assessorref37_Few p0 p2).bind fun x1 =>
  ((if x1 = true then
    (m_assessorref37_Few p1 p2).bind fun x2 =>
    some x2
  else
    some false) : Option Bool).bind fun m1 =>
  some m1
noncomputable def m_assessorlaw37_awake  : Option Bool :=
  (m_assessorlaw37_name (ByteArray.mk #[97])).bind fun x1 =>
  (m_assessorlaw37_name (ByteArray.mk #[98])).bind fun x2 =>
  (m_assessorlaw37_name (ByteArray.mk #[99])).bind fun x3 =>
  (m_assessorlaw37_binary (ByteArray.mk #[42]) x2 x3).bind fun x4 =>
  (m_assessorlaw37_binary (ByteArray.mk #[43]) x1 x4).bind fun x5 =>
  (m_assessorlaw37_name (ByteArray.mk #[97])).bind fun x6 =>
  (m_assessorlaw37_name (ByteArray.mk #[99])).bind fun x7 =>
  (m_assessorlaw37_binary (ByteArray.mk #[42]) x6 x7).bind fun x8 =>
  (m_distance_Distance x5 x8).bind fun x9 =>
  (m_assessorlaw37_name (ByteArray.mk #[97])).bind fun x10 =>
  (m_assessorlaw37_name (ByteArray.mk #[98])).bind fun x11 =>
  (m_assessorlaw37_binary (ByteArray.mk #[43]) x10 x11).bind fun x12 =>
  (m_assessorlaw37_name (ByteArray.mk #[98])).bind fun x13 =>
  (m_assessorlaw37_name (ByteArray.mk #[97])).bind fun x14 =>
  (m_assessorlaw37_binary (ByteArray.mk #[43]) x13 x14).bind fun x15 =>
  (m_distance_Distance x12 x15).bind fun x16 =>
  (m_distance_Within x5 x8 3).bind fun x17 =>
  (m_distance_Nearest x5 ([x8, x5] : List Node)).bind fun x18 =>
  (m_distance_Matrix ([x5, x8] : List Node)).bind fun x19 =>
  (m_distance_Subtrees x5 x8).bind fun x20 =>
  ((if (((((((((((decide (x9.2 = 0)) && (decide (x9.1 = 3))) && (decide (x16.2 = 0))) && (decide (x16.1 = 2))) && (decide (x17.2 = 0))) && x17.1) && (decide (x18.2.2 = 0))) && (decide (x18.1 = 1))) && (decide (x18.2.1 = 0))) && (decide (x19.2 = 0))) && (decide ((x19.1.length : Int) = 2))) = true then
    (idx x19.1 1).bind fun x21 =>
    some (decide ((x21.length : Int) = 2))
  else
    some false) : Option Bool).bind fun m1 =>
  ((if m1 = true then
    (idx x19.1 1).bind fun x22 =>
    (idx x22 0).bind fun x23 =>
    some (decide (x23 = 3))
  else
    some false) : Option Bool).bind fun m2 =>
  ((if ((m2 && (decide (x20.2 = 0))) && (decide ((x20.1.length : Int) = 5))) = true then
    (idx x20.1 4).bind fun x24 =>
    some (decide ((x24.length : Int) = 3))
  else
    some false) : Option Bool).bind fun m3 =>
  ((if m3 = true then
    (idx x20.1 4).bind fun x25 =>
    (idx x25 2).bind fun x26 =>
    some (decide (x26 = 0))
  else
    some false) : Option Bool).bind fun m4 =>
  ((if m4 = true then
    (m_distance_Bound x5 x8).bind fun x27 =>
    some (decide (x27 = 2))
  else
    some false) : Option Bool).bind fun m5 =>
  some m5
end Go.Proofs.Ytnnccbagbgndpaa

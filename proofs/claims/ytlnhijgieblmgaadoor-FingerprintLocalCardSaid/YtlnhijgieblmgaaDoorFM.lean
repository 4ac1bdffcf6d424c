/-
  Models of: assessor/fingerprint.symbol, assessor/fingerprint.Symbols, assessor/fingerprint.modulo, assessor/fingerprint.Hash, assessor/fingerprint.power, assessor/fingerprint.ranged, assessor/fingerprint.roller, assessor/fingerprint.roller$1, assessor/fingerprint.Roll, assessor/fingerprint.Hashes, assessor/fingerprint.Winnow, assessor/fingerprint.Marks, assessor/fingerprint.Shared. (Printed by wip/sp/gen.py.)
-/
import Derived.Test.YtlnhijgieblmgaaDoorTy
import Derived.Test.YtlnhijgieblmgaaDoorLibD
set_option linter.unusedVariables false
set_option linter.unusedSimpArgs false
namespace Go.Proofs.YtlnhijgieblmgaaDoor
open Go.RowKit
noncomputable def m_fingerprint_symbol_lp1 (x3 : ByteArray) (lp1_0 : Int) (lp1_1 : Int) : Option (Step (Int × Int) Int) :=
  if (decide (lp1_1 < (x3.data.toList.length : Int))) = true then
    (idx x3.data.toList lp1_1).bind fun x4 =>
    (inK .i64 (lp1_1 + 1)).bind fun x5 =>
    some (.next (IntKind.wrap .u32 ((xorK .u32 lp1_0 (IntKind.wrap .u32 (x4.toNat : Int))) * 16777619), x5))
  else
    some (.done lp1_0)
noncomputable def m_fingerprint_symbol (p0 : Node) : Option Int :=
  (m_itoa p0.kind).bind fun x1 =>
  (catK x1 (ByteArray.mk #[58])).bind fun x2 =>
  (catK x2 p0.text).bind fun x3 =>
  (loopM (fun s => m_fingerprint_symbol_lp1 x3 s.1 s.2) (2166136261, 0) : Option Int).bind fun b2 =>
  (inK .i64 b2).bind fun x6 =>
  some x6
noncomputable def m_fingerprint_Symbols_body_lp1 (p0 : Node) (self : Node → Option (List Int)) (lp1_0 : Int) (lp1_1 : (List Int)) : Option (Step (Int × (List Int)) (List Int)) :=
  if (decide (lp1_0 < (p0.kids.length : Int))) = true then
    (idx p0.kids lp1_0).bind fun x2 =>
    (self x2).bind fun x3 =>
    (app lp1_1 x3).bind fun x4 =>
    (inK .i64 (lp1_0 + 1)).bind fun x5 =>
    some (.next (x5, x4))
  else
    some (.done lp1_1)
noncomputable def m_fingerprint_Symbols_body (self : Node → Option (List Int)) (p0 : Node) : Option (List Int) :=
  (m_fingerprint_symbol p0).bind fun x1 =>
  (loopM (fun s => m_fingerprint_Symbols_body_lp1 p0 self s.1 s.2) (0, ([x1] : List Int)) : Option (List Int)).bind fun b3 =>
  ((if (decide (0 < (p0.kids.length : Int))) = true then
    (app b3 [0]).bind fun x6 =>
    some x6
  else
    some b3) : Option (List Int)).bind fun j1 =>
  some j1
noncomputable def m_fingerprint_Symbols_r : Nat → Node → Option (List Int)
  | 0 => fun _ => none
  | n + 1 => m_fingerprint_Symbols_body (m_fingerprint_Symbols_r n)
noncomputable def m_fingerprint_Symbols (p0 : Node) : Option (List Int) := m_fingerprint_Symbols_r (SizeOf.sizeOf p0 + 1) p0
noncomputable def m_fingerprint_modulo (p0 : Int) : Option Int :=
  (remK p0 2147483647).bind fun x1 =>
  (inK .i64 (x1 + 2147483647)).bind fun x2 =>
  (remK x2 2147483647).bind fun x3 =>
  some x3
noncomputable def m_fingerprint_Hash_lp1 (p0 : (List Int)) (lp1_0 : Int) (lp1_1 : Int) : Option (Step (Int × Int) Int) :=
  if (decide (lp1_1 < (p0.length : Int))) = true then
    (idx p0 lp1_1).bind fun x1 =>
    (inK .i64 (lp1_0 * 1000003)).bind fun x2 =>
    (m_fingerprint_modulo x1).bind fun x3 =>
    (inK .i64 (x2 + x3)).bind fun x4 =>
    (remK x4 2147483647).bind fun x5 =>
    (inK .i64 (lp1_1 + 1)).bind fun x6 =>
    some (.next (x5, x6))
  else
    some (.done lp1_0)
noncomputable def m_fingerprint_Hash (p0 : (List Int)) : Option Int :=
  (loopM (fun s => m_fingerprint_Hash_lp1 p0 s.1 s.2) (0, 0) : Option Int).bind fun b1 =>
  some b1
noncomputable def m_fingerprint_power_lp1 (p0 : Int) (lp1_0 : Int) (lp1_1 : Int) : Option (Step (Int × Int) Int) :=
  if (decide (lp1_1 < p0)) = true then
    (inK .i64 (lp1_0 * 1000003)).bind fun x1 =>
    (remK x1 2147483647).bind fun x2 =>
    (inK .i64 (lp1_1 + 1)).bind fun x3 =>
    some (.next (x2, x3))
  else
    some (.done lp1_0)
noncomputable def m_fingerprint_power (p0 : Int) : Option Int :=
  (loopM (fun s => m_fingerprint_power_lp1 p0 s.1 s.2) (1, 0) : Option Int).bind fun b1 =>
  some b1
noncomputable def m_fingerprint_ranged (p0 : Int) : Option Bool :=
  some ((decide (1 ≤ p0)) && (decide (p0 ≤ 64)))
noncomputable def m_fingerprint_roller (p0 : Int) : Option Int :=
  (inK .i64 (p0 - 1)).bind fun x1 =>
  (m_fingerprint_power x1).bind fun x2 =>
  some x2
noncomputable def m_fingerprint_roller_1 (p0 : Int) (p1 : Int) (p2 : Int) (c0 : Int) : Option Int :=
  (m_fingerprint_modulo p1).bind fun x1 =>
  (inK .i64 (x1 * c0)).bind fun x2 =>
  (remK x2 2147483647).bind fun x3 =>
  (inK .i64 (p0 - x3)).bind fun x4 =>
  (m_fingerprint_modulo x4).bind fun x5 =>
  (inK .i64 (x5 * 1000003)).bind fun x6 =>
  (m_fingerprint_modulo p2).bind fun x7 =>
  (inK .i64 (x6 + x7)).bind fun x8 =>
  (remK x8 2147483647).bind fun x9 =>
  some x9
noncomputable def m_fingerprint_Roll (p0 : Int) (p1 : Int) (p2 : Int) (p3 : Int) : Option (Int × Int) :=
  (m_fingerprint_ranged p3).bind fun x1 =>
  if (((!x1) || (decide (p0 < 0))) || (decide (2147483647 ≤ p0))) = true then
    some (0, 2)
  else
    (m_fingerprint_roller p3).bind fun x2 =>
    (m_fingerprint_roller_1 p0 p1 p2 x2).bind fun x3 =>
    some (x3, 0)
noncomputable def m_fingerprint_Hashes_lp1 (p0 : (List Int)) (x4 : Int) (x5 : List Int) (lp1_0 : Int) (lp1_1 : (List Int)) : Option (Step (Int × (List Int)) (List Int)) :=
  if (decide (lp1_0 < (x5.length : Int))) = true then
    (idx x5 lp1_0).bind fun x6 =>
    (idx lp1_1 lp1_0).bind fun x7 =>
    (idx p0 lp1_0).bind fun x8 =>
    (m_fingerprint_roller_1 x7 x8 x6 x4).bind fun x9 =>
    (app lp1_1 [x9]).bind fun x10 =>
    (inK .i64 (lp1_0 + 1)).bind fun x11 =>
    some (.next (x11, x10))
  else
    some (.done lp1_1)
noncomputable def m_fingerprint_Hashes (p0 : (List Int)) (p1 : Int) : Option ((List Int) × Int) :=
  (m_fingerprint_ranged p1).bind fun x1 =>
  if (!x1) = true then
    some ([], 2)
  else
    if (decide (2048 < (p0.length : Int))) = true then
      some ([], 8)
    else
      if (decide ((p0.length : Int) < p1)) = true then
        some ([], 0)
      else
        (sub p0 0 p1).bind fun x2 =>
        (m_fingerprint_Hash x2).bind fun x3 =>
        (m_fingerprint_roller p1).bind fun x4 =>
        (sub p0 p1 (p0.length : Int)).bind fun x5 =>
        (loopM (fun s => m_fingerprint_Hashes_lp1 p0 x4 x5 s.1 s.2) (0, ([x3] : List Int)) : Option (List Int)).bind fun b3 =>
        some (b3, 0)
noncomputable def m_fingerprint_Winnow_lp2 (p0 : (List Int)) (x2 : Int) (lp2_0 : (List Int)) : Option (Step (List Int) (List Int)) :=
  ((if (decide (0 < (lp2_0.length : Int))) = true then
    (inK .i64 ((lp2_0.length : Int) - 1)).bind fun x3 =>
    (idx lp2_0 x3).bind fun x4 =>
    (idx p0 x4).bind fun x5 =>
    some (decide (x2 ≤ x5))
  else
    some false) : Option Bool).bind fun m1 =>
  if m1 = true then
    (inK .i64 ((lp2_0.length : Int) - 1)).bind fun x6 =>
    (sub lp2_0 0 x6).bind fun x7 =>
    some (.next x7)
  else
    some (.done lp2_0)
noncomputable def m_fingerprint_Winnow_lp1 (p0 : (List Int)) (p1 : Int) (lp1_0 : Int) (lp1_1 : (List Int)) (lp1_2 : (List Mark)) : Option (Step (Int × (List Int) × (List Mark)) ((List Int) × (List Mark))) :=
  if (decide (lp1_0 < (p0.length : Int))) = true then
    (idx p0 lp1_0).bind fun x2 =>
    (loopM (fun s => m_fingerprint_Winnow_lp2 p0 x2 s) lp1_1 : Option (List Int)).bind fun b3 =>
    (app b3 [lp1_0]).bind fun x8 =>
    (idx x8 0).bind fun x9 =>
    (inK .i64 (lp1_0 - (min p1 (p0.length : Int)))).bind fun x10 =>
    ((if (decide (x9 ≤ x10)) = true then
      (sub x8 1 (x8.length : Int)).bind fun x11 =>
      some x11
    else
      some x8) : Option (List Int)).bind fun j1 =>
    (idx j1 0).bind fun x12 =>
    (inK .i64 ((min p1 (p0.length : Int)) - 1)).bind fun x13 =>
    ((if (decide (x13 ≤ lp1_0)) = true then
      ((if (decide ((lp1_2.length : Int) = 0)) = true then
        some true
      else
        (inK .i64 ((lp1_2.length : Int) - 1)).bind fun x14 =>
        (idx lp1_2 x14).bind fun x15 =>
        some (!decide (x15.at_ = x12))) : Option Bool).bind fun m3 =>
      some m3
    else
      some false) : Option Bool).bind fun m2 =>
    if m2 = true then
      (idx p0 x12).bind fun x16 =>
      (app lp1_2 [(Mark.mk x16 x12)]).bind fun x17 =>
      (inK .i64 (lp1_0 + 1)).bind fun x18 =>
      some (.next (x18, j1, x17))
    else
      (inK .i64 (lp1_0 + 1)).bind fun x19 =>
      some (.next (x19, j1, lp1_2))
  else
    some (.done (lp1_1, lp1_2))
noncomputable def m_fingerprint_Winnow (p0 : (List Int)) (p1 : Int) : Option ((List Mark) × Int) :=
  (m_fingerprint_ranged p1).bind fun x1 =>
  if (!x1) = true then
    some ([], 2)
  else
    if (decide (2048 < (p0.length : Int))) = true then
      some ([], 8)
    else
      (loopM (fun s => m_fingerprint_Winnow_lp1 p0 p1 s.1 s.2.1 s.2.2) (0, [], []) : Option ((List Int) × (List Mark))).bind fun b1 =>
      some (b1.2, 0)
noncomputable def m_fingerprint_Marks (p0 : Node) (p1 : Int) (p2 : Int) : Option ((List Mark) × Int) :=
  (m_fingerprint_ranged p1).bind fun x1 =>
  ((if (!x1) = true then
    some true
  else
    (m_fingerprint_ranged p2).bind fun x2 =>
    some (!x2)) : Option Bool).bind fun m1 =>
  if m1 = true then
    some ([], 2)
  else
    (m_fingerprint_Symbols p0).bind fun x3 =>
    (m_fingerprint_Hashes x3 p1).bind fun x4 =>
    if (!decide (x4.2 = 0)) = true then
      some ([], x4.2)
    else
      (m_fingerprint_Winnow x4.1 p2).bind fun x5 =>
      some (x5.1, x5.2)
noncomputable def m_fingerprint_Shared_lp1 (p0 : (List Mark)) (lp1_0 : Int) (lp1_1 : (List (Int × Bool))) : Option (Step (Int × (List (Int × Bool))) (List (Int × Bool))) :=
  if (decide (lp1_0 < (p0.length : Int))) = true then
    (idx p0 lp1_0).bind fun x1 =>
    (inK .i64 (lp1_0 + 1)).bind fun x2 =>
    some (.next (x2, mput lp1_1 x1.hash true))
  else
    some (.done lp1_1)
noncomputable def m_fingerprint_Shared_lp2 (p1 : (List Mark)) (b3 : (List (Int × Bool))) (lp2_0 : Int) (lp2_1 : (List (Int × Bool))) : Option (Step (Int × (List (Int × Bool))) (List (Int × Bool))) :=
  if (decide (lp2_0 < (p1.length : Int))) = true then
    (idx p1 lp2_0).bind fun x3 =>
    if ((mget (b3 : List (Int × Bool)) x3.hash).getD false) = true then
      (inK .i64 (lp2_0 + 1)).bind fun x4 =>
      some (.next (x4, mput lp2_1 x3.hash true))
    else
      (inK .i64 (lp2_0 + 1)).bind fun x5 =>
      some (.next (x5, lp2_1))
  else
    some (.done lp2_1)
noncomputable def m_fingerprint_Shared (p0 : (List Mark)) (p1 : (List Mark)) : Option (List Int) :=
  (loopM (fun s => m_fingerprint_Shared_lp1 p0 s.1 s.2) (0, []) : Option (List (Int × Bool))).bind fun b3 =>
  (loopM (fun s => m_fingerprint_Shared_lp2 p1 b3 s.1 s.2) (0, []) : Option (List (Int × Bool))).bind fun b6 =>
  (m_sortedKeys b6).bind fun x6 =>
  some x6
end Go.Proofs.YtlnhijgieblmgaaDoor

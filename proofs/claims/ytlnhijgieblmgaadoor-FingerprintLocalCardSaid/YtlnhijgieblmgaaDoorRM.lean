/-
  Models of: assessor/assessorref43.decimal, assessor/assessorref43.Sum, assessor/assessorref43.Symbols, assessor/assessorref43.reduce, assessor/assessorref43.Hash, assessor/assessorref43.Roll, assessor/assessorref43.Hashes, assessor/assessorref43.least, assessor/assessorref43.Winnow, assessor/assessorref43.Marks, assessor/assessorref43.has, assessor/assessorref43.Add, assessor/assessorref43.Shared, assessor/assessorref43.Same, assessor/assessorref35.Same, assessor/assessorref37.few, assessor/assessorref37.Few. (Printed by wip/sp/gen.py.)
-/
import Derived.Test.YtlnhijgieblmgaaDoorTy
import Derived.Test.YtlnhijgieblmgaaDoorLibD
set_option linter.unusedVariables false
set_option linter.unusedSimpArgs false
namespace Go.Proofs.YtlnhijgieblmgaaDoor
open Go.RowKit
noncomputable def m_assessorref43_decimal_body (self : Int → Option ByteArray) (p0 : Int) : Option ByteArray :=
  if (decide (p0 = (-9223372036854775808))) = true then
    some (ByteArray.mk #[45, 57, 50, 50, 51, 51, 55, 50, 48, 51, 54, 56, 53, 52, 55, 55, 53, 56, 48, 56])
  else
    if (decide (p0 < 0)) = true then
      (inK .i64 (0 - p0)).bind fun x1 =>
      (self x1).bind fun x2 =>
      (catK (ByteArray.mk #[45]) x2).bind fun x3 =>
      some x3
    else
      (remK p0 10).bind fun x4 =>
      (remK p0 10).bind fun x5 =>
      (inK .i64 (x5 + 1)).bind fun x6 =>
      (ssub (ByteArray.mk #[48, 49, 50, 51, 52, 53, 54, 55, 56, 57]) x4 x6).bind fun x7 =>
      if (decide (p0 < 10)) = true then
        some x7
      else
        (quoK .i64 p0 10).bind fun x8 =>
        (self x8).bind fun x9 =>
        (catK x9 x7).bind fun x10 =>
        some x10
noncomputable def m_assessorref43_decimal_r : Nat → Int → Option ByteArray
  | 0 => fun _ => none
  | n + 1 => m_assessorref43_decimal_body (m_assessorref43_decimal_r n)
noncomputable def m_assessorref43_decimal (p0 : Int) : Option ByteArray := m_assessorref43_decimal_r 21 p0
noncomputable def m_assessorref43_Sum_lp1 (p0 : ByteArray) (lp1_0 : Int) (lp1_1 : Int) : Option (Step (Int × Int) Int) :=
  if (decide (lp1_1 < (p0.size : Int))) = true then
    (sidx p0 lp1_1).bind fun x1 =>
    (inK .i64 x1).bind fun x2 =>
    (inK .i64 ((xorK .i64 lp1_0 x2) * 16777619)).bind fun x3 =>
    (remK x3 4294967296).bind fun x4 =>
    (inK .i64 (lp1_1 + 1)).bind fun x5 =>
    some (.next (x4, x5))
  else
    some (.done lp1_0)
noncomputable def m_assessorref43_Sum (p0 : ByteArray) : Option Int :=
  (loopM (fun s => m_assessorref43_Sum_lp1 p0 s.1 s.2) (2166136261, 0) : Option Int).bind fun b1 =>
  some b1
noncomputable def m_assessorref43_Symbols_body_lp1 (p0 : Node) (self : Node → Option (List Int)) (lp1_0 : Int) (lp1_1 : (List Int)) : Option (Step (Int × (List Int)) (List Int)) :=
  if (decide (lp1_0 < (p0.kids.length : Int))) = true then
    (idx p0.kids lp1_0).bind fun x5 =>
    (self x5).bind fun x6 =>
    (app lp1_1 x6).bind fun x7 =>
    (inK .i64 (lp1_0 + 1)).bind fun x8 =>
    some (.next (x8, x7))
  else
    some (.done lp1_1)
noncomputable def m_assessorref43_Symbols_body (self : Node → Option (List Int)) (p0 : Node) : Option (List Int) :=
  (m_assessorref43_decimal p0.kind).bind fun x1 =>
  (catK x1 (ByteArray.mk #[58])).bind fun x2 =>
  (catK x2 p0.text).bind fun x3 =>
  (m_assessorref43_Sum x3).bind fun x4 =>
  (loopM (fun s => m_assessorref43_Symbols_body_lp1 p0 self s.1 s.2) (0, ([x4] : List Int)) : Option (List Int)).bind fun b4 =>
  ((if (decide (0 < (p0.kids.length : Int))) = true then
    (app b4 [0]).bind fun x9 =>
    some x9
  else
    some b4) : Option (List Int)).bind fun j1 =>
  some j1
noncomputable def m_assessorref43_Symbols_r : Nat → Node → Option (List Int)
  | 0 => fun _ => none
  | n + 1 => m_assessorref43_Symbols_body (m_assessorref43_Symbols_r n)
noncomputable def m_assessorref43_Symbols (p0 : Node) : Option (List Int) := m_assessorref43_Symbols_r (SizeOf.sizeOf p0 + 1) p0
noncomputable def m_assessorref43_reduce (p0 : Int) : Option Int :=
  (remK p0 2147483647).bind fun x1 =>
  (inK .i64 (x1 + 2147483647)).bind fun x2 =>
  (remK x2 2147483647).bind fun x3 =>
  some x3
noncomputable def m_assessorref43_Hash_lp1 (p0 : (List Int)) (lp1_0 : Int) (lp1_1 : Int) : Option (Step (Int × Int) Int) :=
  if (decide (lp1_1 < (p0.length : Int))) = true then
    (inK .i64 (lp1_0 * 1000003)).bind fun x1 =>
    (idx p0 lp1_1).bind fun x2 =>
    (m_assessorref43_reduce x2).bind fun x3 =>
    (inK .i64 (x1 + x3)).bind fun x4 =>
    (remK x4 2147483647).bind fun x5 =>
    (inK .i64 (lp1_1 + 1)).bind fun x6 =>
    some (.next (x5, x6))
  else
    some (.done lp1_0)
noncomputable def m_assessorref43_Hash (p0 : (List Int)) : Option Int :=
  (loopM (fun s => m_assessorref43_Hash_lp1 p0 s.1 s.2) (0, 0) : Option Int).bind fun b1 =>
  some b1
noncomputable def m_assessorref43_Roll_lp1 (p3 : Int) (lp1_0 : Int) (lp1_1 : Int) : Option (Step (Int × Int) Int) :=
  if (decide (lp1_1 < p3)) = true then
    (inK .i64 (lp1_0 * 1000003)).bind fun x1 =>
    (remK x1 2147483647).bind fun x2 =>
    (inK .i64 (lp1_1 + 1)).bind fun x3 =>
    some (.next (x2, x3))
  else
    some (.done lp1_0)
noncomputable def m_assessorref43_Roll (p0 : Int) (p1 : Int) (p2 : Int) (p3 : Int) : Option (Int × Int) :=
  if ((((decide (p3 < 1)) || (decide (64 < p3))) || (decide (p0 < 0))) || (decide (2147483647 ≤ p0))) = true then
    some (0, 2)
  else
    (loopM (fun s => m_assessorref43_Roll_lp1 p3 s.1 s.2) (1, 1) : Option Int).bind fun b1 =>
    (m_assessorref43_reduce p1).bind fun x4 =>
    (inK .i64 (x4 * b1)).bind fun x5 =>
    (remK x5 2147483647).bind fun x6 =>
    (inK .i64 (p0 - x6)).bind fun x7 =>
    (m_assessorref43_reduce x7).bind fun x8 =>
    (inK .i64 (x8 * 1000003)).bind fun x9 =>
    (m_assessorref43_reduce p2).bind fun x10 =>
    (inK .i64 (x9 + x10)).bind fun x11 =>
    (remK x11 2147483647).bind fun x12 =>
    some (x12, 0)
noncomputable def m_assessorref43_Hashes_lp1 (p0 : (List Int)) (p1 : Int) (lp1_0 : Int) (lp1_1 : (List Int)) : Option (Step (Int × (List Int)) (List Int)) :=
  (inK .i64 (lp1_0 + p1)).bind fun x1 =>
  if (decide (x1 ≤ (p0.length : Int))) = true then
    (inK .i64 (lp1_0 + p1)).bind fun x2 =>
    (sub p0 lp1_0 x2).bind fun x3 =>
    (m_assessorref43_Hash x3).bind fun x4 =>
    (app lp1_1 [x4]).bind fun x5 =>
    (inK .i64 (lp1_0 + 1)).bind fun x6 =>
    some (.next (x6, x5))
  else
    some (.done lp1_1)
noncomputable def m_assessorref43_Hashes (p0 : (List Int)) (p1 : Int) : Option ((List Int) × Int) :=
  if ((decide (p1 < 1)) || (decide (64 < p1))) = true then
    some (([] : List Int), 2)
  else
    if (decide (2048 < (p0.length : Int))) = true then
      some (([] : List Int), 8)
    else
      (loopM (fun s => m_assessorref43_Hashes_lp1 p0 p1 s.1 s.2) (0, ([] : List Int)) : Option (List Int)).bind fun b4 =>
      some (b4, 0)
noncomputable def m_assessorref43_least_lp1 (p0 : (List Int)) (p2 : Int) (lp1_0 : Int) (lp1_1 : Int) : Option (Step (Int × Int) Int) :=
  if (decide (lp1_1 < p2)) = true then
    (idx p0 lp1_1).bind fun x1 =>
    (idx p0 lp1_0).bind fun x2 =>
    if (decide (x1 ≤ x2)) = true then
      (inK .i64 (lp1_1 + 1)).bind fun x3 =>
      some (.next (lp1_1, x3))
    else
      (inK .i64 (lp1_1 + 1)).bind fun x4 =>
      some (.next (lp1_0, x4))
  else
    some (.done lp1_0)
noncomputable def m_assessorref43_least (p0 : (List Int)) (p1 : Int) (p2 : Int) : Option Int :=
  (loopM (fun s => m_assessorref43_least_lp1 p0 p2 s.1 s.2) (p1, p1) : Option Int).bind fun b1 =>
  some b1
noncomputable def m_assessorref43_Winnow_lp1 (p0 : (List Int)) (p1 : Int) (lp1_0 : Int) (lp1_1 : (List Bool)) : Option (Step (Int × (List Bool)) (List Bool)) :=
  (inK .i64 (lp1_0 + p1)).bind fun x4 =>
  if (decide (x4 ≤ (p0.length : Int))) = true then
    (inK .i64 (lp1_0 + p1)).bind fun x5 =>
    (m_assessorref43_least p0 lp1_0 x5).bind fun x6 =>
    (idx lp1_1 x6).bind fun x7 =>
    (inK .i64 (lp1_0 + 1)).bind fun x8 =>
    some (.next (x8, lp1_1.set x6.toNat true))
  else
    some (.done lp1_1)
noncomputable def m_assessorref43_Winnow_lp2 (p0 : (List Int)) (b4 : (List Bool)) (lp2_0 : Int) (lp2_1 : (List Mark)) : Option (Step (Int × (List Mark)) (List Mark)) :=
  if (decide (lp2_0 < (p0.length : Int))) = true then
    (idx b4 lp2_0).bind fun x9 =>
    if x9 = true then
      (idx p0 lp2_0).bind fun x10 =>
      (app lp2_1 [(Mark.mk x10 lp2_0)]).bind fun x11 =>
      (inK .i64 (lp2_0 + 1)).bind fun x12 =>
      some (.next (x12, x11))
    else
      (inK .i64 (lp2_0 + 1)).bind fun x13 =>
      some (.next (x13, lp2_1))
  else
    some (.done lp2_1)
noncomputable def m_assessorref43_Winnow (p0 : (List Int)) (p1 : Int) : Option ((List Mark) × Int) :=
  if ((decide (p1 < 1)) || (decide (64 < p1))) = true then
    some (([] : List Mark), 2)
  else
    if (decide (2048 < (p0.length : Int))) = true then
      some (([] : List Mark), 8)
    else
      (mkc (p0.length : Int) (p0.length : Int) (false : Bool)).bind fun x1 =>
      ((if ((decide (0 < (p0.length : Int))) && (decide ((p0.length : Int) < p1))) = true then
        (m_assessorref43_least p0 0 (p0.length : Int)).bind fun x2 =>
        (idx x1 x2).bind fun x3 =>
        some (x1.set x2.toNat true)
      else
        some x1) : Option (List Bool)).bind fun j1 =>
      (loopM (fun s => m_assessorref43_Winnow_lp1 p0 p1 s.1 s.2) (0, j1) : Option (List Bool)).bind fun b4 =>
      (loopM (fun s => m_assessorref43_Winnow_lp2 p0 b4 s.1 s.2) (0, ([] : List Mark)) : Option (List Mark)).bind fun b7 =>
      some (b7, 0)
noncomputable def m_assessorref43_Marks (p0 : Node) (p1 : Int) (p2 : Int) : Option ((List Mark) × Int) :=
  if ((decide (p2 < 1)) || (decide (64 < p2))) = true then
    some (([] : List Mark), 2)
  else
    (m_assessorref43_Symbols p0).bind fun x1 =>
    (m_assessorref43_Hashes x1 p1).bind fun x2 =>
    if (!decide (x2.2 = 0)) = true then
      some (([] : List Mark), x2.2)
    else
      (m_assessorref43_Winnow x2.1 p2).bind fun x3 =>
      some (x3.1, x3.2)
noncomputable def m_assessorref43_has_lp1 (p0 : (List Mark)) (p1 : Int) (lp1_0 : Int) : Option (Step Int (Out Unit Bool)) :=
  if (decide (lp1_0 < (p0.length : Int))) = true then
    (idx p0 lp1_0).bind fun x1 =>
    if (decide (x1.hash = p1)) = true then
      some (.done (.ret true))
    else
      (inK .i64 (lp1_0 + 1)).bind fun x2 =>
      some (.next x2)
  else
    some (.done (.brk ()))
noncomputable def m_assessorref43_has (p0 : (List Mark)) (p1 : Int) : Option Bool :=
  (loopM (fun s => m_assessorref43_has_lp1 p0 p1 s) 0 : Option (Out Unit Bool)).bind fun b1 =>
  match b1 with
  | .brk b1s =>
    some false
  | .ret r => some r
noncomputable def m_assessorref43_Add_lp1 (p0 : (List Int)) (p1 : Int) (lp1_0 : Int) : Option (Step Int Int) :=
  ((if (decide (lp1_0 < (p0.length : Int))) = true then
    (idx p0 lp1_0).bind fun x1 =>
    some (decide (x1 < p1))
  else
    some false) : Option Bool).bind fun m1 =>
  if m1 = true then
    (inK .i64 (lp1_0 + 1)).bind fun x2 =>
    some (.next x2)
  else
    some (.done lp1_0)
noncomputable def m_assessorref43_Add (p0 : (List Int)) (p1 : Int) : Option (List Int) :=
  (loopM (fun s => m_assessorref43_Add_lp1 p0 p1 s) 0 : Option Int).bind fun b1 =>
  ((if (decide (b1 < (p0.length : Int))) = true then
    (idx p0 b1).bind fun x3 =>
    some (decide (x3 = p1))
  else
    some false) : Option Bool).bind fun m2 =>
  if m2 = true then
    some p0
  else
    (sub p0 0 b1).bind fun x4 =>
    (app ([] : List Int) x4).bind fun x5 =>
    (app x5 [p1]).bind fun x6 =>
    (sub p0 b1 (p0.length : Int)).bind fun x7 =>
    (app x6 x7).bind fun x8 =>
    some x8
noncomputable def m_assessorref43_Shared_lp1 (p0 : (List Mark)) (p1 : (List Mark)) (lp1_0 : Int) (lp1_1 : (List Int)) : Option (Step (Int × (List Int)) (List Int)) :=
  if (decide (lp1_0 < (p0.length : Int))) = true then
    (idx p0 lp1_0).bind fun x1 =>
    (m_assessorref43_has p1 x1.hash).bind fun x2 =>
    if x2 = true then
      (idx p0 lp1_0).bind fun x3 =>
      (m_assessorref43_Add lp1_1 x3.hash).bind fun x4 =>
      (inK .i64 (lp1_0 + 1)).bind fun x5 =>
      some (.next (x5, x4))
    else
      (inK .i64 (lp1_0 + 1)).bind fun x6 =>
      some (.next (x6, lp1_1))
  else
    some (.done lp1_1)
noncomputable def m_assessorref43_Shared (p0 : (List Mark)) (p1 : (List Mark)) : Option (List Int) :=
  (loopM (fun s => m_assessorref43_Shared_lp1 p0 p1 s.1 s.2) (0, ([] : List Int)) : Option (List Int)).bind fun b2 =>
  some b2
noncomputable def m_assessorref43_Same_lp1 (p0 : (List Mark)) (p1 : (List Mark)) (lp1_0 : Int) : Option (Step Int (Out Unit Bool)) :=
  if (decide (lp1_0 < (p0.length : Int))) = true then
    (idx p0 lp1_0).bind fun x1 =>
    (idx p1 lp1_0).bind fun x2 =>
    if (!((decide (x1.hash = x2.hash)) && (decide (x1.at_ = x2.at_)))) = true then
      some (.done (.ret false))
    else
      (inK .i64 (lp1_0 + 1)).bind fun x3 =>
      some (.next x3)
  else
    some (.done (.brk ()))
noncomputable def m_assessorref43_Same (p0 : (List Mark)) (p1 : (List Mark)) : Option Bool :=
  if (!decide ((p0.length : Int) = (p1.length : Int))) = true then
    some false
  else
    (loopM (fun s => m_assessorref43_Same_lp1 p0 p1 s) 0 : Option (Out Unit Bool)).bind fun b1 =>
    match b1 with
    | .brk b1s =>
      some true
    | .ret r => some r
noncomputable def m_assessorref35_Same_lp1 (p0 : (List Int)) (p1 : (List Int)) (lp1_0 : Int) : Option (Step Int (Out Unit Bool)) :=
  if (decide (lp1_0 < (p0.length : Int))) = true then
    (idx p0 lp1_0).bind fun x1 =>
    (idx p1 lp1_0).bind fun x2 =>
    if (!decide (x1 = x2)) = true then
      some (.done (.ret false))
    else
      (inK .i64 (lp1_0 + 1)).bind fun x3 =>
      some (.next x3)
  else
    some (.done (.brk ()))
noncomputable def m_assessorref35_Same (p0 : (List Int)) (p1 : (List Int)) : Option Bool :=
  if (!decide ((p0.length : Int) = (p1.length : Int))) = true then
    some false
  else
    (loopM (fun s => m_assessorref35_Same_lp1 p0 p1 s) 0 : Option (Out Unit Bool)).bind fun b1 =>
    match b1 with
    | .brk b1s =>
      some true
    | .ret r => some r
noncomputable def m_assessorref37_few_body_lp1 (p0 : Node) (self : Node → Int → Option Int) (lp1_0 : Int) (lp1_1 : Int) : Option (Step (Int × Int) Int) :=
  if ((decide (lp1_1 < (p0.kids.length : Int))) && (decide (0 ≤ lp1_0))) = true then
    (idx p0.kids lp1_1).bind fun x2 =>
    (self x2 lp1_0).bind fun x3 =>
    (inK .i64 (lp1_1 + 1)).bind fun x4 =>
    some (.next (x3, x4))
  else
    some (.done lp1_0)
noncomputable def m_assessorref37_few_body (self : Node → Int → Option Int) (p0 : Node) (p1 : Int) : Option Int :=
  if ((decide (p1 < 1)) || (decide (40 < (p0.text.size : Int)))) = true then
    some (-1)
  else
    (inK .i64 (p1 - 1)).bind fun x1 =>
    (loopM (fun s => m_assessorref37_few_body_lp1 p0 self s.1 s.2) (x1, 0) : Option Int).bind fun b2 =>
    some b2
noncomputable def m_assessorref37_few_r : Nat → Node → Int → Option Int
  | 0 => fun _ _ => none
  | n + 1 => m_assessorref37_few_body (m_assessorref37_few_r n)
noncomputable def m_assessorref37_few (p0 : Node) (p1 : Int) : Option Int := m_assessorref37_few_r (SizeOf.sizeOf p0 + 1) p0 p1
noncomputable def m_assessorref37_Few (p0 : Node) (p1 : Int) : Option Bool :=
  (m_assessorref37_few p0 p1).bind fun x1 =>
  some (decide (0 ≤ x1))
end Go.Proofs.YtlnhijgieblmgaaDoor

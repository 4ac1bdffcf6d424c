/-
  Models of: assessor/assessorref37.flat, assessor/assessorref37.table, assessor/assessorref37.forests. (Printed by wip/sp/gen.py.)
-/
import Derived.Test.YtnnccbagbgndpaaRM
set_option linter.unusedVariables false
set_option linter.unusedSimpArgs false
namespace Go.Proofs.Ytnnccbagbgndpaa
open Go.RowKit
noncomputable def m_assessorref37_flat_body_lp1 (p1 : Node) (self : RFlat → Node → Int → Option RFlat) (lp1_0 : Int) (lp1_1 : Int) (lp1_2 : (List Int)) (lp1_3 : (List ByteArray)) (lp1_4 : (List Int)) (lp1_5 : (List Int)) : Option (Step (Int × Int × (List Int) × (List ByteArray) × (List Int) × (List Int)) ((List Int) × (List ByteArray) × (List Int) × (List Int))) :=
  if (decide (lp1_1 < (p1.kids.length : Int))) = true then
    (idx p1.kids lp1_1).bind fun x2 =>
    (self (RFlat.mk lp1_2 lp1_3 lp1_4 lp1_5) x2 lp1_0).bind fun x3 =>
    (idx p1.kids lp1_1).bind fun x4 =>
    (m_assessorref37_Count x4).bind fun x5 =>
    (inK .i64 (lp1_0 + x5)).bind fun x6 =>
    (inK .i64 (lp1_1 + 1)).bind fun x7 =>
    some (.next (x6, x7, x3.kinds, x3.texts, x3.left, x3.numbers))
  else
    some (.done (lp1_2, lp1_3, lp1_4, lp1_5))
noncomputable def m_assessorref37_flat_body (self : RFlat → Node → Int → Option RFlat) (p0 : RFlat) (p1 : Node) (p2 : Int) : Option RFlat :=
  (inK .i64 (p2 + 1)).bind fun x1 =>
  (loopM (fun s => m_assessorref37_flat_body_lp1 p1 self s.1 s.2.1 s.2.2.1 s.2.2.2.1 s.2.2.2.2.1 s.2.2.2.2.2) (x1, 0, p0.kinds, p0.texts, p0.left, p0.numbers) : Option ((List Int) × (List ByteArray) × (List Int) × (List Int))).bind fun b4 =>
  (app b4.1 [p1.kind]).bind fun x8 =>
  (app b4.2.1 [p1.text]).bind fun x9 =>
  (app b4.2.2.1 [(p0.kinds.length : Int)]).bind fun x10 =>
  (app b4.2.2.2 [p2]).bind fun x11 =>
  some (RFlat.mk x8 x9 x10 x11)
noncomputable def m_assessorref37_flat_r : Nat → RFlat → Node → Int → Option RFlat
  | 0 => fun _ _ _ => none
  | n + 1 => m_assessorref37_flat_body (m_assessorref37_flat_r n)
noncomputable def m_assessorref37_flat (p0 : RFlat) (p1 : Node) (p2 : Int) : Option RFlat := m_assessorref37_flat_r (SizeOf.sizeOf p1 + 1) p0 p1 p2
noncomputable def m_assessorref37_table_lp1 (p0 : Int) (p1 : Int) (lp1_0 : Int) (lp1_1 : (List (List Int))) : Option (Step (Int × (List (List Int))) (List (List Int))) :=
  if (decide (lp1_0 < p0)) = true then
    (mkc p1 p1 (0 : Int)).bind fun x1 =>
    (app lp1_1 [x1]).bind fun x2 =>
    (inK .i64 (lp1_0 + 1)).bind fun x3 =>
    some (.next (x3, x2))
  else
    some (.done lp1_1)
noncomputable def m_assessorref37_table (p0 : Int) (p1 : Int) : Option (List (List Int)) :=
  (loopM (fun s => m_assessorref37_table_lp1 p0 p1 s.1 s.2) (0, []) : Option (List (List Int))).bind fun b2 =>
  some b2
noncomputable def m_assessorref37_forests_lp1 (p2 : Int) (x1 : Int) (lp1_0 : Int) (lp1_1 : (List (List Int))) : Option (Step (Int × (List (List Int))) (List (List Int))) :=
  (inK .i64 (p2 - x1)).bind fun x8 =>
  (inK .i64 (x8 + 1)).bind fun x9 =>
  if (decide (lp1_0 ≤ x9)) = true then
    (idx lp1_1 lp1_0).bind fun x10 =>
    (idx x10 0).bind fun x11 =>
    (inK .i64 (lp1_0 + 1)).bind fun x12 =>
    some (.next (x12, lp1_1.set lp1_0.toNat (x10.set (0 : Int).toNat lp1_0)))
  else
    some (.done lp1_1)
noncomputable def m_assessorref37_forests_lp2 (p3 : Int) (x2 : Int) (lp2_0 : Int) (lp2_1 : (List (List Int))) : Option (Step (Int × (List (List Int))) (List (List Int))) :=
  (inK .i64 (p3 - x2)).bind fun x13 =>
  (inK .i64 (x13 + 1)).bind fun x14 =>
  if (decide (lp2_0 ≤ x14)) = true then
    (idx lp2_1 0).bind fun x15 =>
    (idx x15 lp2_0).bind fun x16 =>
    (inK .i64 (lp2_0 + 1)).bind fun x17 =>
    some (.next (x17, lp2_1.set (0 : Int).toNat (x15.set lp2_0.toNat lp2_0)))
  else
    some (.done lp2_1)
noncomputable def m_assessorref37_forests_lp4 (p0 : RFlat) (p1 : RFlat) (p3 : Int) (x1 : Int) (x2 : Int) (lp3_0 : Int) (lp4_0 : Int) (lp4_1 : (List (List Int))) (lp4_2 : (List (List Int))) : Option (Step (Int × (List (List Int)) × (List (List Int))) ((List (List Int)) × (List (List Int)))) :=
  (inK .i64 (p3 - x2)).bind fun x20 =>
  (inK .i64 (x20 + 1)).bind fun x21 =>
  if (decide (lp4_0 ≤ x21)) = true then
    (inK .i64 (x1 + lp3_0)).bind fun x22 =>
    (inK .i64 (x22 - 1)).bind fun x23 =>
    (inK .i64 (x2 + lp4_0)).bind fun x24 =>
    (inK .i64 (x24 - 1)).bind fun x25 =>
    (inK .i64 (lp3_0 - 1)).bind fun x26 =>
    (idx lp4_1 x26).bind fun x27 =>
    (idx x27 lp4_0).bind fun x28 =>
    (idx lp4_1 lp3_0).bind fun x29 =>
    (inK .i64 (lp4_0 - 1)).bind fun x30 =>
    (idx x29 x30).bind fun x31 =>
    (inK .i64 ((min x28 x31) + 1)).bind fun x32 =>
    (idx p0.left x23).bind fun x33 =>
    ((if (decide (x33 = x1)) = true then
      (idx p1.left x25).bind fun x34 =>
      some (decide (x34 = x2))
    else
      some false) : Option Bool).bind fun m1 =>
    ((if m1 = true then
      (inK .i64 (lp3_0 - 1)).bind fun x35 =>
      (idx lp4_1 x35).bind fun x36 =>
      (inK .i64 (lp4_0 - 1)).bind fun x37 =>
      (idx x36 x37).bind fun x38 =>
      (idx p0.kinds x23).bind fun x39 =>
      (idx p1.kinds x25).bind fun x40 =>
      ((if (!decide (x39 = x40)) = true then
        some true
      else
        (idx p0.texts x23).bind fun x41 =>
        (idx p1.texts x25).bind fun x42 =>
        some (!decide (x41 = x42))) : Option Bool).bind fun m2 =>
      ((if m2 = true then
        (inK .i64 (x38 + 1)).bind fun x43 =>
        some x43
      else
        some x38) : Option Int).bind fun j2 =>
      (idx lp4_2 x23).bind fun x44 =>
      (idx x44 x25).bind fun x45 =>
      some (min x32 j2, lp4_2.set x23.toNat (x44.set x25.toNat (min x32 j2)))
    else
      (idx p0.left x23).bind fun x46 =>
      (inK .i64 (x46 - x1)).bind fun x47 =>
      (idx lp4_1 x47).bind fun x48 =>
      (idx p1.left x25).bind fun x49 =>
      (inK .i64 (x49 - x2)).bind fun x50 =>
      (idx x48 x50).bind fun x51 =>
      (idx lp4_2 x23).bind fun x52 =>
      (idx x52 x25).bind fun x53 =>
      (inK .i64 (x51 + x53)).bind fun x54 =>
      some (min x32 x54, lp4_2)) : Option (Int × (List (List Int)))).bind fun j1 =>
    (idx lp4_1 lp3_0).bind fun x55 =>
    (idx x55 lp4_0).bind fun x56 =>
    (inK .i64 (lp4_0 + 1)).bind fun x57 =>
    some (.next (x57, lp4_1.set lp3_0.toNat (x55.set lp4_0.toNat j1.1), j1.2))
  else
    some (.done (lp4_1, lp4_2))
noncomputable def m_assessorref37_forests_lp3 (p0 : RFlat) (p1 : RFlat) (p2 : Int) (p3 : Int) (x1 : Int) (x2 : Int) (lp3_0 : Int) (lp3_1 : (List (List Int))) (lp3_2 : (List (List Int))) : Option (Step (Int × (List (List Int)) × (List (List Int))) ((List (List Int)) × (List (List Int)))) :=
  (inK .i64 (p2 - x1)).bind fun x18 =>
  (inK .i64 (x18 + 1)).bind fun x19 =>
  if (decide (lp3_0 ≤ x19)) = true then
    (loopM (fun s => m_assessorref37_forests_lp4 p0 p1 p3 x1 x2 lp3_0 s.1 s.2.1 s.2.2) (1, lp3_1, lp3_2) : Option ((List (List Int)) × (List (List Int)))).bind fun b12 =>
    (inK .i64 (lp3_0 + 1)).bind fun x58 =>
    some (.next (x58, b12.1, b12.2))
  else
    some (.done (lp3_1, lp3_2))
noncomputable def m_assessorref37_forests (p0 : RFlat) (p1 : RFlat) (p2 : Int) (p3 : Int) (p4 : (List (List Int))) : Option (List (List Int)) :=
  (idx p0.left p2).bind fun x1 =>
  (idx p1.left p3).bind fun x2 =>
  (inK .i64 (p2 - x1)).bind fun x3 =>
  (inK .i64 (x3 + 2)).bind fun x4 =>
  (inK .i64 (p3 - x2)).bind fun x5 =>
  (inK .i64 (x5 + 2)).bind fun x6 =>
  (m_assessorref37_table x4 x6).bind fun x7 =>
  (loopM (fun s => m_assessorref37_forests_lp1 p2 x1 s.1 s.2) (1, x7) : Option (List (List Int))).bind fun b5 =>
  (loopM (fun s => m_assessorref37_forests_lp2 p3 x2 s.1 s.2) (1, b5) : Option (List (List Int))).bind fun b8 =>
  (loopM (fun s => m_assessorref37_forests_lp3 p0 p1 p2 p3 x1 x2 s.1 s.2.1 s.2.2) (1, b8, p4) : Option ((List (List Int)) × (List (List Int)))).bind fun b11 =>
  some b11.2
end Go.Proofs.Ytnnccbagbgndpaa

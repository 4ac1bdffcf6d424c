/-
  Models of: assessor/distance.large$1, slices.IndexFunc[[]assessor/api.Node,assessor/api.Node]@assessor/distance.large$1, slices.ContainsFunc[[]assessor/api.Node,assessor/api.Node]@assessor/distance.large$1, assessor/distance.large, assessor/distance.flatten$1, assessor/distance.flatten, (assessor/distance.flat).roots, assessor/distance.table, assessor/distance.filler, assessor/distance.filler$1. (Printed by wip/sp/gen.py.)
-/
import Derived.Test.YtnnccbagbgndpaaTy
import Derived.Test.YtnnccbagbgndpaaLibD
import Derived.Test.YtnnccbagbgndpaaTreeM
set_option linter.unusedVariables false
set_option linter.unusedSimpArgs false
namespace Go.Proofs.Ytnnccbagbgndpaa
open Go.RowKit
noncomputable def m_distance_large_1 (p0 : Node) : Option Bool :=
  (m_count p0).bind fun x1 =>
  some (decide (256 < x1))
noncomputable def m_slices_IndexFunc_distance_large_1_lp1 (p0 : (List Node)) (lp1_0 : Int) : Option (Step Int (Out Unit Int)) :=
  if (decide (lp1_0 < (p0.length : Int))) = true then
    (idx p0 lp1_0).bind fun x1 =>
    (m_distance_large_1 x1).bind fun x2 =>
    if x2 = true then
      some (.done (.ret lp1_0))
    else
      (inK .i64 (lp1_0 + 1)).bind fun x3 =>
      some (.next x3)
  else
    some (.done (.brk ()))
noncomputable def m_slices_IndexFunc_distance_large_1 (p0 : (List Node)) : Option Int :=
  (loopM (fun s => m_slices_IndexFunc_distance_large_1_lp1 p0 s) 0 : Option (Out Unit Int)).bind fun b1 =>
  match b1 with
  | .brk b1s =>
    some (-1)
  | .ret r => some r
noncomputable def m_slices_ContainsFunc_distance_large_1 (p0 : (List Node)) : Option Bool :=
  (m_slices_IndexFunc_distance_large_1 p0).bind fun x1 =>
  some (decide (0 ≤ x1))
noncomputable def m_distance_large (p0 : (List Node)) : Option Bool :=
  (m_slices_ContainsFunc_distance_large_1 p0).bind fun x1 =>
  some x1
noncomputable def m_distance_flatten_1_body_lp1 (p0 : Node) (self : Node → Int → DFlat → Option (Int × DFlat)) (lp1_0 : Int) (lp1_1 : Int) (lp1_2 : (List Lbl)) (lp1_3 : (List Int)) (lp1_4 : (List Int)) : Option (Step (Int × Int × (List Lbl) × (List Int) × (List Int)) (Int × (List Lbl) × (List Int) × (List Int))) :=
  if (decide (lp1_0 < (p0.kids.length : Int))) = true then
    (idx p0.kids lp1_0).bind fun x2 =>
    (self x2 lp1_1 (DFlat.mk lp1_2 lp1_3 lp1_4)).bind fun x3 =>
    (inK .i64 (lp1_0 + 1)).bind fun x4 =>
    some (.next (x4, x3.1, x3.2.labels, x3.2.left, x3.2.numbers))
  else
    some (.done (lp1_1, lp1_2, lp1_3, lp1_4))
noncomputable def m_distance_flatten_1_body (self : Node → Int → DFlat → Option (Int × DFlat)) (p0 : Node) (c0 : Int) (c1 : DFlat) : Option (Int × DFlat) :=
  (inK .i64 (c0 + 1)).bind fun x1 =>
  (loopM (fun s => m_distance_flatten_1_body_lp1 p0 self s.1 s.2.1 s.2.2.1 s.2.2.2.1 s.2.2.2.2) (0, x1, c1.labels, c1.left, c1.numbers) : Option (Int × (List Lbl) × (List Int) × (List Int))).bind fun b2 =>
  (app b2.2.1 [(Lbl.mk p0.kind p0.text)]).bind fun x5 =>
  (app b2.2.2.1 [(c1.labels.length : Int)]).bind fun x6 =>
  (app b2.2.2.2 [c0]).bind fun x7 =>
  some (b2.1, (DFlat.mk x5 x6 x7))
noncomputable def m_distance_flatten_1_r : Nat → Node → Int → DFlat → Option (Int × DFlat)
  | 0 => fun _ _ _ => none
  | n + 1 => m_distance_flatten_1_body (m_distance_flatten_1_r n)
noncomputable def m_distance_flatten_1 (p0 : Node) (c0 : Int) (c1 : DFlat) : Option (Int × DFlat) := m_distance_flatten_1_r (SizeOf.sizeOf p0 + 1) p0 c0 c1
noncomputable def m_distance_flatten (p0 : Node) : Option DFlat :=
  (m_distance_flatten_1 p0 0 (DFlat.mk ([]) ([]) ([]))).bind fun x1 =>
  some x1.2
noncomputable def m_distance_flat_roots_lp1 (p0 : DFlat) (lp1_0 : Int) (lp1_1 : (List (Int × Int))) : Option (Step (Int × (List (Int × Int))) (List (Int × Int))) :=
  if (decide (lp1_0 < (p0.left.length : Int))) = true then
    (idx p0.left lp1_0).bind fun x1 =>
    (inK .i64 (lp1_0 + 1)).bind fun x2 =>
    some (.next (x2, mput lp1_1 x1 lp1_0))
  else
    some (.done lp1_1)
noncomputable def m_distance_flat_roots (p0 : DFlat) : Option (List Int) :=
  (loopM (fun s => m_distance_flat_roots_lp1 p0 s.1 s.2) (0, []) : Option (List (Int × Int))).bind fun b3 =>
  (m_sortedVals b3).bind fun x3 =>
  some x3
noncomputable def m_distance_table_lp1 (p1 : Int) (x1 : (List (List Int))) (lp1_0 : Int) (lp1_1 : (List (List Int))) : Option (Step (Int × (List (List Int))) (List (List Int))) :=
  if (decide (lp1_0 < (x1.length : Int))) = true then
    (mkc p1 p1 (0 : Int)).bind fun x2 =>
    (idx lp1_1 lp1_0).bind fun x3 =>
    (inK .i64 (lp1_0 + 1)).bind fun x4 =>
    some (.next (x4, lp1_1.set lp1_0.toNat x2))
  else
    some (.done lp1_1)
noncomputable def m_distance_table (p0 : Int) (p1 : Int) : Option (List (List Int)) :=
  (mkc p0 p0 ([] : (List Int))).bind fun x1 =>
  (loopM (fun s => m_distance_table_lp1 p1 x1 s.1 s.2) (0, x1) : Option (List (List Int))).bind fun b1 =>
  some b1
noncomputable def m_distance_filler (p0 : DFlat) (p1 : DFlat) (p2 : (List (List Int))) : Option (List (List Int)) :=
  some p2
noncomputable def m_distance_filler_1_lp1 (x7 : (List (List Int))) (lp1_0 : Int) (lp1_1 : (List (List Int))) : Option (Step (Int × (List (List Int))) (List (List Int))) :=
  if (decide (lp1_0 < (x7.length : Int))) = true then
    (idx lp1_1 lp1_0).bind fun x8 =>
    (idx x8 0).bind fun x9 =>
    (inK .i64 (lp1_0 + 1)).bind fun x10 =>
    some (.next (x10, lp1_1.set lp1_0.toNat (x8.set (0 : Int).toNat lp1_0)))
  else
    some (.done lp1_1)
noncomputable def m_distance_filler_1_lp2 (x11 : (List Int)) (lp2_0 : Int) (lp2_1 : (List (List Int))) : Option (Step (Int × (List (List Int))) (List (List Int))) :=
  if (decide (lp2_0 < (x11.length : Int))) = true then
    (idx lp2_1 0).bind fun x12 =>
    (idx x12 lp2_0).bind fun x13 =>
    (inK .i64 (lp2_0 + 1)).bind fun x14 =>
    some (.next (x14, lp2_1.set (0 : Int).toNat (x12.set lp2_0.toNat lp2_0)))
  else
    some (.done lp2_1)
noncomputable def m_distance_filler_1_lp4 (p1 : Int) (c0 : DFlat) (c1 : DFlat) (x1 : Int) (x2 : Int) (lp3_0 : Int) (lp4_0 : Int) (lp4_1 : (List (List Int))) (lp4_2 : (List (List Int))) : Option (Step (Int × (List (List Int)) × (List (List Int))) ((List (List Int)) × (List (List Int)))) :=
  if (decide (lp4_0 ≤ p1)) = true then
    (((inK .i64 (lp3_0 - x1)).bind fun x15 =>
    (inK .i64 (x15 + 1)).bind fun x16 =>
    (inK .i64 (lp4_0 - x2)).bind fun x17 =>
    (inK .i64 (x17 + 1)).bind fun x18 =>
    (inK .i64 (x16 - 1)).bind fun x19 =>
    (idx lp4_1 x19).bind fun x20 =>
    (idx x20 x18).bind fun x21 =>
    (idx lp4_1 x16).bind fun x22 =>
    (inK .i64 (x18 - 1)).bind fun x23 =>
    (idx x22 x23).bind fun x24 =>
    (inK .i64 ((min x21 x24) + 1)).bind fun x25 =>
    (idx c0.left lp3_0).bind fun x26 =>
    ((if (!decide (x26 = x1)) = true then
      some true
    else
      (idx c1.left lp4_0).bind fun x27 =>
      some (!decide (x27 = x2))) : Option Bool).bind fun m1 =>
    if m1 = true then
      (idx lp4_1 x16).bind fun x28 =>
      (idx c0.left lp3_0).bind fun x29 =>
      (inK .i64 (x29 - x1)).bind fun x30 =>
      (idx lp4_1 x30).bind fun x31 =>
      (idx c1.left lp4_0).bind fun x32 =>
      (inK .i64 (x32 - x2)).bind fun x33 =>
      (idx x31 x33).bind fun x34 =>
      (idx lp4_2 lp3_0).bind fun x35 =>
      (idx x35 lp4_0).bind fun x36 =>
      (inK .i64 (x34 + x36)).bind fun x37 =>
      (idx x28 x18).bind fun x38 =>
      some (lp4_1.set x16.toNat (x28.set x18.toNat (min x25 x37)), lp4_2)
    else
      (inK .i64 (x16 - 1)).bind fun x39 =>
      (idx lp4_1 x39).bind fun x40 =>
      (inK .i64 (x18 - 1)).bind fun x41 =>
      (idx x40 x41).bind fun x42 =>
      (idx c0.labels lp3_0).bind fun x43 =>
      (idx c1.labels lp4_0).bind fun x44 =>
      ((if (!((decide (x43.kind = x44.kind)) && (decide (x43.text = x44.text)))) = true then
        (inK .i64 (x42 + 1)).bind fun x45 =>
        some x45
      else
        some x42) : Option Int).bind fun j2 =>
      (idx lp4_1 x16).bind fun x46 =>
      (idx x46 x18).bind fun x47 =>
      (idx lp4_2 lp3_0).bind fun x48 =>
      (idx (lp4_1.set x16.toNat (x46.set x18.toNat (min x25 j2))) x16).bind fun x49 =>
      (idx x49 x18).bind fun x50 =>
      (idx x48 lp4_0).bind fun x51 =>
      some (lp4_1.set x16.toNat (x46.set x18.toNat (min x25 j2)), lp4_2.set lp3_0.toNat (x48.set lp4_0.toNat x50))) : Option ((List (List Int)) × (List (List Int)))).bind fun j1 =>
    (inK .i64 (lp4_0 + 1)).bind fun x52 =>
    some (.next (x52, j1.1, j1.2))
  else
    some (.done (lp4_1, lp4_2))
noncomputable def m_distance_filler_1_lp3 (p0 : Int) (p1 : Int) (c0 : DFlat) (c1 : DFlat) (x1 : Int) (x2 : Int) (lp3_0 : Int) (lp3_1 : (List (List Int))) (lp3_2 : (List (List Int))) : Option (Step (Int × (List (List Int)) × (List (List Int))) ((List (List Int)) × (List (List Int)))) :=
  if (decide (lp3_0 ≤ p0)) = true then
    (loopM (fun s => m_distance_filler_1_lp4 p1 c0 c1 x1 x2 lp3_0 s.1 s.2.1 s.2.2) (x2, lp3_1, lp3_2) : Option ((List (List Int)) × (List (List Int)))).bind fun b11 =>
    (inK .i64 (lp3_0 + 1)).bind fun x53 =>
    some (.next (x53, b11.1, b11.2))
  else
    some (.done (lp3_1, lp3_2))
noncomputable def m_distance_filler_1 (p0 : Int) (p1 : Int) (c0 : DFlat) (c1 : DFlat) (c2 : (List (List Int))) : Option (List (List Int)) :=
  (idx c0.left p0).bind fun x1 =>
  (idx c1.left p1).bind fun x2 =>
  (inK .i64 (p0 - x1)).bind fun x3 =>
  (inK .i64 (x3 + 2)).bind fun x4 =>
  (inK .i64 (p1 - x2)).bind fun x5 =>
  (inK .i64 (x5 + 2)).bind fun x6 =>
  (m_distance_table x4 x6).bind fun x7 =>
  (loopM (fun s => m_distance_filler_1_lp1 x7 s.1 s.2) (0, x7) : Option (List (List Int))).bind fun b3 =>
  (idx b3 0).bind fun x11 =>
  (loopM (fun s => m_distance_filler_1_lp2 x11 s.1 s.2) (0, b3) : Option (List (List Int))).bind fun b7 =>
  (loopM (fun s => m_distance_filler_1_lp3 p0 p1 c0 c1 x1 x2 s.1 s.2.1 s.2.2) (x1, b7, c2) : Option ((List (List Int)) × (List (List Int)))).bind fun b10 =>
  some b10.2
end Go.Proofs.Ytnnccbagbgndpaa

/-
  Models of: assessor/distance.subtrees, assessor/distance.Distance, assessor/distance.Within, assessor/distance.Matrix, assessor/distance.Nearest, assessor/distance.Subtrees, assessor/distance.Bound. (Printed by wip/sp/gen.py.)
-/
import Derived.Test.YtnnccbagbgndpaaDM
set_option linter.unusedVariables false
set_option linter.unusedSimpArgs false
namespace Go.Proofs.Ytnnccbagbgndpaa
open Go.RowKit
noncomputable def m_distance_subtrees_lp2 (x1 : DFlat) (x2 : DFlat) (x6 : Int) (x7 : (List Int)) (lp2_0 : Int) (lp2_1 : (List (List Int))) : Option (Step (Int × (List (List Int))) (List (List Int))) :=
  if (decide (lp2_0 < (x7.length : Int))) = true then
    (idx x7 lp2_0).bind fun x8 =>
    (m_distance_filler_1 x6 x8 x1 x2 lp2_1).bind fun x9 =>
    (inK .i64 (lp2_0 + 1)).bind fun x10 =>
    some (.next (x10, x9))
  else
    some (.done lp2_1)
noncomputable def m_distance_subtrees_lp1 (x1 : DFlat) (x2 : DFlat) (x5 : (List Int)) (lp1_0 : Int) (lp1_1 : (List (List Int))) : Option (Step (Int × (List (List Int))) (List (List Int))) :=
  if (decide (lp1_0 < (x5.length : Int))) = true then
    (idx x5 lp1_0).bind fun x6 =>
    (m_distance_flat_roots x2).bind fun x7 =>
    (loopM (fun s => m_distance_subtrees_lp2 x1 x2 x6 x7 s.1 s.2) (0, lp1_1) : Option (List (List Int))).bind fun b28 =>
    (inK .i64 (lp1_0 + 1)).bind fun x11 =>
    some (.next (x11, b28))
  else
    some (.done lp1_1)
noncomputable def m_distance_subtrees_lp4 (x1 : DFlat) (x2 : DFlat) (lp3_0 : Int) (x13 : (List Int)) (lp4_0 : Int) (lp4_1 : (List (List Int))) : Option (Step (Int × (List (List Int))) (List (List Int))) :=
  if (decide (lp4_0 < (x13.length : Int))) = true then
    (idx x13 lp4_0).bind fun x14 =>
    (idx x1.numbers lp3_0).bind fun x15 =>
    (idx lp4_1 x15).bind fun x16 =>
    (idx x2.numbers lp4_0).bind fun x17 =>
    (idx x16 x17).bind fun x18 =>
    (inK .i64 (lp4_0 + 1)).bind fun x19 =>
    some (.next (x19, lp4_1.set x15.toNat (x16.set x17.toNat x14)))
  else
    some (.done lp4_1)
noncomputable def m_distance_subtrees_lp3 (x1 : DFlat) (x2 : DFlat) (b26 : (List (List Int))) (lp3_0 : Int) (lp3_1 : (List (List Int))) : Option (Step (Int × (List (List Int))) (List (List Int))) :=
  if (decide (lp3_0 < (b26.length : Int))) = true then
    (idx b26 lp3_0).bind fun x13 =>
    (loopM (fun s => m_distance_subtrees_lp4 x1 x2 lp3_0 x13 s.1 s.2) (0, lp3_1) : Option (List (List Int))).bind fun b32 =>
    (inK .i64 (lp3_0 + 1)).bind fun x20 =>
    some (.next (x20, b32))
  else
    some (.done lp3_1)
noncomputable def m_distance_subtrees (p0 : Node) (p1 : Node) : Option (List (List Int)) :=
  (m_distance_flatten p0).bind fun x1 =>
  (m_distance_flatten p1).bind fun x2 =>
  (m_distance_table (x1.labels.length : Int) (x2.labels.length : Int)).bind fun x3 =>
  (m_distance_filler x1 x2 x3).bind fun x4 =>
  (m_distance_flat_roots x1).bind fun x5 =>
  (loopM (fun s => m_distance_subtrees_lp1 x1 x2 x5 s.1 s.2) (0, x4) : Option (List (List Int))).bind fun b26 =>
  (m_distance_table (x1.labels.length : Int) (x2.labels.length : Int)).bind fun x12 =>
  (loopM (fun s => m_distance_subtrees_lp3 x1 x2 b26 s.1 s.2) (0, x12) : Option (List (List Int))).bind fun b30 =>
  some b30
noncomputable def m_distance_Distance (p0 : Node) (p1 : Node) : Option (Int × Int) :=
  (m_distance_large ([p0, p1] : List Node)).bind fun x1 =>
  if x1 = true then
    some (0, 8)
  else
    (m_distance_subtrees p0 p1).bind fun x2 =>
    (idx x2 0).bind fun x3 =>
    (idx x3 0).bind fun x4 =>
    some (x4, 0)
noncomputable def m_distance_Within (p0 : Node) (p1 : Node) (p2 : Int) : Option (Bool × Int) :=
  (m_distance_Distance p0 p1).bind fun x1 =>
  some ((decide (x1.2 = 0)) && (decide (x1.1 ≤ p2)), x1.2)
noncomputable def m_distance_Matrix_lp2 (p0 : (List Node)) (lp1_0 : Int) (lp2_0 : Int) (lp2_1 : (List (List Int))) : Option (Step (Int × (List (List Int))) (List (List Int))) :=
  if (decide (lp2_0 < lp1_0)) = true then
    (idx lp2_1 lp1_0).bind fun x3 =>
    (idx p0 lp1_0).bind fun x4 =>
    (idx p0 lp2_0).bind fun x5 =>
    (m_distance_subtrees x4 x5).bind fun x6 =>
    (idx x6 0).bind fun x7 =>
    (idx x7 0).bind fun x8 =>
    (idx x3 lp2_0).bind fun x9 =>
    (idx (lp2_1.set lp1_0.toNat (x3.set lp2_0.toNat x8)) lp2_0).bind fun x10 =>
    (idx (lp2_1.set lp1_0.toNat (x3.set lp2_0.toNat x8)) lp1_0).bind fun x11 =>
    (idx x11 lp2_0).bind fun x12 =>
    (idx x10 lp1_0).bind fun x13 =>
    (inK .i64 (lp2_0 + 1)).bind fun x14 =>
    some (.next (x14, (lp2_1.set lp1_0.toNat (x3.set lp2_0.toNat x8)).set lp2_0.toNat (x10.set lp1_0.toNat x12)))
  else
    some (.done lp2_1)
noncomputable def m_distance_Matrix_lp1 (p0 : (List Node)) (lp1_0 : Int) (lp1_1 : (List (List Int))) : Option (Step (Int × (List (List Int))) (List (List Int))) :=
  if (decide (lp1_0 < (p0.length : Int))) = true then
    (loopM (fun s => m_distance_Matrix_lp2 p0 lp1_0 s.1 s.2) (0, lp1_1) : Option (List (List Int))).bind fun b2 =>
    (inK .i64 (lp1_0 + 1)).bind fun x15 =>
    some (.next (x15, b2))
  else
    some (.done lp1_1)
noncomputable def m_distance_Matrix (p0 : (List Node)) : Option ((List (List Int)) × Int) :=
  ((if (decide (1024 < (p0.length : Int))) = true then
    some true
  else
    (m_distance_large p0).bind fun x1 =>
    some x1) : Option Bool).bind fun m1 =>
  if m1 = true then
    some ([], 8)
  else
    (m_distance_table (p0.length : Int) (p0.length : Int)).bind fun x2 =>
    (loopM (fun s => m_distance_Matrix_lp1 p0 s.1 s.2) (0, x2) : Option (List (List Int))).bind fun b1 =>
    some (b1, 0)
noncomputable def m_distance_Nearest_lp1 (p0 : Node) (p1 : (List Node)) (lp1_0 : Int) (lp1_1 : Int) (lp1_2 : Int) : Option (Step (Int × Int × Int) (Int × Int)) :=
  if (decide (lp1_2 < (p1.length : Int))) = true then
    (idx p1 lp1_2).bind fun x3 =>
    (m_distance_subtrees p0 x3).bind fun x4 =>
    (idx x4 0).bind fun x5 =>
    (idx x5 0).bind fun x6 =>
    if ((decide (lp1_1 < 0)) || (decide (x6 < lp1_1))) = true then
      (inK .i64 (lp1_2 + 1)).bind fun x7 =>
      some (.next (lp1_2, x6, x7))
    else
      (inK .i64 (lp1_2 + 1)).bind fun x8 =>
      some (.next (lp1_0, lp1_1, x8))
  else
    some (.done (lp1_0, lp1_1))
noncomputable def m_distance_Nearest (p0 : Node) (p1 : (List Node)) : Option (Int × Int × Int) :=
  ((if (decide (1024 < (p1.length : Int))) = true then
    some true
  else
    (m_distance_large ([p0] : List Node)).bind fun x1 =>
    some x1) : Option Bool).bind fun m1 =>
  ((if m1 = true then
    some true
  else
    (m_distance_large p1).bind fun x2 =>
    some x2) : Option Bool).bind fun m2 =>
  if m2 = true then
    some (0, 0, 8)
  else
    if (decide ((p1.length : Int) = 0)) = true then
      some (0, 0, 7)
    else
      (loopM (fun s => m_distance_Nearest_lp1 p0 p1 s.1 s.2.1 s.2.2) (0, (-1), 0) : Option (Int × Int)).bind fun b3 =>
      some (b3.1, b3.2, 0)
noncomputable def m_distance_Subtrees (p0 : Node) (p1 : Node) : Option ((List (List Int)) × Int) :=
  (m_distance_large ([p0, p1] : List Node)).bind fun x1 =>
  if x1 = true then
    some ([], 8)
  else
    (m_distance_subtrees p0 p1).bind fun x2 =>
    some (x2, 0)
noncomputable def m_distance_Bound_lp1 (x1 : DFlat) (lp1_0 : Int) (lp1_1 : (List (Lbl × Int))) : Option (Step (Int × (List (Lbl × Int))) (List (Lbl × Int))) :=
  if (decide (lp1_0 < (x1.labels.length : Int))) = true then
    (idx x1.labels lp1_0).bind fun x3 =>
    (inK .i64 (((mget (lp1_1 : List (Lbl × Int)) x3).getD 0) + 1)).bind fun x4 =>
    (inK .i64 (lp1_0 + 1)).bind fun x5 =>
    some (.next (x5, mput (mput lp1_1 x3 ((mget (lp1_1 : List (Lbl × Int)) x3).getD 0)) x3 x4))
  else
    some (.done lp1_1)
noncomputable def m_distance_Bound_lp2 (x2 : DFlat) (lp2_0 : Int) (lp2_1 : Int) (lp2_2 : (List (Lbl × Int))) : Option (Step (Int × Int × (List (Lbl × Int))) (Int × (List (Lbl × Int)))) :=
  if (decide (lp2_1 < (x2.labels.length : Int))) = true then
    (idx x2.labels lp2_1).bind fun x6 =>
    if (decide (0 < ((mget (lp2_2 : List (Lbl × Int)) x6).getD 0))) = true then
      (inK .i64 (((mget (lp2_2 : List (Lbl × Int)) x6).getD 0) - 1)).bind fun x7 =>
      (inK .i64 (lp2_0 + 1)).bind fun x8 =>
      (inK .i64 (lp2_1 + 1)).bind fun x9 =>
      some (.next (x8, x9, mput (mput lp2_2 x6 ((mget (lp2_2 : List (Lbl × Int)) x6).getD 0)) x6 x7))
    else
      (inK .i64 (lp2_1 + 1)).bind fun x10 =>
      some (.next (lp2_0, x10, lp2_2))
  else
    some (.done (lp2_0, lp2_2))
noncomputable def m_distance_Bound (p0 : Node) (p1 : Node) : Option Int :=
  (m_distance_flatten p0).bind fun x1 =>
  (m_distance_flatten p1).bind fun x2 =>
  (loopM (fun s => m_distance_Bound_lp1 x1 s.1 s.2) (0, []) : Option (List (Lbl × Int))).bind fun b4 =>
  (loopM (fun s => m_distance_Bound_lp2 x2 s.1 s.2.1 s.2.2) (0, 0, b4) : Option (Int × (List (Lbl × Int)))).bind fun b7 =>
  (inK .i64 ((max (x1.labels.length : Int) (x2.labels.length : Int)) - b7.1)).bind fun x11 =>
  some x11
end Go.Proofs.Ytnnccbagbgndpaa

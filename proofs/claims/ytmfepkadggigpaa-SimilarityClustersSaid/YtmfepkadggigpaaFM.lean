/-
  Models of: assessor/similarity.set, assessor/similarity.Hashes, assessor/similarity.Compare, slices.Clone[[]assessor/api.Mark,assessor/api.Mark], slices.Index[[]int,int], slices.Contains[[]int,int], assessor/similarity.Without$1, slices.IndexFunc[[]assessor/api.Mark,assessor/api.Mark]@assessor/similarity.Without$1, slices.DeleteFunc[[]assessor/api.Mark,assessor/api.Mark]@assessor/similarity.Without$1, assessor/similarity.Without, assessor/similarity.Frequent, assessor/similarity.Pairs. (Printed by wip/sp/gen.py.)
-/
import Derived.Test.YtmfepkadggigpaaLibP
set_option linter.unusedVariables false
set_option linter.unusedSimpArgs false
namespace Go.Proofs.Ytmfepkadggigpaa
open Go.RowKit
noncomputable def m_similarity_set_lp1 (p0 : (List Mark)) (lp1_0 : Int) (lp1_1 : (List (Int × Bool))) : Option (Step (Int × (List (Int × Bool))) (List (Int × Bool))) :=
  if (decide (lp1_0 < (p0.length : Int))) = true then
    (idx p0 lp1_0).bind fun x1 =>
    (inK .i64 (lp1_0 + 1)).bind fun x2 =>
    some (.next (x2, mput lp1_1 x1.hash true))
  else
    some (.done lp1_1)
noncomputable def m_similarity_set (p0 : (List Mark)) : Option (List (Int × Bool)) :=
  (loopM (fun s => m_similarity_set_lp1 p0 s.1 s.2) (0, []) : Option (List (Int × Bool))).bind fun b2 =>
  some b2
noncomputable def m_similarity_Hashes (p0 : (List Mark)) : Option (List Int) :=
  (m_similarity_set p0).bind fun x1 =>
  (m_sortedKeys x1).bind fun x2 =>
  some x2
noncomputable def m_similarity_Compare_lp1 (x2 : (List (Int × Bool))) (en1 : (Int × Bool)) (lp1_0 : Int) : Option (Step Int Int) :=
  if ((mget (x2 : List (Int × Bool)) en1.1).getD false) = true then
    (inK .i64 (lp1_0 + 1)).bind fun x3 =>
    some (.next x3)
  else
    some (.next lp1_0)
noncomputable def m_similarity_Compare (p0 : (List Mark)) (p1 : (List Mark)) : Option (Int × Int) :=
  (m_similarity_set p0).bind fun x1 =>
  (m_similarity_set p1).bind fun x2 =>
  (permM x1 (fun p => foldP (fun e s => m_similarity_Compare_lp1 x2 e s) (fun s => some s) p 0) : Option Int).bind fun b2 =>
  (inK .i64 ((x1.length : Int) + (x2.length : Int))).bind fun x4 =>
  (inK .i64 (x4 - b2)).bind fun x5 =>
  some (b2, x5)
noncomputable def m_slices_Index_int_int__lp1 (p0 : (List Int)) (p1 : Int) (lp1_0 : Int) : Option (Step Int (Out Unit Int)) :=
  if (decide (lp1_0 < (p0.length : Int))) = true then
    (idx p0 lp1_0).bind fun x1 =>
    if (decide (p1 = x1)) = true then
      some (.done (.ret lp1_0))
    else
      (inK .i64 (lp1_0 + 1)).bind fun x2 =>
      some (.next x2)
  else
    some (.done (.brk ()))
noncomputable def m_slices_Index_int_int_ (p0 : (List Int)) (p1 : Int) : Option Int :=
  (loopM (fun s => m_slices_Index_int_int__lp1 p0 p1 s) 0 : Option (Out Unit Int)).bind fun b1 =>
  match b1 with
  | .brk b1s =>
    some (-1)
  | .ret r => some r
noncomputable def m_slices_Contains_int_int_ (p0 : (List Int)) (p1 : Int) : Option Bool :=
  (m_slices_Index_int_int_ p0 p1).bind fun x1 =>
  some (decide (0 ≤ x1))
noncomputable def m_similarity_Without_1 (p0 : Mark) (c0 : (List Int)) : Option Bool :=
  (m_slices_Contains_int_int_ c0 p0.hash).bind fun x1 =>
  some x1
noncomputable def m_slices_IndexFunc_similarity_Without_1_lp1 (p0 : (List Mark)) (p1c0 : (List Int)) (lp1_0 : Int) : Option (Step Int (Out Unit Int)) :=
  if (decide (lp1_0 < (p0.length : Int))) = true then
    (idx p0 lp1_0).bind fun x1 =>
    (m_similarity_Without_1 x1 p1c0).bind fun x2 =>
    if x2 = true then
      some (.done (.ret lp1_0))
    else
      (inK .i64 (lp1_0 + 1)).bind fun x3 =>
      some (.next x3)
  else
    some (.done (.brk ()))
noncomputable def m_slices_IndexFunc_similarity_Without_1 (p0 : (List Mark)) (p1c0 : (List Int)) : Option Int :=
  (loopM (fun s => m_slices_IndexFunc_similarity_Without_1_lp1 p0 p1c0 s) 0 : Option (Out Unit Int)).bind fun b1 =>
  match b1 with
  | .brk b1s =>
    some (-1)
  | .ret r => some r
noncomputable def m_slices_DeleteFunc_similarity_Without_1_lp1 (p1c0 : (List Int)) (lp1_0 : Int) (lp1_1 : Int) (lp1_2 : (List Mark)) : Option (Step (Int × Int × (List Mark)) (Int × (List Mark))) :=
  if (decide (lp1_1 < (lp1_2.length : Int))) = true then
    (idx lp1_2 lp1_1).bind fun x3 =>
    (m_similarity_Without_1 x3 p1c0).bind fun x4 =>
    if (!x4) = true then
      (idx lp1_2 lp1_0).bind fun x5 =>
      (inK .i64 (lp1_0 + 1)).bind fun x6 =>
      (inK .i64 (lp1_1 + 1)).bind fun x7 =>
      some (.next (x6, x7, lp1_2.set lp1_0.toNat x3))
    else
      (inK .i64 (lp1_1 + 1)).bind fun x8 =>
      some (.next (lp1_0, x8, lp1_2))
  else
    some (.done (lp1_0, lp1_2))
noncomputable def m_slices_DeleteFunc_similarity_Without_1 (p0 : (List Mark)) (p1c0 : (List Int)) : Option (List Mark) :=
  (m_slices_IndexFunc_similarity_Without_1 p0 p1c0).bind fun x1 =>
  if (decide (x1 = (-1))) = true then
    some p0
  else
    (inK .i64 (x1 + 1)).bind fun x2 =>
    (loopM (fun s => m_slices_DeleteFunc_similarity_Without_1_lp1 p1c0 s.1 s.2.1 s.2.2) (x1, x2, p0) : Option (Int × (List Mark))).bind fun b1 =>
    (sub b1.2 b1.1 (b1.2.length : Int)).bind fun x9 =>
    some (b1.2.take b1.1.toNat)
noncomputable def m_similarity_Without (p0 : (List Mark)) (p1 : (List Int)) : Option (List Mark) :=
  (app [] p0).bind fun x1 =>
  (m_slices_DeleteFunc_similarity_Without_1 x1 p1).bind fun x2 =>
  some x2
noncomputable def m_similarity_Frequent_lp2 (en1 : (Int × Bool)) (lp2_0 : (List (Int × Int))) : Option (Step (List (Int × Int)) (List (Int × Int))) :=
  (inK .i64 (((mget (lp2_0 : List (Int × Int)) en1.1).getD 0) + 1)).bind fun x3 =>
  some (.next (sput lp2_0 en1.1 x3))
noncomputable def m_similarity_Frequent_lp1 (p1 : (List (List Mark))) (lp1_0 : Int) (lp1_1 : (List (Int × Int))) : Option (Step (Int × (List (Int × Int))) (List (Int × Int))) :=
  if (decide (lp1_0 < (p1.length : Int))) = true then
    (idx p1 lp1_0).bind fun x1 =>
    (m_similarity_set x1).bind fun x2 =>
    (permM x2 (fun p => foldP (fun e s => m_similarity_Frequent_lp2  e s) (fun s => some s) p lp1_1) : Option (List (Int × Int))).bind fun b6 =>
    (inK .i64 (lp1_0 + 1)).bind fun x4 =>
    some (.next (x4, b6))
  else
    some (.done lp1_1)
noncomputable def m_similarity_Frequent (p0 : Int) (p1 : (List (List Mark))) : Option (List Int) :=
  (loopM (fun s => m_similarity_Frequent_lp1 p1 s.1 s.2) (0, []) : Option (List (Int × Int))).bind fun b3 =>
  (m_mdel p0 b3).bind fun x5 =>
  (m_sortedKeys x5).bind fun x6 =>
  some x6
noncomputable def m_similarity_Pairs_lp2 (p0 : Int) (p1 : Int) (p2 : (List (List Mark))) (lp1_0 : Int) (lp2_0 : Int) (lp2_1 : (List Pair)) : Option (Step (Int × (List Pair)) (List Pair)) :=
  if (decide (lp2_0 < lp1_0)) = true then
    (idx p2 lp2_0).bind fun x1 =>
    (idx p2 lp1_0).bind fun x2 =>
    (m_similarity_Compare x1 x2).bind fun x3 =>
    ((if (decide (0 < x3.2)) = true then
      (inK .i64 (x3.1 * p1)).bind fun x4 =>
      (inK .i64 (p0 * x3.2)).bind fun x5 =>
      some (decide (x5 ≤ x4))
    else
      some false) : Option Bool).bind fun m1 =>
    if m1 = true then
      (app lp2_1 [(Pair.mk lp2_0 lp1_0 x3.1 x3.2)]).bind fun x6 =>
      (inK .i64 (lp2_0 + 1)).bind fun x7 =>
      some (.next (x7, x6))
    else
      (inK .i64 (lp2_0 + 1)).bind fun x8 =>
      some (.next (x8, lp2_1))
  else
    some (.done lp2_1)
noncomputable def m_similarity_Pairs_lp1 (p0 : Int) (p1 : Int) (p2 : (List (List Mark))) (lp1_0 : Int) (lp1_1 : (List Pair)) : Option (Step (Int × (List Pair)) (List Pair)) :=
  if (decide (lp1_0 < (p2.length : Int))) = true then
    (loopM (fun s => m_similarity_Pairs_lp2 p0 p1 p2 lp1_0 s.1 s.2) (0, lp1_1) : Option (List Pair)).bind fun b2 =>
    (inK .i64 (lp1_0 + 1)).bind fun x9 =>
    some (.next (x9, b2))
  else
    some (.done lp1_1)
noncomputable def m_similarity_Pairs (p0 : Int) (p1 : Int) (p2 : (List (List Mark))) : Option ((List Pair) × Int) :=
  if ((((decide (p1 < 1)) || (decide (10000 < p1))) || (decide (p0 < 0))) || (decide (p1 < p0))) = true then
    some ([], 1)
  else
    if (decide (64 < (p2.length : Int))) = true then
      some ([], 8)
    else
      (loopM (fun s => m_similarity_Pairs_lp1 p0 p1 p2 s.1 s.2) (0, []) : Option (List Pair)).bind fun b1 =>
      (m_sortP b1).bind fun x10 =>
      some (x10, 0)
end Go.Proofs.Ytmfepkadggigpaa

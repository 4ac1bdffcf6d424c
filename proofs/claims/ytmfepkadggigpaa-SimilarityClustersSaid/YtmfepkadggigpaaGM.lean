/-
  Models of: assessor/similarity.Clusters$1, assessor/similarity.Clusters, assessor/similarity.diagonals, assessor/similarity.Overlaps$1, slices.IndexFunc[[]assessor/api.Mark,assessor/api.Mark]@assessor/similarity.Overlaps$1, slices.ContainsFunc[[]assessor/api.Mark,assessor/api.Mark]@assessor/similarity.Overlaps$1, assessor/similarity.Overlaps. (Printed by wip/sp/gen.py.)
-/
import Derived.Test.YtmfepkadggigpaaFM
set_option linter.unusedVariables false
set_option linter.unusedSimpArgs false
namespace Go.Proofs.Ytmfepkadggigpaa
open Go.RowKit
noncomputable def m_similarity_Clusters_1_body (self : Int → (List Int) → Option (Int × (List Int))) (p0 : Int) (c0 : (List Int)) : Option (Int × (List Int)) :=
  (idx c0 p0).bind fun x1 =>
  ((if (!decide (x1 = p0)) = true then
    (idx c0 p0).bind fun x2 =>
    (self x2 c0).bind fun x3 =>
    (idx x3.2 p0).bind fun x4 =>
    some (x3.2.set p0.toNat x3.1)
  else
    some c0) : Option (List Int)).bind fun j1 =>
  (idx j1 p0).bind fun x5 =>
  some (x5, j1)
noncomputable def m_similarity_Clusters_1_r : Nat → Int → (List Int) → Option (Int × (List Int))
  | 0 => fun _ _ => none
  | n + 1 => m_similarity_Clusters_1_body (m_similarity_Clusters_1_r n)
noncomputable def m_similarity_Clusters_1 (p0 : Int) (c0 : (List Int)) : Option (Int × (List Int)) := m_similarity_Clusters_1_r (p0.toNat + 1) p0 c0
noncomputable def m_similarity_Clusters_lp1 (x1 : List Int) (lp1_0 : Int) (lp1_1 : (List Int)) : Option (Step (Int × (List Int)) (List Int)) :=
  if (decide (lp1_0 < (x1.length : Int))) = true then
    (idx lp1_1 lp1_0).bind fun x2 =>
    (inK .i64 (lp1_0 + 1)).bind fun x3 =>
    some (.next (x3, lp1_1.set lp1_0.toNat lp1_0))
  else
    some (.done lp1_1)
noncomputable def m_similarity_Clusters_lp2 (p0 : Int) (p1 : (List Pair)) (lp2_0 : Int) (lp2_1 : (List Int)) : Option (Step (Int × (List Int)) (Out (List Int) ((List (List Int)) × Int))) :=
  if (decide (lp2_0 < (p1.length : Int))) = true then
    (idx p1 lp2_0).bind fun x4 =>
    if ((((decide (x4.a < 0)) || (decide (p0 ≤ x4.a))) || (decide (x4.b < 0))) || (decide (p0 ≤ x4.b))) = true then
      some (.done (.ret ([], 2)))
    else
      (m_similarity_Clusters_1 x4.a lp2_1).bind fun x5 =>
      (m_similarity_Clusters_1 x4.b x5.2).bind fun x6 =>
      (idx x6.2 (max x5.1 x6.1)).bind fun x7 =>
      (inK .i64 (lp2_0 + 1)).bind fun x8 =>
      some (.next (x8, x6.2.set (max x5.1 x6.1).toNat (min x5.1 x6.1)))
  else
    some (.done (.brk lp2_1))
noncomputable def m_similarity_Clusters_lp3 (p0 : Int) (lp3_0 : Int) (lp3_1 : (List (Int × (List Int)))) (lp3_2 : (List Int)) : Option (Step (Int × (List (Int × (List Int))) × (List Int)) ((List (Int × (List Int))) × (List Int))) :=
  if (decide (lp3_0 < p0)) = true then
    (m_similarity_Clusters_1 lp3_0 lp3_2).bind fun x9 =>
    (m_similarity_Clusters_1 lp3_0 x9.2).bind fun x10 =>
    (app ((mget (lp3_1 : List (Int × List Int)) x10.1).getD []) [lp3_0]).bind fun x11 =>
    (guardEq x9.1 x10.1).bind fun x12 =>
    (inK .i64 (lp3_0 + 1)).bind fun x13 =>
    some (.next (x13, (mput (lp3_1 : List (Int × List Int)) x10.1 x11), x10.2))
  else
    some (.done (lp3_1, lp3_2))
noncomputable def m_similarity_Clusters_lp4 (b10 : ((List (Int × (List Int))) × (List Int))) (x14 : List Int) (lp4_0 : Int) (lp4_1 : (List (List Int))) : Option (Step (Int × (List (List Int))) (List (List Int))) :=
  if (decide (lp4_0 < (x14.length : Int))) = true then
    (idx x14 lp4_0).bind fun x15 =>
    if (decide (1 < (((mget (b10.1 : List (Int × (List Int))) x15).getD []).length : Int))) = true then
      (app lp4_1 [((mget (b10.1 : List (Int × (List Int))) x15).getD [])]).bind fun x16 =>
      (inK .i64 (lp4_0 + 1)).bind fun x17 =>
      some (.next (x17, x16))
    else
      (inK .i64 (lp4_0 + 1)).bind fun x18 =>
      some (.next (x18, lp4_1))
  else
    some (.done lp4_1)
noncomputable def m_similarity_Clusters (p0 : Int) (p1 : (List Pair)) : Option ((List (List Int)) × Int) :=
  if ((decide (p0 < 0)) || (decide (1024 < p0))) = true then
    some ([], 2)
  else
    (mkc p0 p0 (0 : Int)).bind fun x1 =>
    (loopM (fun s => m_similarity_Clusters_lp1 x1 s.1 s.2) (0, x1) : Option (List Int)).bind fun b2 =>
    (loopM (fun s => m_similarity_Clusters_lp2 p0 p1 s.1 s.2) (0, b2) : Option (Out (List Int) ((List (List Int)) × Int))).bind fun b5 =>
    match b5 with
    | .brk b5s =>
      (loopM (fun s => m_similarity_Clusters_lp3 p0 s.1 s.2.1 s.2.2) (0, [], b5s) : Option ((List (Int × (List Int))) × (List Int))).bind fun b10 =>
      (m_sortedKeys (b10.1 : List (Int × (List Int)))).bind fun x14 =>
      (loopM (fun s => m_similarity_Clusters_lp4 b10 x14 s.1 s.2) (0, []) : Option (List (List Int))).bind fun b17 =>
      some (b17, 0)
    | .ret r => some r
noncomputable def m_similarity_diagonals_lp1 (p1 : (List Mark)) (lp1_0 : Int) (lp1_1 : (List (Int × (List Int)))) : Option (Step (Int × (List (Int × (List Int)))) (List (Int × (List Int)))) :=
  if (decide (lp1_0 < (p1.length : Int))) = true then
    (idx p1 lp1_0).bind fun x1 =>
    (app ((mget (lp1_1 : List (Int × List Int)) x1.hash).getD []) [x1.at_]).bind fun x2 =>
    (inK .i64 (lp1_0 + 1)).bind fun x3 =>
    some (.next (x3, (mput (lp1_1 : List (Int × List Int)) x1.hash x2)))
  else
    some (.done lp1_1)
noncomputable def m_similarity_diagonals_lp3 (b2 : (List (Int × (List Int)))) (x4 : Mark) (lp3_0 : Int) (lp3_1 : (List (Int × (List Int)))) : Option (Step (Int × (List (Int × (List Int)))) (List (Int × (List Int)))) :=
  if (decide (lp3_0 < (((mget (b2 : List (Int × List Int)) x4.hash).getD []).length : Int))) = true then
    (idx ((mget (b2 : List (Int × List Int)) x4.hash).getD []) lp3_0).bind fun x5 =>
    (inK .i64 (x5 - x4.at_)).bind fun x6 =>
    (inK .i64 (x5 - x4.at_)).bind fun x7 =>
    (app ((mget (lp3_1 : List (Int × List Int)) x7).getD []) [x4.at_]).bind fun x8 =>
    (guardEq x6 x7).bind fun x9 =>
    (inK .i64 (lp3_0 + 1)).bind fun x10 =>
    some (.next (x10, (mput (lp3_1 : List (Int × List Int)) x7 x8)))
  else
    some (.done lp3_1)
noncomputable def m_similarity_diagonals_lp2 (p0 : (List Mark)) (b2 : (List (Int × (List Int)))) (lp2_0 : Int) (lp2_1 : (List (Int × (List Int)))) : Option (Step (Int × (List (Int × (List Int)))) (List (Int × (List Int)))) :=
  if (decide (lp2_0 < (p0.length : Int))) = true then
    (idx p0 lp2_0).bind fun x4 =>
    (loopM (fun s => m_similarity_diagonals_lp3 b2 x4 s.1 s.2) (0, lp2_1) : Option (List (Int × (List Int)))).bind fun b12 =>
    (inK .i64 (lp2_0 + 1)).bind fun x11 =>
    some (.next (x11, b12))
  else
    some (.done lp2_1)
noncomputable def m_similarity_diagonals_lp4 (en1 : Int) (lp4_0 : (List (Int × (List Int)))) : Option (Step (List (Int × (List Int))) (List (Int × (List Int)))) :=
  (m_sortI ((mget (lp4_0 : List (Int × List Int)) en1).getD [])).bind fun x12 =>
  some (.next (mset (lp4_0 : List (Int × List Int)) en1 x12))
noncomputable def m_similarity_diagonals (p0 : (List Mark)) (p1 : (List Mark)) : Option (List (Int × (List Int))) :=
  (loopM (fun s => m_similarity_diagonals_lp1 p1 s.1 s.2) (0, []) : Option (List (Int × (List Int)))).bind fun b2 =>
  (loopM (fun s => m_similarity_diagonals_lp2 p0 b2 s.1 s.2) (0, []) : Option (List (Int × (List Int)))).bind fun b9 =>
  (permM ((b9 : List (Int × List Int)).map (·.1)) (fun p => foldP (fun e s => m_similarity_diagonals_lp4  e s) (fun s => some s) p b9) : Option (List (Int × (List Int)))).bind fun b18 =>
  some b18
noncomputable def m_similarity_Overlaps_1 (p0 : Mark) : Option Bool :=
  some ((decide (p0.at_ < 0)) || (decide (2048 < p0.at_)))
noncomputable def m_slices_IndexFunc_similarity_Overlaps_1_lp1 (p0 : (List Mark)) (lp1_0 : Int) : Option (Step Int (Out Unit Int)) :=
  if (decide (lp1_0 < (p0.length : Int))) = true then
    (idx p0 lp1_0).bind fun x1 =>
    (m_similarity_Overlaps_1 x1).bind fun x2 =>
    if x2 = true then
      some (.done (.ret lp1_0))
    else
      (inK .i64 (lp1_0 + 1)).bind fun x3 =>
      some (.next x3)
  else
    some (.done (.brk ()))
noncomputable def m_slices_IndexFunc_similarity_Overlaps_1 (p0 : (List Mark)) : Option Int :=
  (loopM (fun s => m_slices_IndexFunc_similarity_Overlaps_1_lp1 p0 s) 0 : Option (Out Unit Int)).bind fun b1 =>
  match b1 with
  | .brk b1s =>
    some (-1)
  | .ret r => some r
noncomputable def m_slices_ContainsFunc_similarity_Overlaps_1 (p0 : (List Mark)) : Option Bool :=
  (m_slices_IndexFunc_similarity_Overlaps_1 p0).bind fun x1 =>
  some (decide (0 ≤ x1))
noncomputable def m_similarity_Overlaps_lp2 (p2 : Int) (x3 : (List (Int × (List Int)))) (en1 : Int) (lp2_0 : Int) (lp2_1 : Int) (lp2_2 : (List Overlap)) : Option (Step (Int × Int × (List Overlap)) (List Overlap)) :=
  if (decide (lp2_1 < (((mget (x3 : List (Int × (List Int))) en1).getD []).length : Int))) = true then
    (((idx ((mget (x3 : List (Int × (List Int))) en1).getD []) lp2_1).bind fun x4 =>
    (inK .i64 (lp2_1 + 1)).bind fun x5 =>
    ((if (decide (x5 < (((mget (x3 : List (Int × (List Int))) en1).getD []).length : Int))) = true then
      (inK .i64 (lp2_1 + 1)).bind fun x6 =>
      (idx ((mget (x3 : List (Int × (List Int))) en1).getD []) x6).bind fun x7 =>
      (inK .i64 (x4 + p2)).bind fun x8 =>
      some (decide (x7 ≤ x8))
    else
      some false) : Option Bool).bind fun m3 =>
    if m3 = true then
      some (lp2_0, lp2_2)
    else
      (idx ((mget (x3 : List (Int × (List Int))) en1).getD []) lp2_0).bind fun x9 =>
      (idx ((mget (x3 : List (Int × (List Int))) en1).getD []) lp2_0).bind fun x10 =>
      (inK .i64 (x10 + en1)).bind fun x11 =>
      (idx ((mget (x3 : List (Int × (List Int))) en1).getD []) lp2_0).bind fun x12 =>
      (inK .i64 (x4 - x12)).bind fun x13 =>
      (inK .i64 (x13 + p2)).bind fun x14 =>
      (app lp2_2 [(Overlap.mk x9 x11 x14)]).bind fun x15 =>
      (inK .i64 (lp2_1 + 1)).bind fun x16 =>
      some (x16, x15)) : Option (Int × (List Overlap))).bind fun j1 =>
    (inK .i64 (lp2_1 + 1)).bind fun x17 =>
    some (.next (j1.1, x17, j1.2))
  else
    some (.done lp2_2)
noncomputable def m_similarity_Overlaps_lp1 (p2 : Int) (x3 : (List (Int × (List Int)))) (en1 : Int) (lp1_0 : (List Overlap)) : Option (Step (List Overlap) ((List Overlap) × Int)) :=
  (loopM (fun s => m_similarity_Overlaps_lp2 p2 x3 en1 s.1 s.2.1 s.2.2) (0, 0, lp1_0) : Option (List Overlap)).bind fun b3 =>
  some (.next b3)
noncomputable def m_similarity_Overlaps_lp1t  (b2 : (List Overlap)) : Option ((List Overlap) × Int) :=
  (m_sortO b2).bind fun x18 =>
  some (x18, 0)
noncomputable def m_similarity_Overlaps (p0 : (List Mark)) (p1 : (List Mark)) (p2 : Int) : Option ((List Overlap) × Int) :=
  ((if ((decide (p2 < 1)) || (decide (64 < p2))) = true then
    some true
  else
    (m_slices_ContainsFunc_similarity_Overlaps_1 p0).bind fun x1 =>
    some x1) : Option Bool).bind fun m1 =>
  ((if m1 = true then
    some true
  else
    (m_slices_ContainsFunc_similarity_Overlaps_1 p1).bind fun x2 =>
    some x2) : Option Bool).bind fun m2 =>
  if m2 = true then
    some ([], 2)
  else
    if ((decide (256 < (p0.length : Int))) || (decide (256 < (p1.length : Int)))) = true then
      some ([], 8)
    else
      (m_similarity_diagonals p0 p1).bind fun x3 =>
      (permM ((x3 : List (Int × (List Int))).map (·.1)) (fun p => foldP (fun e s => m_similarity_Overlaps_lp1 p2 x3 e s) (fun s => m_similarity_Overlaps_lp1t  s) p []) : Option ((List Overlap) × Int))
end Go.Proofs.Ytmfepkadggigpaa

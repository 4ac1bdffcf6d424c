/-
  Models of: assessor/assessorref44.Clusters, assessor/assessorref44.match, assessor/assessorref44.places, assessor/assessorref44.longer, assessor/assessorref44.Overlaps. (Printed by wip/sp/gen.py.)
-/
import Derived.Test.YtmfepkadggigpaaRM
set_option linter.unusedVariables false
set_option linter.unusedSimpArgs false
namespace Go.Proofs.Ytmfepkadggigpaa
open Go.RowKit
noncomputable def m_assessorref44_Clusters_lp1 (p0 : Int) (p1 : (List Pair)) (lp1_0 : Int) : Option (Step Int (Out Unit ((List (List Int)) × Int))) :=
  if (decide (lp1_0 < (p1.length : Int))) = true then
    (idx p1 lp1_0).bind fun x1 =>
    ((if (decide (x1.a < 0)) = true then
      some true
    else
      (idx p1 lp1_0).bind fun x2 =>
      some (decide (p0 ≤ x2.a))) : Option Bool).bind fun m1 =>
    ((if m1 = true then
      some true
    else
      (idx p1 lp1_0).bind fun x3 =>
      some (decide (x3.b < 0))) : Option Bool).bind fun m2 =>
    ((if m2 = true then
      some true
    else
      (idx p1 lp1_0).bind fun x4 =>
      some (decide (p0 ≤ x4.b))) : Option Bool).bind fun m3 =>
    if m3 = true then
      some (.done (.ret (([] : List (List Int)), 2)))
    else
      (inK .i64 (lp1_0 + 1)).bind fun x5 =>
      some (.next x5)
  else
    some (.done (.brk ()))
noncomputable def m_assessorref44_Clusters_lp2 (p0 : Int) (lp2_0 : Int) (lp2_1 : (List Int)) : Option (Step (Int × (List Int)) (List Int)) :=
  if (decide (lp2_0 < p0)) = true then
    (app lp2_1 [lp2_0]).bind fun x6 =>
    (inK .i64 (lp2_0 + 1)).bind fun x7 =>
    some (.next (x7, x6))
  else
    some (.done lp2_1)
noncomputable def m_assessorref44_Clusters_lp4 (p1 : (List Pair)) (lp4_0 : Bool) (lp4_1 : Int) (lp4_2 : (List Int)) : Option (Step (Bool × Int × (List Int)) (Bool × (List Int))) :=
  if (decide (lp4_1 < (p1.length : Int))) = true then
    (idx p1 lp4_1).bind fun x8 =>
    (idx lp4_2 x8.a).bind fun x9 =>
    (idx p1 lp4_1).bind fun x10 =>
    (idx lp4_2 x10.b).bind fun x11 =>
    (idx p1 lp4_1).bind fun x12 =>
    (idx lp4_2 x12.a).bind fun x13 =>
    ((if (!decide (x13 = (min x9 x11))) = true then
      some true
    else
      (idx p1 lp4_1).bind fun x14 =>
      (idx lp4_2 x14.b).bind fun x15 =>
      some (!decide (x15 = (min x9 x11)))) : Option Bool).bind fun m4 =>
    if m4 = true then
      (idx p1 lp4_1).bind fun x16 =>
      (idx p1 lp4_1).bind fun x17 =>
      (idx lp4_2 x16.a).bind fun x18 =>
      (idx (lp4_2.set x16.a.toNat (min x9 x11)) x17.b).bind fun x19 =>
      (inK .i64 (lp4_1 + 1)).bind fun x20 =>
      some (.next (true, x20, (lp4_2.set x16.a.toNat (min x9 x11)).set x17.b.toNat (min x9 x11)))
    else
      (inK .i64 (lp4_1 + 1)).bind fun x21 =>
      some (.next (lp4_0, x21, lp4_2))
  else
    some (.done (lp4_0, lp4_2))
noncomputable def m_assessorref44_Clusters_lp3 (p1 : (List Pair)) (lp3_0 : Bool) (lp3_1 : (List Int)) : Option (Step (Bool × (List Int)) (List Int)) :=
  if lp3_0 = true then
    (loopM (fun s => m_assessorref44_Clusters_lp4 p1 s.1 s.2.1 s.2.2) (false, 0, lp3_1) : Option (Bool × (List Int))).bind fun b11 =>
    some (.next (b11.1, b11.2))
  else
    some (.done lp3_1)
noncomputable def m_assessorref44_Clusters_lp6 (p0 : Int) (b10 : (List Int)) (lp5_0 : Int) (lp6_0 : Int) (lp6_1 : (List Int)) : Option (Step (Int × (List Int)) (List Int)) :=
  if (decide (lp6_0 < p0)) = true then
    (idx b10 lp6_0).bind fun x22 =>
    if (decide (x22 = lp5_0)) = true then
      (app lp6_1 [lp6_0]).bind fun x23 =>
      (inK .i64 (lp6_0 + 1)).bind fun x24 =>
      some (.next (x24, x23))
    else
      (inK .i64 (lp6_0 + 1)).bind fun x25 =>
      some (.next (x25, lp6_1))
  else
    some (.done lp6_1)
noncomputable def m_assessorref44_Clusters_lp5 (p0 : Int) (b10 : (List Int)) (lp5_0 : Int) (lp5_1 : (List (List Int))) : Option (Step (Int × (List (List Int))) (List (List Int))) :=
  if (decide (lp5_0 < p0)) = true then
    (loopM (fun s => m_assessorref44_Clusters_lp6 p0 b10 lp5_0 s.1 s.2) (lp5_0, ([] : List Int)) : Option (List Int)).bind fun b30 =>
    if (decide (1 < (b30.length : Int))) = true then
      (app lp5_1 [b30]).bind fun x26 =>
      (inK .i64 (lp5_0 + 1)).bind fun x27 =>
      some (.next (x27, x26))
    else
      (inK .i64 (lp5_0 + 1)).bind fun x28 =>
      some (.next (x28, lp5_1))
  else
    some (.done lp5_1)
noncomputable def m_assessorref44_Clusters (p0 : Int) (p1 : (List Pair)) : Option ((List (List Int)) × Int) :=
  if ((decide (p0 < 0)) || (decide (1024 < p0))) = true then
    some (([] : List (List Int)), 2)
  else
    (loopM (fun s => m_assessorref44_Clusters_lp1 p0 p1 s) 0 : Option (Out Unit ((List (List Int)) × Int))).bind fun b2 =>
    match b2 with
    | .brk b2s =>
      (loopM (fun s => m_assessorref44_Clusters_lp2 p0 s.1 s.2) (0, ([] : List Int)) : Option (List Int)).bind fun b8 =>
      (loopM (fun s => m_assessorref44_Clusters_lp3 p1 s.1 s.2) (true, b8) : Option (List Int)).bind fun b10 =>
      (loopM (fun s => m_assessorref44_Clusters_lp5 p0 b10 s.1 s.2) (0, []) : Option (List (List Int))).bind fun b28 =>
      some (b28, 0)
    | .ret r => some r
noncomputable def m_assessorref44_match_lp2 (p0 : (List Mark)) (p1 : (List Mark)) (p2 : Int) (p3 : Int) (lp1_0 : Int) (lp2_0 : Int) : Option (Step Int (Out Unit Bool)) :=
  if (decide (lp2_0 < (p1.length : Int))) = true then
    (idx p0 lp1_0).bind fun x1 =>
    ((if (decide (x1.at_ = p2)) = true then
      (idx p1 lp2_0).bind fun x2 =>
      some (decide (x2.at_ = p3))
    else
      some false) : Option Bool).bind fun m1 =>
    ((if m1 = true then
      (idx p0 lp1_0).bind fun x3 =>
      (idx p1 lp2_0).bind fun x4 =>
      some (decide (x3.hash = x4.hash))
    else
      some false) : Option Bool).bind fun m2 =>
    if m2 = true then
      some (.done (.ret true))
    else
      (inK .i64 (lp2_0 + 1)).bind fun x5 =>
      some (.next x5)
  else
    some (.done (.brk ()))
noncomputable def m_assessorref44_match_lp1 (p0 : (List Mark)) (p1 : (List Mark)) (p2 : Int) (p3 : Int) (lp1_0 : Int) : Option (Step Int (Out Unit Bool)) :=
  if (decide (lp1_0 < (p0.length : Int))) = true then
    (loopM (fun s => m_assessorref44_match_lp2 p0 p1 p2 p3 lp1_0 s) 0 : Option (Out Unit Bool)).bind fun b2 =>
    match b2 with
    | .brk b2s =>
      (inK .i64 (lp1_0 + 1)).bind fun x6 =>
      some (.next x6)
    | .ret r => some (.done (.ret r))
  else
    some (.done (.brk ()))
noncomputable def m_assessorref44_match (p0 : (List Mark)) (p1 : (List Mark)) (p2 : Int) (p3 : Int) : Option Bool :=
  (loopM (fun s => m_assessorref44_match_lp1 p0 p1 p2 p3 s) 0 : Option (Out Unit Bool)).bind fun b1 =>
  match b1 with
  | .brk b1s =>
    some false
  | .ret r => some r
noncomputable def m_assessorref44_places_lp1 (p0 : (List Mark)) (lp1_0 : Int) (lp1_1 : (List Int)) : Option (Step (Int × (List Int)) (List Int)) :=
  if (decide (lp1_0 < (p0.length : Int))) = true then
    (idx p0 lp1_0).bind fun x1 =>
    (m_assessorref43_Add lp1_1 x1.at_).bind fun x2 =>
    (inK .i64 (lp1_0 + 1)).bind fun x3 =>
    some (.next (x3, x2))
  else
    some (.done lp1_1)
noncomputable def m_assessorref44_places (p0 : (List Mark)) : Option (List Int) :=
  (loopM (fun s => m_assessorref44_places_lp1 p0 s.1 s.2) (0, ([] : List Int)) : Option (List Int)).bind fun b2 =>
  some b2
noncomputable def m_assessorref44_longer (p0 : Overlap) (p1 : Overlap) : Option Bool :=
  if (!decide (p0.len = p1.len)) = true then
    some (decide (p1.len < p0.len))
  else
    some ((decide (p0.a < p1.a)) || ((decide (p0.a = p1.a)) && (decide (p0.b < p1.b))))
noncomputable def m_assessorref44_Overlaps_lp1 (p0 : (List Mark)) (p1 : (List Mark)) (lp1_0 : Int) : Option (Step Int (Out Unit ((List Overlap) × Int))) :=
  (inK .i64 ((p0.length : Int) + (p1.length : Int))).bind fun x1 =>
  if (decide (lp1_0 < x1)) = true then
    ((if (decide (lp1_0 < (p0.length : Int))) = true then
      (idx p0 lp1_0).bind fun x2 =>
      some (x2.hash, x2.at_)
    else
      (inK .i64 (lp1_0 - (p0.length : Int))).bind fun x3 =>
      (idx p1 x3).bind fun x4 =>
      some (x4.hash, x4.at_)) : Option (Int × Int)).bind fun j1 =>
    if ((decide (j1.2 < 0)) || (decide (2048 < j1.2))) = true then
      some (.done (.ret (([] : List Overlap), 2)))
    else
      (inK .i64 (lp1_0 + 1)).bind fun x5 =>
      some (.next x5)
  else
    some (.done (.brk ()))
noncomputable def m_assessorref44_Overlaps_lp3 (p0 : (List Mark)) (p1 : (List Mark)) (x6 : (List Int)) (x7 : (List Int)) (lp2_0 : Int) (lp3_0 : Int) (lp3_1 : (List Int)) : Option (Step (Int × (List Int)) (List Int)) :=
  if (decide (lp3_0 < (x7.length : Int))) = true then
    (idx x6 lp2_0).bind fun x8 =>
    (idx x7 lp3_0).bind fun x9 =>
    (m_assessorref44_match p0 p1 x8 x9).bind fun x10 =>
    if x10 = true then
      (idx x7 lp3_0).bind fun x11 =>
      (idx x6 lp2_0).bind fun x12 =>
      (inK .i64 (x11 - x12)).bind fun x13 =>
      (m_assessorref43_Add lp3_1 x13).bind fun x14 =>
      (inK .i64 (lp3_0 + 1)).bind fun x15 =>
      some (.next (x15, x14))
    else
      (inK .i64 (lp3_0 + 1)).bind fun x16 =>
      some (.next (x16, lp3_1))
  else
    some (.done lp3_1)
noncomputable def m_assessorref44_Overlaps_lp2 (p0 : (List Mark)) (p1 : (List Mark)) (x6 : (List Int)) (x7 : (List Int)) (lp2_0 : Int) (lp2_1 : (List Int)) : Option (Step (Int × (List Int)) (List Int)) :=
  if (decide (lp2_0 < (x6.length : Int))) = true then
    (loopM (fun s => m_assessorref44_Overlaps_lp3 p0 p1 x6 x7 lp2_0 s.1 s.2) (0, lp2_1) : Option (List Int)).bind fun b8 =>
    (inK .i64 (lp2_0 + 1)).bind fun x17 =>
    some (.next (x17, b8))
  else
    some (.done lp2_1)
noncomputable def m_assessorref44_Overlaps_lp6 (lp5_0 : Int) (lp5_3 : (List Overlap)) (x26 : Int) (x28 : Int) (lp6_0 : Int) : Option (Step Int Int) :=
  ((if (decide (0 < lp6_0)) = true then
    (inK .i64 (lp6_0 - 1)).bind fun x29 =>
    (idx lp5_3 x29).bind fun x30 =>
    (m_assessorref44_longer (Overlap.mk lp5_0 x26 x28) x30).bind fun x31 =>
    some x31
  else
    some false) : Option Bool).bind fun m5 =>
  if m5 = true then
    (inK .i64 (lp6_0 - 1)).bind fun x32 =>
    some (.next x32)
  else
    some (.done lp6_0)
noncomputable def m_assessorref44_Overlaps_lp5 (p0 : (List Mark)) (p1 : (List Mark)) (p2 : Int) (x6 : (List Int)) (b7 : (List Int)) (lp4_0 : Int) (lp5_0 : Int) (lp5_1 : Int) (lp5_2 : Int) (lp5_3 : (List Overlap)) : Option (Step (Int × Int × Int × (List Overlap)) (List Overlap)) :=
  if (decide (lp5_2 ≤ (x6.length : Int))) = true then
    ((if (decide (lp5_2 < (x6.length : Int))) = true then
      (idx x6 lp5_2).bind fun x18 =>
      (idx x6 lp5_2).bind fun x19 =>
      (idx b7 lp4_0).bind fun x20 =>
      (inK .i64 (x19 + x20)).bind fun x21 =>
      (m_assessorref44_match p0 p1 x18 x21).bind fun x22 =>
      some x22
    else
      some false) : Option Bool).bind fun m1 =>
    ((if m1 = true then
      (idx x6 lp5_2).bind fun x23 =>
      some x23
    else
      some (-1)) : Option Int).bind fun j2 =>
    ((if (decide (0 ≤ lp5_0)) = true then
      ((if (decide (lp5_2 = (x6.length : Int))) = true then
        some true
      else
        ((if (decide (0 ≤ j2)) = true then
          (inK .i64 (lp5_1 + p2)).bind fun x24 =>
          some (decide (x24 < j2))
        else
          some false) : Option Bool).bind fun m4 =>
        some m4) : Option Bool).bind fun m3 =>
      some m3
    else
      some false) : Option Bool).bind fun m2 =>
    ((if m2 = true then
      (idx b7 lp4_0).bind fun x25 =>
      (inK .i64 (lp5_0 + x25)).bind fun x26 =>
      (inK .i64 (lp5_1 - lp5_0)).bind fun x27 =>
      (inK .i64 (x27 + p2)).bind fun x28 =>
      (loopM (fun s => m_assessorref44_Overlaps_lp6 lp5_0 lp5_3 x26 x28 s) (lp5_3.length : Int) : Option Int).bind fun b23 =>
      (sub lp5_3 0 b23).bind fun x33 =>
      (app ([] : List Overlap) x33).bind fun x34 =>
      (app x34 [(Overlap.mk lp5_0 x26 x28)]).bind fun x35 =>
      (sub lp5_3 b23 (lp5_3.length : Int)).bind fun x36 =>
      (app x35 x36).bind fun x37 =>
      some ((-1), x37)
    else
      some (lp5_0, lp5_3)) : Option (Int × (List Overlap))).bind fun j3 =>
    if (decide (0 ≤ j2)) = true then
      ((if (decide (j3.1 < 0)) = true then
        some j2
      else
        some j3.1) : Option Int).bind fun j4 =>
      (inK .i64 (lp5_2 + 1)).bind fun x38 =>
      some (.next (j4, j2, x38, j3.2))
    else
      (inK .i64 (lp5_2 + 1)).bind fun x39 =>
      some (.next (j3.1, lp5_1, x39, j3.2))
  else
    some (.done lp5_3)
noncomputable def m_assessorref44_Overlaps_lp4 (p0 : (List Mark)) (p1 : (List Mark)) (p2 : Int) (x6 : (List Int)) (b7 : (List Int)) (lp4_0 : Int) (lp4_1 : (List Overlap)) : Option (Step (Int × (List Overlap)) (List Overlap)) :=
  if (decide (lp4_0 < (b7.length : Int))) = true then
    (loopM (fun s => m_assessorref44_Overlaps_lp5 p0 p1 p2 x6 b7 lp4_0 s.1 s.2.1 s.2.2.1 s.2.2.2) ((-1), (-1), 0, lp4_1) : Option (List Overlap)).bind fun b16 =>
    (inK .i64 (lp4_0 + 1)).bind fun x40 =>
    some (.next (x40, b16))
  else
    some (.done lp4_1)
noncomputable def m_assessorref44_Overlaps (p0 : (List Mark)) (p1 : (List Mark)) (p2 : Int) : Option ((List Overlap) × Int) :=
  if ((decide (p2 < 1)) || (decide (64 < p2))) = true then
    some (([] : List Overlap), 2)
  else
    (loopM (fun s => m_assessorref44_Overlaps_lp1 p0 p1 s) 0 : Option (Out Unit ((List Overlap) × Int))).bind fun b2 =>
    match b2 with
    | .brk b2s =>
      if ((decide (256 < (p0.length : Int))) || (decide (256 < (p1.length : Int)))) = true then
        some (([] : List Overlap), 8)
      else
        (m_assessorref44_places p0).bind fun x6 =>
        (m_assessorref44_places p1).bind fun x7 =>
        (loopM (fun s => m_assessorref44_Overlaps_lp2 p0 p1 x6 x7 s.1 s.2) (0, ([] : List Int)) : Option (List Int)).bind fun b7 =>
        (loopM (fun s => m_assessorref44_Overlaps_lp4 p0 p1 p2 x6 b7 s.1 s.2) (0, ([] : List Overlap)) : Option (List Overlap)).bind fun b15 =>
        some (b15, 0)
    | .ret r => some r
end Go.Proofs.Ytmfepkadggigpaa

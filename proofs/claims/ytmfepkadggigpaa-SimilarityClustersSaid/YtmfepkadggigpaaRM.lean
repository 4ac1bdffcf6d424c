/-
  Models of: assessor/assessorref43.Add, assessor/assessorref43.Same, assessor/assessorref35.Same, assessor/assessorref44.Hashes, assessor/assessorref44.Has, assessor/assessorref44.Compare, assessor/assessorref44.Without, assessor/assessorref44.Frequent, assessor/assessorref44.before, assessor/assessorref44.Pairs. (Printed by wip/sp/gen.py.)
-/
import Derived.Test.YtmfepkadggigpaaLibP
set_option linter.unusedVariables false
set_option linter.unusedSimpArgs false
namespace Go.Proofs.Ytmfepkadggigpaa
open Go.RowKit
noncomputable def m_assessorref43_Add_lp1 (p0 : (List Int)) (p1 : Int) (lp1_0 : Int) : Option (Step Int Int) :=
  ((if (decide (lp1_0 < (p0.length : Int))) = true then
    (idx p0 lp1_0).bind fun x1 =>
    some (decide (x1 < p1))
  else
    some false) : Option Bool).bind fun m1 =>
  if m1 = true then
    (inK .i64 (lp1_0 + 1)).bind fun x2 =>
    some (.next x2)
  else
    some (.done lp1_0)
noncomputable def m_assessorref43_Add (p0 : (List Int)) (p1 : Int) : Option (List Int) :=
  (loopM (fun s => m_assessorref43_Add_lp1 p0 p1 s) 0 : Option Int).bind fun b1 =>
  ((if (decide (b1 < (p0.length : Int))) = true then
    (idx p0 b1).bind fun x3 =>
    some (decide (x3 = p1))
  else
    some false) : Option Bool).bind fun m2 =>
  if m2 = true then
    some p0
  else
    (sub p0 0 b1).bind fun x4 =>
    (app ([] : List Int) x4).bind fun x5 =>
    (app x5 [p1]).bind fun x6 =>
    (sub p0 b1 (p0.length : Int)).bind fun x7 =>
    (app x6 x7).bind fun x8 =>
    some x8
noncomputable def m_assessorref43_Same_lp1 (p0 : (List Mark)) (p1 : (List Mark)) (lp1_0 : Int) : Option (Step Int (Out Unit Bool)) :=
  if (decide (lp1_0 < (p0.length : Int))) = true then
    (idx p0 lp1_0).bind fun x1 =>
    (idx p1 lp1_0).bind fun x2 =>
    if (!((decide (x1.hash = x2.hash)) && (decide (x1.at_ = x2.at_)))) = true then
      some (.done (.ret false))
    else
      (inK .i64 (lp1_0 + 1)).bind fun x3 =>
      some (.next x3)
  else
    some (.done (.brk ()))
noncomputable def m_assessorref43_Same (p0 : (List Mark)) (p1 : (List Mark)) : Option Bool :=
  if (!decide ((p0.length : Int) = (p1.length : Int))) = true then
    some false
  else
    (loopM (fun s => m_assessorref43_Same_lp1 p0 p1 s) 0 : Option (Out Unit Bool)).bind fun b1 =>
    match b1 with
    | .brk b1s =>
      some true
    | .ret r => some r
noncomputable def m_assessorref35_Same_lp1 (p0 : (List Int)) (p1 : (List Int)) (lp1_0 : Int) : Option (Step Int (Out Unit Bool)) :=
  if (decide (lp1_0 < (p0.length : Int))) = true then
    (idx p0 lp1_0).bind fun x1 =>
    (idx p1 lp1_0).bind fun x2 =>
    if (!decide (x1 = x2)) = true then
      some (.done (.ret false))
    else
      (inK .i64 (lp1_0 + 1)).bind fun x3 =>
      some (.next x3)
  else
    some (.done (.brk ()))
noncomputable def m_assessorref35_Same (p0 : (List Int)) (p1 : (List Int)) : Option Bool :=
  if (!decide ((p0.length : Int) = (p1.length : Int))) = true then
    some false
  else
    (loopM (fun s => m_assessorref35_Same_lp1 p0 p1 s) 0 : Option (Out Unit Bool)).bind fun b1 =>
    match b1 with
    | .brk b1s =>
      some true
    | .ret r => some r
noncomputable def m_assessorref44_Hashes_lp1 (p0 : (List Mark)) (lp1_0 : Int) (lp1_1 : (List Int)) : Option (Step (Int × (List Int)) (List Int)) :=
  if (decide (lp1_0 < (p0.length : Int))) = true then
    (idx p0 lp1_0).bind fun x1 =>
    (m_assessorref43_Add lp1_1 x1.hash).bind fun x2 =>
    (inK .i64 (lp1_0 + 1)).bind fun x3 =>
    some (.next (x3, x2))
  else
    some (.done lp1_1)
noncomputable def m_assessorref44_Hashes (p0 : (List Mark)) : Option (List Int) :=
  (loopM (fun s => m_assessorref44_Hashes_lp1 p0 s.1 s.2) (0, ([] : List Int)) : Option (List Int)).bind fun b2 =>
  some b2
noncomputable def m_assessorref44_Has_lp1 (p0 : (List Int)) (p1 : Int) (lp1_0 : Int) : Option (Step Int (Out Unit Bool)) :=
  if (decide (lp1_0 < (p0.length : Int))) = true then
    (idx p0 lp1_0).bind fun x1 =>
    if (decide (x1 = p1)) = true then
      some (.done (.ret true))
    else
      (inK .i64 (lp1_0 + 1)).bind fun x2 =>
      some (.next x2)
  else
    some (.done (.brk ()))
noncomputable def m_assessorref44_Has (p0 : (List Int)) (p1 : Int) : Option Bool :=
  (loopM (fun s => m_assessorref44_Has_lp1 p0 p1 s) 0 : Option (Out Unit Bool)).bind fun b1 =>
  match b1 with
  | .brk b1s =>
    some false
  | .ret r => some r
noncomputable def m_assessorref44_Compare_lp1 (x1 : (List Int)) (x2 : (List Int)) (lp1_0 : Int) (lp1_1 : Int) : Option (Step (Int × Int) Int) :=
  if (decide (lp1_1 < (x1.length : Int))) = true then
    (idx x1 lp1_1).bind fun x3 =>
    (m_assessorref44_Has x2 x3).bind fun x4 =>
    if x4 = true then
      (inK .i64 (lp1_0 + 1)).bind fun x5 =>
      (inK .i64 (lp1_1 + 1)).bind fun x6 =>
      some (.next (x5, x6))
    else
      (inK .i64 (lp1_1 + 1)).bind fun x7 =>
      some (.next (lp1_0, x7))
  else
    some (.done lp1_0)
noncomputable def m_assessorref44_Compare (p0 : (List Mark)) (p1 : (List Mark)) : Option (Int × Int) :=
  (m_assessorref44_Hashes p0).bind fun x1 =>
  (m_assessorref44_Hashes p1).bind fun x2 =>
  (loopM (fun s => m_assessorref44_Compare_lp1 x1 x2 s.1 s.2) (0, 0) : Option Int).bind fun b1 =>
  (inK .i64 ((x1.length : Int) + (x2.length : Int))).bind fun x8 =>
  (inK .i64 (x8 - b1)).bind fun x9 =>
  some (b1, x9)
noncomputable def m_assessorref44_Without_lp1 (p0 : (List Mark)) (p1 : (List Int)) (lp1_0 : Int) (lp1_1 : (List Mark)) : Option (Step (Int × (List Mark)) (List Mark)) :=
  if (decide (lp1_0 < (p0.length : Int))) = true then
    (idx p0 lp1_0).bind fun x1 =>
    (m_assessorref44_Has p1 x1.hash).bind fun x2 =>
    if (!x2) = true then
      (idx p0 lp1_0).bind fun x3 =>
      (app lp1_1 [x3]).bind fun x4 =>
      (inK .i64 (lp1_0 + 1)).bind fun x5 =>
      some (.next (x5, x4))
    else
      (inK .i64 (lp1_0 + 1)).bind fun x6 =>
      some (.next (x6, lp1_1))
  else
    some (.done lp1_1)
noncomputable def m_assessorref44_Without (p0 : (List Mark)) (p1 : (List Int)) : Option (List Mark) :=
  (loopM (fun s => m_assessorref44_Without_lp1 p0 p1 s.1 s.2) (0, ([] : List Mark)) : Option (List Mark)).bind fun b2 =>
  some b2
noncomputable def m_assessorref44_Frequent_lp3 (p1 : (List (List Mark))) (x2 : (List Int)) (lp2_0 : Int) (lp3_0 : Int) (lp3_1 : Int) : Option (Step (Int × Int) Int) :=
  if (decide (lp3_1 < (p1.length : Int))) = true then
    (idx p1 lp3_1).bind fun x3 =>
    (m_assessorref44_Hashes x3).bind fun x4 =>
    (idx x2 lp2_0).bind fun x5 =>
    (m_assessorref44_Has x4 x5).bind fun x6 =>
    if x6 = true then
      (inK .i64 (lp3_0 + 1)).bind fun x7 =>
      (inK .i64 (lp3_1 + 1)).bind fun x8 =>
      some (.next (x7, x8))
    else
      (inK .i64 (lp3_1 + 1)).bind fun x9 =>
      some (.next (lp3_0, x9))
  else
    some (.done lp3_0)
noncomputable def m_assessorref44_Frequent_lp2 (p0 : Int) (p1 : (List (List Mark))) (x2 : (List Int)) (lp2_0 : Int) (lp2_1 : (List Int)) : Option (Step (Int × (List Int)) (List Int)) :=
  if (decide (lp2_0 < (x2.length : Int))) = true then
    (loopM (fun s => m_assessorref44_Frequent_lp3 p1 x2 lp2_0 s.1 s.2) (0, 0) : Option Int).bind fun b5 =>
    if (decide (p0 < b5)) = true then
      (idx x2 lp2_0).bind fun x10 =>
      (m_assessorref43_Add lp2_1 x10).bind fun x11 =>
      (inK .i64 (lp2_0 + 1)).bind fun x12 =>
      some (.next (x12, x11))
    else
      (inK .i64 (lp2_0 + 1)).bind fun x13 =>
      some (.next (x13, lp2_1))
  else
    some (.done lp2_1)
noncomputable def m_assessorref44_Frequent_lp1 (p0 : Int) (p1 : (List (List Mark))) (lp1_0 : Int) (lp1_1 : (List Int)) : Option (Step (Int × (List Int)) (List Int)) :=
  if (decide (lp1_0 < (p1.length : Int))) = true then
    (idx p1 lp1_0).bind fun x1 =>
    (m_assessorref44_Hashes x1).bind fun x2 =>
    (loopM (fun s => m_assessorref44_Frequent_lp2 p0 p1 x2 s.1 s.2) (0, lp1_1) : Option (List Int)).bind fun b4 =>
    (inK .i64 (lp1_0 + 1)).bind fun x14 =>
    some (.next (x14, b4))
  else
    some (.done lp1_1)
noncomputable def m_assessorref44_Frequent (p0 : Int) (p1 : (List (List Mark))) : Option (List Int) :=
  (loopM (fun s => m_assessorref44_Frequent_lp1 p0 p1 s.1 s.2) (0, ([] : List Int)) : Option (List Int)).bind fun b2 =>
  some b2
noncomputable def m_assessorref44_before (p0 : Pair) (p1 : Pair) : Option Bool :=
  (inK .i64 (p0.shared * p1.total)).bind fun x1 =>
  (inK .i64 (p1.shared * p0.total)).bind fun x2 =>
  if (!decide (x1 = x2)) = true then
    (inK .i64 (p0.shared * p1.total)).bind fun x3 =>
    (inK .i64 (p1.shared * p0.total)).bind fun x4 =>
    some (decide (x4 < x3))
  else
    some ((decide (p0.a < p1.a)) || ((decide (p0.a = p1.a)) && (decide (p0.b < p1.b))))
noncomputable def m_assessorref44_Pairs_lp3 (lp1_0 : Int) (lp2_0 : Int) (lp2_1 : (List Pair)) (x4 : (Int × Int)) (lp3_0 : Int) : Option (Step Int Int) :=
  ((if (decide (0 < lp3_0)) = true then
    (inK .i64 (lp3_0 - 1)).bind fun x7 =>
    (idx lp2_1 x7).bind fun x8 =>
    (m_assessorref44_before (Pair.mk lp1_0 lp2_0 x4.1 x4.2) x8).bind fun x9 =>
    some x9
  else
    some false) : Option Bool).bind fun m2 =>
  if m2 = true then
    (inK .i64 (lp3_0 - 1)).bind fun x10 =>
    some (.next x10)
  else
    some (.done lp3_0)
noncomputable def m_assessorref44_Pairs_lp2 (p0 : Int) (p1 : Int) (p2 : (List (List Mark))) (lp1_0 : Int) (lp2_0 : Int) (lp2_1 : (List Pair)) : Option (Step (Int × (List Pair)) (List Pair)) :=
  if (decide (lp2_0 < (p2.length : Int))) = true then
    (idx p2 lp1_0).bind fun x2 =>
    (idx p2 lp2_0).bind fun x3 =>
    (m_assessorref44_Compare x2 x3).bind fun x4 =>
    ((if (decide (0 < x4.2)) = true then
      (inK .i64 (x4.1 * p1)).bind fun x5 =>
      (inK .i64 (p0 * x4.2)).bind fun x6 =>
      some (decide (x6 ≤ x5))
    else
      some false) : Option Bool).bind fun m1 =>
    if m1 = true then
      (loopM (fun s => m_assessorref44_Pairs_lp3 lp1_0 lp2_0 lp2_1 x4 s) (lp2_1.length : Int) : Option Int).bind fun b9 =>
      (sub lp2_1 0 b9).bind fun x11 =>
      (app ([] : List Pair) x11).bind fun x12 =>
      (app x12 [(Pair.mk lp1_0 lp2_0 x4.1 x4.2)]).bind fun x13 =>
      (sub lp2_1 b9 (lp2_1.length : Int)).bind fun x14 =>
      (app x13 x14).bind fun x15 =>
      (inK .i64 (lp2_0 + 1)).bind fun x16 =>
      some (.next (x16, x15))
    else
      (inK .i64 (lp2_0 + 1)).bind fun x17 =>
      some (.next (x17, lp2_1))
  else
    some (.done lp2_1)
noncomputable def m_assessorref44_Pairs_lp1 (p0 : Int) (p1 : Int) (p2 : (List (List Mark))) (lp1_0 : Int) (lp1_1 : (List Pair)) : Option (Step (Int × (List Pair)) (List Pair)) :=
  if (decide (lp1_0 < (p2.length : Int))) = true then
    (inK .i64 (lp1_0 + 1)).bind fun x1 =>
    (loopM (fun s => m_assessorref44_Pairs_lp2 p0 p1 p2 lp1_0 s.1 s.2) (x1, lp1_1) : Option (List Pair)).bind fun b5 =>
    (inK .i64 (lp1_0 + 1)).bind fun x18 =>
    some (.next (x18, b5))
  else
    some (.done lp1_1)
noncomputable def m_assessorref44_Pairs (p0 : Int) (p1 : Int) (p2 : (List (List Mark))) : Option ((List Pair) × Int) :=
  if ((((decide (p1 < 1)) || (decide (10000 < p1))) || (decide (p0 < 0))) || (decide (p1 < p0))) = true then
    some (([] : List Pair), 1)
  else
    if (decide (64 < (p2.length : Int))) = true then
      some (([] : List Pair), 8)
    else
      (loopM (fun s => m_assessorref44_Pairs_lp1 p0 p1 p2 s.1 s.2) (0, ([] : List Pair)) : Option (List Pair)).bind fun b4 =>
      some (b4, 0)
end Go.Proofs.Ytmfepkadggigpaa

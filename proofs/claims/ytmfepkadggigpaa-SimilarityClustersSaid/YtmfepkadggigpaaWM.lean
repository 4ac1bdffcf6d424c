/-
  Models of: assessor/assessorlaw44.overlaps, assessor/assessorlaw44.pairs, assessor/assessorlaw44.few, assessor/assessorlaw44.awake. (Printed by wip/sp/gen.py.)
-/
import Derived.Test.YtmfepkadggigpaaFM
import Derived.Test.YtmfepkadggigpaaGM
import Derived.Test.YtmfepkadggigpaaROM
set_option linter.unusedVariables false
set_option linter.unusedSimpArgs false
namespace Go.Proofs.Ytmfepkadggigpaa
open Go.RowKit
noncomputable def m_assessorlaw44_overlaps_lp1 (p0 : (List Overlap)) (p1 : (List Overlap)) (lp1_0 : Int) : Option (Step Int (Out Unit Bool)) :=
  if (decide (lp1_0 < (p0.length : Int))) = true then
    (idx p0 lp1_0).bind fun x1 =>
    (idx p1 lp1_0).bind fun x2 =>
    if (!((decide (x1.a = x2.a)) && (decide (x1.b = x2.b)) && (decide (x1.len = x2.len)))) = true then
      some (.done (.ret false))
    else
      (inK .i64 (lp1_0 + 1)).bind fun x3 =>
      some (.next x3)
  else
    some (.done (.brk ()))
noncomputable def m_assessorlaw44_overlaps (p0 : (List Overlap)) (p1 : (List Overlap)) : Option Bool :=
  if (!decide ((p0.length : Int) = (p1.length : Int))) = true then
    some false
  else
    (loopM (fun s => m_assessorlaw44_overlaps_lp1 p0 p1 s) 0 : Option (Out Unit Bool)).bind fun b1 =>
    match b1 with
    | .brk b1s =>
      some true
    | .ret r => some r
noncomputable def m_assessorlaw44_pairs_lp1 (p0 : (List Pair)) (p1 : (List Pair)) (lp1_0 : Int) : Option (Step Int (Out Unit Bool)) :=
  if (decide (lp1_0 < (p0.length : Int))) = true then
    (idx p0 lp1_0).bind fun x1 =>
    (idx p1 lp1_0).bind fun x2 =>
    if (!((decide (x1.a = x2.a)) && (decide (x1.b = x2.b)) && (decide (x1.shared = x2.shared)) && (decide (x1.total = x2.total)))) = true then
      some (.done (.ret false))
    else
      (inK .i64 (lp1_0 + 1)).bind fun x3 =>
      some (.next x3)
  else
    some (.done (.brk ()))
noncomputable def m_assessorlaw44_pairs (p0 : (List Pair)) (p1 : (List Pair)) : Option Bool :=
  if (!decide ((p0.length : Int) = (p1.length : Int))) = true then
    some false
  else
    (loopM (fun s => m_assessorlaw44_pairs_lp1 p0 p1 s) 0 : Option (Out Unit Bool)).bind fun b1 =>
    match b1 with
    | .brk b1s =>
      some true
    | .ret r => some r
noncomputable def m_assessorlaw44_few_lp1 (p0 : (List (List Mark))) (p2 : Int) (lp1_0 : Int) : Option (Step Int (Out Unit Bool)) :=
  if (decide (lp1_0 < (p0.length : Int))) = true then
    (idx p0 lp1_0).bind fun x1 =>
    if (decide (p2 < (x1.length : Int))) = true then
      some (.done (.ret false))
    else
      (inK .i64 (lp1_0 + 1)).bind fun x2 =>
      some (.next x2)
  else
    some (.done (.brk ()))
noncomputable def m_assessorlaw44_few (p0 : (List (List Mark))) (p1 : Int) (p2 : Int) : Option Bool :=
  (loopM (fun s => m_assessorlaw44_few_lp1 p0 p2 s) 0 : Option (Out Unit Bool)).bind fun b1 =>
  match b1 with
  | .brk b1s =>
    some (decide ((p0.length : Int) ≤ p1))
  | .ret r => some r
noncomputable def m_assessorlaw44_awake  : Option Bool :=
  (m_similarity_Compare ([(Mark.mk 5 0), (Mark.mk 7 3), (Mark.mk 9 9)] : List Mark) ([(Mark.mk 7 5), (Mark.mk 5 2), (Mark.mk 8 6)] : List Mark)).bind fun x1 =>
  (m_similarity_Overlaps ([(Mark.mk 5 0), (Mark.mk 7 3), (Mark.mk 9 9)] : List Mark) ([(Mark.mk 7 5), (Mark.mk 5 2), (Mark.mk 8 6)] : List Mark) 3).bind fun x2 =>
  (m_similarity_Overlaps ([(Mark.mk 5 0), (Mark.mk 7 3), (Mark.mk 9 9)] : List Mark) ([(Mark.mk 7 5), (Mark.mk 5 2), (Mark.mk 8 6)] : List Mark) 2).bind fun x3 =>
  (m_similarity_Pairs 1 2 ([([(Mark.mk 5 0), (Mark.mk 7 3), (Mark.mk 9 9)] : List Mark), ([(Mark.mk 7 5), (Mark.mk 5 2), (Mark.mk 8 6)] : List Mark), []] : List (List Mark))).bind fun x4 =>
  (m_similarity_Clusters 3 ([(Pair.mk 2 0 0 0)] : List Pair)).bind fun x5 =>
  ((if (((decide (x1.1 = 2)) && (decide (x1.2 = 4))) && (decide (x2.2 = 0))) = true then
    (m_assessorlaw44_overlaps x2.1 ([(Overlap.mk 0 2 6)] : List Overlap)).bind fun x6 =>
    some x6
  else
    some false) : Option Bool).bind fun m1 =>
  ((if (m1 && (decide (x3.2 = 0))) = true then
    (m_assessorlaw44_overlaps x3.1 ([(Overlap.mk 0 2 2), (Overlap.mk 3 5 2)] : List Overlap)).bind fun x7 =>
    some x7
  else
    some false) : Option Bool).bind fun m2 =>
  ((if (m2 && (decide (x4.2 = 0))) = true then
    (m_assessorlaw44_pairs x4.1 ([(Pair.mk 0 1 2 4)] : List Pair)).bind fun x8 =>
    some x8
  else
    some false) : Option Bool).bind fun m3 =>
  ((if ((m3 && (decide (x5.2 = 0))) && (decide ((x5.1.length : Int) = 1))) = true then
    (idx x5.1 0).bind fun x9 =>
    (m_assessorref35_Same x9 ([0, 2] : List Int)).bind fun x10 =>
    some x10
  else
    some false) : Option Bool).bind fun m4 =>
  ((if m4 = true then
    (m_similarity_Hashes ([(Mark.mk 5 0), (Mark.mk 7 3), (Mark.mk 9 9)] : List Mark)).bind fun x11 =>
    (m_assessorref35_Same x11 ([5, 7, 9] : List Int)).bind fun x12 =>
    some x12
  else
    some false) : Option Bool).bind fun m5 =>
  ((if m5 = true then
    (m_similarity_Without ([(Mark.mk 5 0), (Mark.mk 7 3), (Mark.mk 9 9)] : List Mark) ([7] : List Int)).bind fun x13 =>
    some (decide ((x13.length : Int) = 2))
  else
    some false) : Option Bool).bind fun m6 =>
  ((if m6 = true then
    (m_similarity_Frequent 1 ([([(Mark.mk 5 0), (Mark.mk 7 3), (Mark.mk 9 9)] : List Mark), ([(Mark.mk 7 5), (Mark.mk 5 2), (Mark.mk 8 6)] : List Mark)] : List (List Mark))).bind fun x14 =>
    (m_assessorref35_Same x14 ([5, 7] : List Int)).bind fun x15 =>
    some x15
  else
    some false) : Option Bool).bind fun m7 =>
  some m7
end Go.Proofs.Ytmfepkadggigpaa

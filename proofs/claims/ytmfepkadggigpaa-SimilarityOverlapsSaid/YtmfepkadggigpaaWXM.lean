/-
  Models of: assessor/assessorlaw44.SimilarityMatches. (Printed by wip/sp/gen.py.)
-/
import Derived.Test.YtmfepkadggigpaaWM
set_option linter.unusedVariables false
set_option linter.unusedSimpArgs false
namespace Go.Proofs.Ytmfepkadggigpaa
open Go.RowKit
noncomputable def m_assessorlaw44_SimilarityMatches_lp1 (x4 : ((List Overlap) × Int)) (lp1_0 : Int) (lp1_1 : (List (Overlap × Bool))) : Option (Step (Int × (List (Overlap × Bool))) (List (Overlap × Bool))) :=
  if (decide (lp1_0 < (x4.1.length : Int))) = true then
    (idx x4.1 lp1_0).bind fun x5 =>
    (inK .i64 (lp1_0 + 1)).bind fun x6 =>
    some (.next (x6, mput lp1_1 (Overlap.mk x5.b x5.a x5.len) true))
  else
    some (.done lp1_1)
noncomputable def m_assessorlaw44_SimilarityMatches_lp3 (x7 : Overlap) (x10 : List Overlap) (lp3_0 : Int) : Option (Step Int (Out Unit Bool)) :=
  if (decide (lp3_0 < (x10.length : Int))) = true then
    (idx x10 lp3_0).bind fun x11 =>
    (inK .i64 (x11.b - x11.a)).bind fun x12 =>
    (inK .i64 (x7.b - x7.a)).bind fun x13 =>
    ((if (decide (x12 = x13)) = true then
      (inK .i64 (x7.a + x7.len)).bind fun x14 =>
      some (decide (x11.a ≤ x14))
    else
      some false) : Option Bool).bind fun m3 =>
    ((if m3 = true then
      (inK .i64 (x11.a + x11.len)).bind fun x15 =>
      some (decide (x7.a ≤ x15))
    else
      some false) : Option Bool).bind fun m4 =>
    if m4 = true then
      some (.done (.ret false))
    else
      (inK .i64 (lp3_0 + 1)).bind fun x16 =>
      some (.next x16)
  else
    some (.done (.brk ()))
noncomputable def m_assessorlaw44_SimilarityMatches_lp2 (p2 : Int) (x3 : ((List Overlap) × Int)) (b3 : (List (Overlap × Bool))) (lp2_0 : Int) : Option (Step Int (Out Unit Bool)) :=
  if (decide (lp2_0 < (x3.1.length : Int))) = true then
    (idx x3.1 lp2_0).bind fun x7 =>
    ((if ((decide (x7.len < p2)) || (!((mget (b3 : List (Overlap × Bool)) x7).getD false))) = true then
      some true
    else
      ((if (decide (0 < lp2_0)) = true then
        (inK .i64 (lp2_0 - 1)).bind fun x8 =>
        (idx x3.1 x8).bind fun x9 =>
        some (decide (x9.len < x7.len))
      else
        some false) : Option Bool).bind fun m2 =>
      some m2) : Option Bool).bind fun m1 =>
    if m1 = true then
      some (.done (.ret false))
    else
      (sub x3.1 0 lp2_0).bind fun x10 =>
      (loopM (fun s => m_assessorlaw44_SimilarityMatches_lp3 x7 x10 s) 0 : Option (Out Unit Bool)).bind fun b10 =>
      match b10 with
      | .brk b10s =>
        (inK .i64 (lp2_0 + 1)).bind fun x17 =>
        some (.next x17)
      | .ret r => some (.done (.ret r))
  else
    some (.done (.brk ()))
noncomputable def m_assessorlaw44_SimilarityMatches_lp6 (p2 : Int) (x3 : ((List Overlap) × Int)) (x18 : Mark) (x19 : Mark) (lp6_0 : Int) (lp6_1 : Int) : Option (Step (Int × Int) Int) :=
  if (decide (lp6_1 < (x3.1.length : Int))) = true then
    (idx x3.1 lp6_1).bind fun x20 =>
    (inK .i64 (x20.b - x20.a)).bind fun x21 =>
    (inK .i64 (x19.at_ - x18.at_)).bind fun x22 =>
    ((if ((decide (x21 = x22)) && (decide (x20.a ≤ x18.at_))) = true then
      (inK .i64 (x18.at_ + p2)).bind fun x23 =>
      (inK .i64 (x20.a + x20.len)).bind fun x24 =>
      some (decide (x23 ≤ x24))
    else
      some false) : Option Bool).bind fun m5 =>
    if m5 = true then
      (inK .i64 (lp6_0 + 1)).bind fun x25 =>
      (inK .i64 (lp6_1 + 1)).bind fun x26 =>
      some (.next (x25, x26))
    else
      (inK .i64 (lp6_1 + 1)).bind fun x27 =>
      some (.next (lp6_0, x27))
  else
    some (.done lp6_0)
noncomputable def m_assessorlaw44_SimilarityMatches_lp5 (p1 : (List Mark)) (p2 : Int) (x3 : ((List Overlap) × Int)) (x18 : Mark) (lp5_0 : Int) : Option (Step Int (Out Unit Bool)) :=
  if (decide (lp5_0 < (p1.length : Int))) = true then
    (((idx p1 lp5_0).bind fun x19 =>
    if (!decide (x18.hash = x19.hash)) = true then
      some (.brk ())
    else
      (loopM (fun s => m_assessorlaw44_SimilarityMatches_lp6 p2 x3 x18 x19 s.1 s.2) (0, 0) : Option Int).bind fun b19 =>
      if (!decide (b19 = 1)) = true then
        some (.ret false)
      else
        some (.brk ())) : Option (Out Unit Bool)).bind fun j1 =>
    match j1 with
    | .brk j1s =>
      (inK .i64 (lp5_0 + 1)).bind fun x28 =>
      some (.next x28)
    | .ret r => some (.done (.ret r))
  else
    some (.done (.brk ()))
noncomputable def m_assessorlaw44_SimilarityMatches_lp4 (p0 : (List Mark)) (p1 : (List Mark)) (p2 : Int) (x3 : ((List Overlap) × Int)) (lp4_0 : Int) : Option (Step Int (Out Unit Bool)) :=
  if (decide (lp4_0 < (p0.length : Int))) = true then
    (idx p0 lp4_0).bind fun x18 =>
    (loopM (fun s => m_assessorlaw44_SimilarityMatches_lp5 p1 p2 x3 x18 s) 0 : Option (Out Unit Bool)).bind fun b16 =>
    match b16 with
    | .brk b16s =>
      (inK .i64 (lp4_0 + 1)).bind fun x29 =>
      some (.next x29)
    | .ret r => some (.done (.ret r))
  else
    some (.done (.brk ()))
noncomputable def m_assessorlaw44_SimilarityMatches (p0 : (List Mark)) (p1 : (List Mark)) (p2 : Int) : Option Bool :=
  (m_assessorlaw44_awake ).bind fun x1 =>
  if (!x1) = true then
    some false
  else
    (m_assessorlaw44_few ([p0, p1] : List (List Mark)) 2 25).bind fun x2 =>
    if (!x2) = true then
      some true
    else
      (m_similarity_Overlaps p0 p1 p2).bind fun x3 =>
      (m_similarity_Overlaps p1 p0 p2).bind fun x4 =>
      if ((!decide (x3.2 = x4.2)) || (!decide ((x3.1.length : Int) = (x4.1.length : Int)))) = true then
        some false
      else
        if (!decide (x3.2 = 0)) = true then
          some (decide ((x3.1.length : Int) = 0))
        else
          (loopM (fun s => m_assessorlaw44_SimilarityMatches_lp1 x4 s.1 s.2) (0, []) : Option (List (Overlap × Bool))).bind fun b3 =>
          (loopM (fun s => m_assessorlaw44_SimilarityMatches_lp2 p2 x3 b3 s) 0 : Option (Out Unit Bool)).bind fun b6 =>
          match b6 with
          | .brk b6s =>
            (loopM (fun s => m_assessorlaw44_SimilarityMatches_lp4 p0 p1 p2 x3 s) 0 : Option (Out Unit Bool)).bind fun b13 =>
            match b13 with
            | .brk b13s =>
              some true
            | .ret r => some r
          | .ret r => some r
end Go.Proofs.Ytmfepkadggigpaa

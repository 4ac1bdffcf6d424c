/-
  Models of: assessor/assessorlaw44.SimilarityFiner. (Printed by wip/sp/gen.py.)
-/
import Derived.Test.YtmfepkadggigpaaWM
set_option linter.unusedVariables false
set_option linter.unusedSimpArgs false
namespace Go.Proofs.Ytmfepkadggigpaa
open Go.RowKit
noncomputable def m_assessorlaw44_SimilarityFiner_lp3 (x13 : (List Int)) (x14 : (List Int)) (lp3_0 : Bool) (lp3_1 : Int) : Option (Step (Bool × Int) Bool) :=
  if (decide (lp3_1 < (x13.length : Int))) = true then
    (idx x13 lp3_1).bind fun x15 =>
    ((if lp3_0 = true then
      (m_assessorref44_Has x14 x15).bind fun x16 =>
      some x16
    else
      some false) : Option Bool).bind fun m2 =>
    (inK .i64 (lp3_1 + 1)).bind fun x17 =>
    some (.next (m2, x17))
  else
    some (.done lp3_0)
noncomputable def m_assessorlaw44_SimilarityFiner_lp2 (x11 : ((List (List Int)) × Int)) (x13 : (List Int)) (lp2_0 : Bool) (lp2_1 : Int) : Option (Step (Bool × Int) Bool) :=
  if (decide (lp2_1 < (x11.1.length : Int))) = true then
    (idx x11.1 lp2_1).bind fun x14 =>
    (loopM (fun s => m_assessorlaw44_SimilarityFiner_lp3 x13 x14 s.1 s.2) (true, 0) : Option Bool).bind fun b5 =>
    (inK .i64 (lp2_1 + 1)).bind fun x18 =>
    some (.next (lp2_0 || b5, x18))
  else
    some (.done lp2_0)
noncomputable def m_assessorlaw44_SimilarityFiner_lp1 (x11 : ((List (List Int)) × Int)) (x12 : ((List (List Int)) × Int)) (lp1_0 : Int) : Option (Step Int (Out Unit Bool)) :=
  if (decide (lp1_0 < (x12.1.length : Int))) = true then
    (idx x12.1 lp1_0).bind fun x13 =>
    (loopM (fun s => m_assessorlaw44_SimilarityFiner_lp2 x11 x13 s.1 s.2) (false, 0) : Option Bool).bind fun b3 =>
    if (!b3) = true then
      some (.done (.ret false))
    else
      (inK .i64 (lp1_0 + 1)).bind fun x19 =>
      some (.next x19)
  else
    some (.done (.brk ()))
noncomputable def m_assessorlaw44_SimilarityFiner (p0 : Int) (p1 : Int) (p2 : (List (List Mark))) : Option Bool :=
  (m_assessorlaw44_awake ).bind fun x1 =>
  if (!x1) = true then
    some false
  else
    (m_assessorlaw44_few p2 8 30).bind fun x2 =>
    if (!x2) = true then
      some true
    else
      (inK .i64 p0).bind fun x3 =>
      (inK .i64 p1).bind fun x4 =>
      (inK .i64 p0).bind fun x5 =>
      (inK .i64 p1).bind fun x6 =>
      (m_similarity_Pairs (min x3 x4) 255 p2).bind fun x7 =>
      (m_similarity_Pairs (max x5 x6) 255 p2).bind fun x8 =>
      ((if (((!decide (x7.2 = 0)) || (!decide (x8.2 = 0))) || (decide ((x7.1.length : Int) < (x8.1.length : Int)))) = true then
        some true
      else
        (sub x7.1 0 (x8.1.length : Int)).bind fun x9 =>
        (m_assessorlaw44_pairs x9 x8.1).bind fun x10 =>
        some (!x10)) : Option Bool).bind fun m1 =>
      if m1 = true then
        some false
      else
        (m_similarity_Clusters (p2.length : Int) x7.1).bind fun x11 =>
        (m_similarity_Clusters (p2.length : Int) x8.1).bind fun x12 =>
        if ((!decide (x11.2 = 0)) || (!decide (x12.2 = 0))) = true then
          some false
        else
          (loopM (fun s => m_assessorlaw44_SimilarityFiner_lp1 x11 x12 s) 0 : Option (Out Unit Bool)).bind fun b1 =>
          match b1 with
          | .brk b1s =>
            some true
          | .ret r => some r
end Go.Proofs.Ytmfepkadggigpaa

/-
  Models of: assessor/assessorlaw44.SimilarityCounts. (Printed by wip/sp/gen.py.)
-/
import Derived.Test.YtmfepkadggigpaaWM
set_option linter.unusedVariables false
set_option linter.unusedSimpArgs false
namespace Go.Proofs.Ytmfepkadggigpaa
open Go.RowKit
noncomputable def m_assessorlaw44_SimilarityCounts_lp2 (p0 : (List (List Mark))) (x3 : (List Mark)) (lp2_0 : Int) : Option (Step Int (Out Unit Bool)) :=
  if (decide (lp2_0 < (p0.length : Int))) = true then
    (idx p0 lp2_0).bind fun x10 =>
    (m_similarity_Compare x3 x10).bind fun x11 =>
    (m_assessorref44_Compare x3 x10).bind fun x12 =>
    if ((!decide (x11.1 = x12.1)) || (!decide (x11.2 = x12.2))) = true then
      some (.done (.ret false))
    else
      (inK .i64 (lp2_0 + 1)).bind fun x13 =>
      some (.next x13)
  else
    some (.done (.brk ()))
noncomputable def m_assessorlaw44_SimilarityCounts_lp1 (p0 : (List (List Mark))) (p1 : (List Int)) (lp1_0 : Int) : Option (Step Int (Out Unit Bool)) :=
  if (decide (lp1_0 < (p0.length : Int))) = true then
    (idx p0 lp1_0).bind fun x3 =>
    (m_similarity_Hashes x3).bind fun x4 =>
    (m_assessorref44_Hashes x3).bind fun x5 =>
    (m_assessorref35_Same x4 x5).bind fun x6 =>
    ((if (!x6) = true then
      some true
    else
      (m_similarity_Without x3 p1).bind fun x7 =>
      (m_assessorref44_Without x3 p1).bind fun x8 =>
      (m_assessorref43_Same x7 x8).bind fun x9 =>
      some (!x9)) : Option Bool).bind fun m1 =>
    if m1 = true then
      some (.done (.ret false))
    else
      (loopM (fun s => m_assessorlaw44_SimilarityCounts_lp2 p0 x3 s) 0 : Option (Out Unit Bool)).bind fun b3 =>
      match b3 with
      | .brk b3s =>
        (inK .i64 (lp1_0 + 1)).bind fun x14 =>
        some (.next x14)
      | .ret r => some (.done (.ret r))
  else
    some (.done (.brk ()))
noncomputable def m_assessorlaw44_SimilarityCounts (p0 : (List (List Mark))) (p1 : (List Int)) (p2 : Int) : Option Bool :=
  (m_assessorlaw44_awake ).bind fun x1 =>
  if (!x1) = true then
    some false
  else
    (m_assessorlaw44_few p0 8 30).bind fun x2 =>
    if ((!x2) || (decide (20 < (p1.length : Int)))) = true then
      some true
    else
      (loopM (fun s => m_assessorlaw44_SimilarityCounts_lp1 p0 p1 s) 0 : Option (Out Unit Bool)).bind fun b1 =>
      match b1 with
      | .brk b1s =>
        (m_similarity_Frequent p2 p0).bind fun x15 =>
        (m_assessorref44_Frequent p2 p0).bind fun x16 =>
        (m_assessorref35_Same x15 x16).bind fun x17 =>
        some x17
      | .ret r => some r
end Go.Proofs.Ytmfepkadggigpaa

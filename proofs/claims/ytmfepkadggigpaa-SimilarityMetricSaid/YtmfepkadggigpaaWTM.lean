/-
  Models of: assessor/assessorlaw44.SimilarityMetric$1, assessor/assessorlaw44.SimilarityMetric. (Printed by wip/sp/gen.py.)
-/
import Derived.Test.YtmfepkadggigpaaWM
set_option linter.unusedVariables false
set_option linter.unusedSimpArgs false
namespace Go.Proofs.Ytmfepkadggigpaa
open Go.RowKit
noncomputable def m_assessorlaw44_SimilarityMetric_1 (p0 : (List Mark)) (p1 : (List Mark)) : Option (Int × Int) :=
  (m_similarity_Compare p0 p1).bind fun x1 =>
  (inK .i64 (x1.2 - x1.1)).bind fun x2 =>
  some (x2, x1.2)
noncomputable def m_assessorlaw44_SimilarityMetric (p0 : (List Mark)) (p1 : (List Mark)) (p2 : (List Mark)) : Option Bool :=
  (m_assessorlaw44_awake ).bind fun x1 =>
  if (!x1) = true then
    some false
  else
    (m_assessorlaw44_few ([p0, p1, p2] : List (List Mark)) 3 60).bind fun x2 =>
    if ((((!x2) || (decide ((p0.length : Int) = 0))) || (decide ((p1.length : Int) = 0))) || (decide ((p2.length : Int) = 0))) = true then
      some true
    else
      (m_assessorlaw44_SimilarityMetric_1 p0 p1).bind fun x3 =>
      (m_assessorlaw44_SimilarityMetric_1 p1 p2).bind fun x4 =>
      (m_assessorlaw44_SimilarityMetric_1 p0 p2).bind fun x5 =>
      if ((((((decide (x3.2 < 1)) || (decide (x4.2 < 1))) || (decide (x5.2 < 1))) || (decide (x3.1 < 0))) || (decide (x4.1 < 0))) || (decide (x5.1 < 0))) = true then
        some false
      else
        (m_similarity_Hashes p0).bind fun x6 =>
        (m_similarity_Hashes p1).bind fun x7 =>
        (m_assessorref35_Same x6 x7).bind fun x8 =>
        (inK .i64 (x5.1 * x3.2)).bind fun x9 =>
        (inK .i64 (x9 * x4.2)).bind fun x10 =>
        (inK .i64 (x3.1 * x5.2)).bind fun x11 =>
        (inK .i64 (x11 * x4.2)).bind fun x12 =>
        (inK .i64 (x4.1 * x5.2)).bind fun x13 =>
        (inK .i64 (x13 * x3.2)).bind fun x14 =>
        (inK .i64 (x12 + x14)).bind fun x15 =>
        some ((decide (x10 ≤ x15)) && ((decide (x3.1 = 0)) == x8))
end Go.Proofs.Ytmfepkadggigpaa

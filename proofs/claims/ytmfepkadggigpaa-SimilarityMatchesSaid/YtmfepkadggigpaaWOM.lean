/-
  Models of: assessor/assessorlaw44.SimilarityOverlaps. (Printed by wip/sp/gen.py.)
-/
import Derived.Test.YtmfepkadggigpaaWM
set_option linter.unusedVariables false
set_option linter.unusedSimpArgs false
namespace Go.Proofs.Ytmfepkadggigpaa
open Go.RowKit
noncomputable def m_assessorlaw44_SimilarityOverlaps (p0 : (List Mark)) (p1 : (List Mark)) (p2 : Int) : Option Bool :=
  (m_assessorlaw44_awake ).bind fun x1 =>
  if (!x1) = true then
    some false
  else
    (m_assessorlaw44_few ([p0, p1] : List (List Mark)) 2 25).bind fun x2 =>
    ((if (!x2) = true then
      ((if ((decide ((p0.length : Int) ≤ 256)) && (decide ((p1.length : Int) ≤ 256))) = true then
        some true
      else
        (inK .i64 ((p0.length : Int) + (p1.length : Int))).bind fun x3 =>
        some (decide (600 < x3))) : Option Bool).bind fun m2 =>
      some m2
    else
      some false) : Option Bool).bind fun m1 =>
    if m1 = true then
      some true
    else
      (m_similarity_Overlaps p0 p1 p2).bind fun x4 =>
      (m_assessorref44_Overlaps p0 p1 p2).bind fun x5 =>
      ((if (decide (x4.2 = x5.2)) = true then
        (m_assessorlaw44_overlaps x4.1 x5.1).bind fun x6 =>
        some x6
      else
        some false) : Option Bool).bind fun m3 =>
      some m3
end Go.Proofs.Ytmfepkadggigpaa

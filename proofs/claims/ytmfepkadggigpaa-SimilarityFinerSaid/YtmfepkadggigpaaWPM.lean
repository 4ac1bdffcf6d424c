/-
  Models of: assessor/assessorlaw44.SimilarityPairs. (Printed by wip/sp/gen.py.)
-/
import Derived.Test.YtmfepkadggigpaaWM
set_option linter.unusedVariables false
set_option linter.unusedSimpArgs false
namespace Go.Proofs.Ytmfepkadggigpaa
open Go.RowKit
noncomputable def m_assessorlaw44_SimilarityPairs (p0 : Int) (p1 : Int) (p2 : (List (List Mark))) : Option Bool :=
  (m_assessorlaw44_awake ).bind fun x1 =>
  if (!x1) = true then
    some false
  else
    (m_assessorlaw44_few p2 8 30).bind fun x2 =>
    if ((!x2) && (decide ((p2.length : Int) ≤ 64))) = true then
      some true
    else
      (m_similarity_Pairs p0 p1 p2).bind fun x3 =>
      (m_assessorref44_Pairs p0 p1 p2).bind fun x4 =>
      ((if (decide (x3.2 = x4.2)) = true then
        (m_assessorlaw44_pairs x3.1 x4.1).bind fun x5 =>
        some x5
      else
        some false) : Option Bool).bind fun m1 =>
      some m1
end Go.Proofs.Ytmfepkadggigpaa

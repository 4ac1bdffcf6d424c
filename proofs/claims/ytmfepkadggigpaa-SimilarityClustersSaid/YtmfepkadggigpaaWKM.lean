/-
  Models of: assessor/assessorlaw44.SimilarityClusters. (Printed by wip/sp/gen.py.)
-/
import Derived.Test.YtmfepkadggigpaaWM
set_option linter.unusedVariables false
set_option linter.unusedSimpArgs false
namespace Go.Proofs.Ytmfepkadggigpaa
open Go.RowKit
noncomputable def m_assessorlaw44_SimilarityClusters_lp2 (lp1_0 : Int) (x7 : (List Int)) (lp2_0 : Int) (lp2_1 : (List (Int × Int))) : Option (Step (Int × (List (Int × Int))) (Out (List (Int × Int)) Bool)) :=
  if (decide (lp2_0 < (x7.length : Int))) = true then
    (idx x7 lp2_0).bind fun x8 =>
    if ((mget (lp2_1 : List (Int × Int)) x8).isSome) = true then
      some (.done (.ret false))
    else
      (inK .i64 (lp2_0 + 1)).bind fun x9 =>
      some (.next (x9, mput lp2_1 x8 lp1_0))
  else
    some (.done (.brk lp2_1))
noncomputable def m_assessorlaw44_SimilarityClusters_lp1 (x2 : ((List (List Int)) × Int)) (x3 : ((List (List Int)) × Int)) (lp1_0 : Int) (lp1_1 : (List (Int × Int))) : Option (Step (Int × (List (Int × Int))) (Out (List (Int × Int)) Bool)) :=
  if (decide (lp1_0 < (x2.1.length : Int))) = true then
    (idx x2.1 lp1_0).bind fun x4 =>
    (idx x3.1 lp1_0).bind fun x5 =>
    (m_assessorref35_Same x4 x5).bind fun x6 =>
    if (!x6) = true then
      some (.done (.ret false))
    else
      (idx x2.1 lp1_0).bind fun x7 =>
      (loopM (fun s => m_assessorlaw44_SimilarityClusters_lp2 lp1_0 x7 s.1 s.2) (0, lp1_1) : Option (Out (List (Int × Int)) Bool)).bind fun b6 =>
      match b6 with
      | .brk b6s =>
        (inK .i64 (lp1_0 + 1)).bind fun x10 =>
        some (.next (x10, b6s))
      | .ret r => some (.done (.ret r))
  else
    some (.done (.brk lp1_1))
noncomputable def m_assessorlaw44_SimilarityClusters_lp3 (p1 : (List Pair)) (x2 : ((List (List Int)) × Int)) (b2s : (List (Int × Int))) (lp3_0 : Int) : Option (Step Int (Out Unit Bool)) :=
  if (decide (lp3_0 < (p1.length : Int))) = true then
    (idx p1 lp3_0).bind fun x11 =>
    if ((decide (x2.2 = 0)) && (!decide (x11.a = x11.b))) = true then
      if (((!((mget (b2s : List (Int × Int)) x11.a).isSome)) || (!((mget (b2s : List (Int × Int)) x11.b).isSome))) || (!decide (((mget (b2s : List (Int × Int)) x11.a).getD 0) = ((mget (b2s : List (Int × Int)) x11.b).getD 0)))) = true then
        some (.done (.ret false))
      else
        (inK .i64 (lp3_0 + 1)).bind fun x12 =>
        some (.next x12)
    else
      (inK .i64 (lp3_0 + 1)).bind fun x13 =>
      some (.next x13)
  else
    some (.done (.brk ()))
noncomputable def m_assessorlaw44_SimilarityClusters (p0 : Int) (p1 : (List Pair)) : Option Bool :=
  (m_assessorlaw44_awake ).bind fun x1 =>
  if (!x1) = true then
    some false
  else
    if ((decide (60 < (p1.length : Int))) || ((decide (40 < p0)) && (decide (p0 ≤ 1024)))) = true then
      some true
    else
      (m_similarity_Clusters p0 p1).bind fun x2 =>
      (m_assessorref44_Clusters p0 p1).bind fun x3 =>
      if ((!decide (x2.2 = x3.2)) || (!decide ((x2.1.length : Int) = (x3.1.length : Int)))) = true then
        some false
      else
        (loopM (fun s => m_assessorlaw44_SimilarityClusters_lp1 x2 x3 s.1 s.2) (0, []) : Option (Out (List (Int × Int)) Bool)).bind fun b2 =>
        match b2 with
        | .brk b2s =>
          (loopM (fun s => m_assessorlaw44_SimilarityClusters_lp3 p1 x2 b2s s) 0 : Option (Out Unit Bool)).bind fun b8 =>
          match b8 with
          | .brk b8s =>
            some true
          | .ret r => some r
        | .ret r => some r
end Go.Proofs.Ytmfepkadggigpaa

/-
  Models of: assessor/assessorlaw43.FingerprintLocal$1, assessor/assessorlaw43.FingerprintLocal. (Printed by wip/sp/gen.py.)
-/
import Derived.Test.YtlnhijgieblmgaaDoorWM
set_option linter.unusedVariables false
set_option linter.unusedSimpArgs false
namespace Go.Proofs.YtlnhijgieblmgaaDoor
open Go.RowKit
noncomputable def m_assessorlaw43_FingerprintLocal_1_lp1 (p0 : (List Mark)) (c0 : Int) (lp1_0 : Int) : Option (Step Int (Out Unit Bool)) :=
  if (decide (lp1_0 < (p0.length : Int))) = true then
    (idx p0 lp1_0).bind fun x1 =>
    if (decide (x1.at_ = c0)) = true then
      some (.done (.ret true))
    else
      (inK .i64 (lp1_0 + 1)).bind fun x2 =>
      some (.next x2)
  else
    some (.done (.brk ()))
noncomputable def m_assessorlaw43_FingerprintLocal_1 (p0 : (List Mark)) (c0 : Int) : Option Bool :=
  (loopM (fun s => m_assessorlaw43_FingerprintLocal_1_lp1 p0 c0 s) 0 : Option (Out Unit Bool)).bind fun b1 =>
  match b1 with
  | .brk b1s =>
    some false
  | .ret r => some r
noncomputable def m_assessorlaw43_FingerprintLocal_lp1 (p1 : (List Int)) (p2 : Int) (p3 : Int) (x4 : List Int) (lp1_0 : Int) (lp1_1 : (List Int)) : Option (Step (Int × (List Int)) (List Int)) :=
  if (decide (lp1_0 < (x4.length : Int))) = true then
    (inK .i64 (p3 - p2)).bind fun x5 =>
    (inK .i64 (x5 + 1)).bind fun x6 =>
    ((if (decide (lp1_0 < x6)) = true then
      some true
    else
      (inK .i64 (p3 + p2)).bind fun x7 =>
      (inK .i64 (x7 - 1)).bind fun x8 =>
      some (decide (x8 < lp1_0))) : Option Bool).bind fun m3 =>
    if (m3 && (decide (0 < (p1.length : Int)))) = true then
      (remK lp1_0 (p1.length : Int)).bind fun x9 =>
      (idx p1 x9).bind fun x10 =>
      (idx lp1_1 lp1_0).bind fun x11 =>
      (inK .i64 (lp1_0 + 1)).bind fun x12 =>
      some (.next (x12, lp1_1.set lp1_0.toNat x10))
    else
      (inK .i64 (lp1_0 + 1)).bind fun x13 =>
      some (.next (x13, lp1_1))
  else
    some (.done lp1_1)
noncomputable def m_assessorlaw43_FingerprintLocal (p0 : (List Int)) (p1 : (List Int)) (p2 : Int) (p3 : Int) : Option Bool :=
  (m_assessorlaw43_awake ).bind fun x1 =>
  if (!x1) = true then
    some false
  else
    ((if ((decide (p2 < 1)) || (decide (20 < p2))) = true then
      some true
    else
      (inK .i64 (p2 - 1)).bind fun x2 =>
      some (decide (p3 < x2))) : Option Bool).bind fun m1 =>
    ((if (m1 || (decide (150 < (p0.length : Int)))) = true then
      some true
    else
      (inK .i64 ((p0.length : Int) - p2)).bind fun x3 =>
      some (decide (x3 < p3))) : Option Bool).bind fun m2 =>
    if (m2 || (decide (150 < (p1.length : Int)))) = true then
      some true
    else
      (app ([] : List Int) p0).bind fun x4 =>
      (loopM (fun s => m_assessorlaw43_FingerprintLocal_lp1 p1 p2 p3 x4 s.1 s.2) (0, x4) : Option (List Int)).bind fun b3 =>
      (m_fingerprint_Winnow p0 p2).bind fun x14 =>
      (m_fingerprint_Winnow b3 p2).bind fun x15 =>
      ((if ((decide (x14.2 = 0)) && (decide (x15.2 = 0))) = true then
        (m_assessorlaw43_FingerprintLocal_1 x14.1 p3).bind fun x16 =>
        (m_assessorlaw43_FingerprintLocal_1 x15.1 p3).bind fun x17 =>
        some (x16 == x17)
      else
        some false) : Option Bool).bind fun m4 =>
      some m4
end Go.Proofs.YtlnhijgieblmgaaDoor

/-
  Models of: assessor/assessorlaw43.FingerprintDense. (Printed by wip/sp/gen.py.)
-/
import Derived.Test.YtlnhijgieblmgaaDoorWM
set_option linter.unusedVariables false
set_option linter.unusedSimpArgs false
namespace Go.Proofs.YtlnhijgieblmgaaDoor
open Go.RowKit
noncomputable def m_assessorlaw43_FingerprintDense_lp1 (p0 : (List Int)) (p1 : Int) (x2 : ((List Mark) × Int)) (lp1_0 : Int) (lp1_1 : Int) : Option (Step (Int × Int) (Out Int Bool)) :=
  if (decide (lp1_1 < (x2.1.length : Int))) = true then
    (idx x2.1 lp1_1).bind fun x3 =>
    ((if ((decide (x3.at_ ≤ lp1_0)) || (decide ((p0.length : Int) ≤ x3.at_))) = true then
      some true
    else
      (idx p0 x3.at_).bind fun x4 =>
      some (!decide (x3.hash = x4))) : Option Bool).bind fun m1 =>
    ((if m1 = true then
      some true
    else
      ((if (decide (0 < lp1_1)) = true then
        (inK .i64 (x3.at_ - lp1_0)).bind fun x5 =>
        some (decide (p1 < x5))
      else
        some false) : Option Bool).bind fun m3 =>
      some m3) : Option Bool).bind fun m2 =>
    if m2 = true then
      some (.done (.ret false))
    else
      (inK .i64 (lp1_1 + 1)).bind fun x6 =>
      some (.next (x3.at_, x6))
  else
    some (.done (.brk lp1_0))
noncomputable def m_assessorlaw43_FingerprintDense (p0 : (List Int)) (p1 : Int) : Option Bool :=
  (m_assessorlaw43_awake ).bind fun x1 =>
  if (!x1) = true then
    some false
  else
    if (((decide (150 < (p0.length : Int))) || (decide (p1 < 1))) || (decide (64 < p1))) = true then
      some true
    else
      (m_fingerprint_Winnow p0 p1).bind fun x2 =>
      if ((!decide (x2.2 = 0)) || ((decide (0 < (p0.length : Int))) && (decide ((x2.1.length : Int) = 0)))) = true then
        some false
      else
        (loopM (fun s => m_assessorlaw43_FingerprintDense_lp1 p0 p1 x2 s.1 s.2) ((-1), 0) : Option (Out Int Bool)).bind fun b1 =>
        match b1 with
        | .brk b1s =>
          ((if ((decide ((p0.length : Int) = 0)) && (decide ((x2.1.length : Int) = 0))) = true then
            some true
          else
            ((if (decide (0 < (p0.length : Int))) = true then
              ((if (decide ((p0.length : Int) < p1)) = true then
                some true
              else
                (idx x2.1 0).bind fun x7 =>
                ((if (decide (x7.at_ < p1)) = true then
                  (inK .i64 ((p0.length : Int) - b1s)).bind fun x8 =>
                  some (decide (x8 ≤ p1))
                else
                  some false) : Option Bool).bind fun m7 =>
                some m7) : Option Bool).bind fun m6 =>
              some m6
            else
              some false) : Option Bool).bind fun m5 =>
            some m5) : Option Bool).bind fun m4 =>
          some m4
        | .ret r => some r
end Go.Proofs.YtlnhijgieblmgaaDoor

/-
  Models of: assessor/assessorlaw43.FingerprintRolls. (Printed by wip/sp/gen.py.)
-/
import Derived.Test.YtlnhijgieblmgaaDoorWM
set_option linter.unusedVariables false
set_option linter.unusedSimpArgs false
namespace Go.Proofs.YtlnhijgieblmgaaDoor
open Go.RowKit
noncomputable def m_assessorlaw43_FingerprintRolls_lp1 (p0 : (List Int)) (p1 : Int) (x2 : ((List Int) × Int)) (lp1_0 : Int) : Option (Step Int (Out Unit Bool)) :=
  if (decide (lp1_0 < (x2.1.length : Int))) = true then
    (idx x2.1 lp1_0).bind fun x5 =>
    (inK .i64 (lp1_0 + p1)).bind fun x6 =>
    (sub p0 lp1_0 x6).bind fun x7 =>
    (m_fingerprint_Hash x7).bind fun x8 =>
    ((if (!decide (x5 = x8)) = true then
      some true
    else
      (idx x2.1 lp1_0).bind fun x9 =>
      some (decide (x9 < 0))) : Option Bool).bind fun m2 =>
    ((if m2 = true then
      some true
    else
      (idx x2.1 lp1_0).bind fun x10 =>
      some (decide (2147483647 ≤ x10))) : Option Bool).bind fun m3 =>
    if m3 = true then
      some (.done (.ret false))
    else
      if (decide (0 < lp1_0)) = true then
        (inK .i64 (lp1_0 - 1)).bind fun x11 =>
        (idx x2.1 x11).bind fun x12 =>
        (inK .i64 (lp1_0 - 1)).bind fun x13 =>
        (idx p0 x13).bind fun x14 =>
        (inK .i64 (lp1_0 + p1)).bind fun x15 =>
        (inK .i64 (x15 - 1)).bind fun x16 =>
        (idx p0 x16).bind fun x17 =>
        (m_fingerprint_Roll x12 x14 x17 p1).bind fun x18 =>
        ((if (!decide (x18.2 = 0)) = true then
          some true
        else
          (idx x2.1 lp1_0).bind fun x19 =>
          some (!decide (x18.1 = x19))) : Option Bool).bind fun m4 =>
        if m4 = true then
          some (.done (.ret false))
        else
          (inK .i64 (lp1_0 + 1)).bind fun x20 =>
          some (.next x20)
      else
        (inK .i64 (lp1_0 + 1)).bind fun x21 =>
        some (.next x21)
  else
    some (.done (.brk ()))
noncomputable def m_assessorlaw43_FingerprintRolls (p0 : (List Int)) (p1 : Int) : Option Bool :=
  (m_assessorlaw43_awake ).bind fun x1 =>
  if (!x1) = true then
    some false
  else
    if (((decide (100 < (p0.length : Int))) || (decide (p1 < 1))) || (decide (64 < p1))) = true then
      some true
    else
      (m_fingerprint_Hashes p0 p1).bind fun x2 =>
      ((if (!decide (x2.2 = 0)) = true then
        some true
      else
        (inK .i64 ((p0.length : Int) - p1)).bind fun x3 =>
        (inK .i64 (x3 + 1)).bind fun x4 =>
        some (!decide ((x2.1.length : Int) = (max 0 x4)))) : Option Bool).bind fun m1 =>
      if m1 = true then
        some false
      else
        (loopM (fun s => m_assessorlaw43_FingerprintRolls_lp1 p0 p1 x2 s) 0 : Option (Out Unit Bool)).bind fun b1 =>
        match b1 with
        | .brk b1s =>
          some true
        | .ret r => some r
end Go.Proofs.YtlnhijgieblmgaaDoor

/-
  Models of: assessor/assessorlaw43.FingerprintGuarantee$1, assessor/assessorlaw43.FingerprintGuarantee. (Printed by wip/sp/gen.py.)
-/
import Derived.Test.YtlnhijgieblmgaaDoorWM
set_option linter.unusedVariables false
set_option linter.unusedSimpArgs false
namespace Go.Proofs.YtlnhijgieblmgaaDoor
open Go.RowKit
noncomputable def m_assessorlaw43_FingerprintGuarantee_1_lp1 (p0 : (List Int)) (c0 : (List Int)) (c1 : Int) (x4 : ((List Int) × Int)) (x5 : ((List Mark) × Int)) (lp1_0 : Int) (lp1_1 : (List (Mark × Bool))) : Option (Step (Int × (List (Mark × Bool))) (List (Mark × Bool))) :=
  if (decide (lp1_0 < (x5.1.length : Int))) = true then
    (idx x5.1 lp1_0).bind fun x6 =>
    (inK .i64 (x6.at_ - (p0.length : Int))).bind fun x7 =>
    ((if (((decide (x4.2 = 0)) && (decide (x5.2 = 0))) && (decide (0 ≤ x7))) = true then
      (inK .i64 ((c0.length : Int) - c1)).bind fun x8 =>
      some (decide (x7 ≤ x8))
    else
      some false) : Option Bool).bind fun m1 =>
    if m1 = true then
      (inK .i64 (lp1_0 + 1)).bind fun x9 =>
      some (.next (x9, mput lp1_1 (Mark.mk x6.hash x7) true))
    else
      (inK .i64 (lp1_0 + 1)).bind fun x10 =>
      some (.next (x10, lp1_1))
  else
    some (.done lp1_1)
noncomputable def m_assessorlaw43_FingerprintGuarantee_1 (p0 : (List Int)) (p1 : (List Int)) (c0 : (List Int)) (c1 : Int) (c2 : Int) : Option (List (Mark × Bool)) :=
  (app ([] : List Int) p0).bind fun x1 =>
  (app x1 c0).bind fun x2 =>
  (app x2 p1).bind fun x3 =>
  (m_fingerprint_Hashes x3 c1).bind fun x4 =>
  (m_fingerprint_Winnow x4.1 c2).bind fun x5 =>
  (loopM (fun s => m_assessorlaw43_FingerprintGuarantee_1_lp1 p0 c0 c1 x4 x5 s.1 s.2) (0, []) : Option (List (Mark × Bool))).bind fun b4 =>
  some b4
noncomputable def m_assessorlaw43_FingerprintGuarantee_lp1 (x7 : (List (Mark × Bool))) (en1 : (Mark × Bool)) : Option (Step Unit (Out Unit Bool)) :=
  if ((mget (x7 : List (Mark × Bool)) en1.1).getD false) = true then
    some (.done (.ret true))
  else
    some (.next ())
noncomputable def m_assessorlaw43_FingerprintGuarantee (p0 : (List Int)) (p1 : (List Int)) (p2 : (List Int)) (p3 : (List Int)) (p4 : (List Int)) (p5 : Int) (p6 : Int) : Option Bool :=
  (m_assessorlaw43_awake ).bind fun x1 =>
  if (!x1) = true then
    some false
  else
    ((if (((((decide (p5 < 1)) || (decide (p6 < 1))) || (decide (64 < p5))) || (decide (64 < p6))) || (decide (130 < (p0.length : Int)))) = true then
      some true
    else
      (inK .i64 (p6 + p5)).bind fun x2 =>
      (inK .i64 (x2 - 1)).bind fun x3 =>
      some (decide ((p0.length : Int) < x3))) : Option Bool).bind fun m1 =>
    ((if m1 = true then
      some true
    else
      (inK .i64 ((p1.length : Int) + (p2.length : Int))).bind fun x4 =>
      some (decide (60 < x4))) : Option Bool).bind fun m2 =>
    ((if m2 = true then
      some true
    else
      (inK .i64 ((p3.length : Int) + (p4.length : Int))).bind fun x5 =>
      some (decide (60 < x5))) : Option Bool).bind fun m3 =>
    if m3 = true then
      some true
    else
      (m_assessorlaw43_FingerprintGuarantee_1 p1 p2 p0 p5 p6).bind fun x6 =>
      (m_assessorlaw43_FingerprintGuarantee_1 p3 p4 p0 p5 p6).bind fun x7 =>
      (permM x6 (fun p => foldP (fun e s => m_assessorlaw43_FingerprintGuarantee_lp1 x7 e ) (fun s => some (.brk ())) p ()) : Option (Out Unit Bool)).bind fun b7 =>
      match b7 with
      | .brk b7s =>
        some false
      | .ret r => some r
end Go.Proofs.YtlnhijgieblmgaaDoor

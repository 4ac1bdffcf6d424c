/-
  Models of: assessor/assessorlaw37.list, assessor/assessorlaw37.cheapest, assessor/assessorlaw37.DistanceMapping. (Printed by wip/sp/gen.py.)
-/
import Derived.Test.YtnnccbagbgndpaaWM
set_option linter.unusedVariables false
set_option linter.unusedSimpArgs false
namespace Go.Proofs.Ytnnccbagbgndpaa
open Go.RowKit
noncomputable def m_assessorlaw37_list_body_lp1 (p0 : Node) (p1 : Int) (self : Node → Int → Option (List LFlat)) (lp1_0 : Int) (lp1_1 : (List LFlat)) : Option (Step (Int × (List LFlat)) (List LFlat)) :=
  if (decide (lp1_0 < (p0.kids.length : Int))) = true then
    (idx p0.kids lp1_0).bind fun x1 =>
    (inK .i64 (p1 + (lp1_1.length : Int))).bind fun x2 =>
    (self x1 x2).bind fun x3 =>
    (app lp1_1 x3).bind fun x4 =>
    (inK .i64 (lp1_0 + 1)).bind fun x5 =>
    some (.next (x5, x4))
  else
    some (.done lp1_1)
noncomputable def m_assessorlaw37_list_body (self : Node → Int → Option (List LFlat)) (p0 : Node) (p1 : Int) : Option (List LFlat) :=
  (loopM (fun s => m_assessorlaw37_list_body_lp1 p0 p1 self s.1 s.2) (0, ([(LFlat.mk p0 0)] : List LFlat)) : Option (List LFlat)).bind fun b3 =>
  (inK .i64 (p1 + (b3.length : Int))).bind fun x6 =>
  (idx b3 0).bind fun x7 =>
  some (b3.set (0 : Int).toNat (LFlat.mk x7.n x6))
noncomputable def m_assessorlaw37_list_r : Nat → Node → Int → Option (List LFlat)
  | 0 => fun _ _ => none
  | n + 1 => m_assessorlaw37_list_body (m_assessorlaw37_list_r n)
noncomputable def m_assessorlaw37_list (p0 : Node) (p1 : Int) : Option (List LFlat) := m_assessorlaw37_list_r (SizeOf.sizeOf p0 + 1) p0 p1
noncomputable def m_assessorlaw37_cheapest_body_lp1 (p0 : (List LFlat)) (p1 : (List LFlat)) (p2 : (List Int)) (lp1_0 : Int) (lp1_1 : Int) : Option (Step (Int × Int) Int) :=
  if (decide (lp1_1 < (p2.length : Int))) = true then
    (idx p2 lp1_1).bind fun x1 =>
    if (decide (x1 < 0)) = true then
      (inK .i64 (lp1_0 + 1)).bind fun x2 =>
      (inK .i64 (lp1_1 + 1)).bind fun x3 =>
      some (.next (x2, x3))
    else
      (idx p0 lp1_1).bind fun x4 =>
      (idx p1 x1).bind fun x5 =>
      (m_assessorref37_Label x4.n x5.n).bind fun x6 =>
      if x6 = true then
        (inK .i64 (lp1_0 - 1)).bind fun x7 =>
        (inK .i64 (lp1_1 + 1)).bind fun x8 =>
        some (.next (x7, x8))
      else
        (inK .i64 (lp1_1 + 1)).bind fun x9 =>
        some (.next (lp1_0, x9))
  else
    some (.done lp1_0)
noncomputable def m_assessorlaw37_cheapest_body_lp3 (p0 : (List LFlat)) (p1 : (List LFlat)) (p2 : (List Int)) (lp2_1 : Int) (lp3_0 : Bool) (lp3_1 : Int) : Option (Step (Bool × Int) Bool) :=
  if (decide (lp3_1 < (p2.length : Int))) = true then
    (idx p2 lp3_1).bind fun x13 =>
    ((if lp3_0 = true then
      ((if (decide (x13 < 0)) = true then
        some true
      else
        ((if (decide (x13 < lp2_1)) = true then
          (idx p0 lp3_1).bind fun x14 =>
          (idx p1 x13).bind fun x15 =>
          some ((decide ((p2.length : Int) < x14.last)) == (decide (lp2_1 < x15.last)))
        else
          some false) : Option Bool).bind fun m3 =>
        some m3) : Option Bool).bind fun m2 =>
      some m2
    else
      some false) : Option Bool).bind fun m1 =>
    (inK .i64 (lp3_1 + 1)).bind fun x16 =>
    some (.next (m1, x16))
  else
    some (.done lp3_0)
noncomputable def m_assessorlaw37_cheapest_body_lp2 (p0 : (List LFlat)) (p1 : (List LFlat)) (p2 : (List Int)) (self : (List LFlat) → (List LFlat) → (List Int) → Option Int) (lp2_0 : Int) (lp2_1 : Int) : Option (Step (Int × Int) Int) :=
  if (decide (lp2_1 < (p1.length : Int))) = true then
    (loopM (fun s => m_assessorlaw37_cheapest_body_lp3 p0 p1 p2 lp2_1 s.1 s.2) (true, 0) : Option Bool).bind fun b8 =>
    if b8 = true then
      (app ([] : List Int) p2).bind fun x17 =>
      (app x17 [lp2_1]).bind fun x18 =>
      (self p0 p1 x18).bind fun x19 =>
      (inK .i64 (lp2_1 + 1)).bind fun x20 =>
      some (.next (min lp2_0 x19, x20))
    else
      (inK .i64 (lp2_1 + 1)).bind fun x21 =>
      some (.next (lp2_0, x21))
  else
    some (.done lp2_0)
noncomputable def m_assessorlaw37_cheapest_body (self : (List LFlat) → (List LFlat) → (List Int) → Option Int) (p0 : (List LFlat)) (p1 : (List LFlat)) (p2 : (List Int)) : Option Int :=
  if (decide ((p2.length : Int) = (p0.length : Int))) = true then
    (loopM (fun s => m_assessorlaw37_cheapest_body_lp1 p0 p1 p2 s.1 s.2) ((p1.length : Int), 0) : Option Int).bind fun b1 =>
    some b1
  else
    (app ([] : List Int) p2).bind fun x10 =>
    (app x10 [(-1)]).bind fun x11 =>
    (self p0 p1 x11).bind fun x12 =>
    (loopM (fun s => m_assessorlaw37_cheapest_body_lp2 p0 p1 p2 self s.1 s.2) (x12, 0) : Option Int).bind fun b7 =>
    some b7
noncomputable def m_assessorlaw37_cheapest_r : Nat → (List LFlat) → (List LFlat) → (List Int) → Option Int
  | 0 => fun _ _ _ => none
  | n + 1 => m_assessorlaw37_cheapest_body (m_assessorlaw37_cheapest_r n)
noncomputable def m_assessorlaw37_cheapest (p0 : (List LFlat)) (p1 : (List LFlat)) (p2 : (List Int)) : Option Int := m_assessorlaw37_cheapest_r (p0.length + 1 - p2.length) p0 p1 p2
noncomputable def m_assessorlaw37_DistanceMapping (p0 : Node) (p1 : Node) : Option Bool :=
  (m_assessorlaw37_awake ).bind fun x1 =>
  if (!x1) = true then
    some false
  else
    (m_assessorlaw37_few p0 p1 5).bind fun x2 =>
    if (!x2) = true then
      some true
    else
      (m_distance_Distance p0 p1).bind fun x3 =>
      ((if (decide (x3.2 = 0)) = true then
        (m_assessorlaw37_list p0 0).bind fun x4 =>
        (m_assessorlaw37_list p1 0).bind fun x5 =>
        (m_assessorlaw37_cheapest x4 x5 []).bind fun x6 =>
        some (decide (x3.1 = x6))
      else
        some false) : Option Bool).bind fun m1 =>
      some m1
end Go.Proofs.Ytnnccbagbgndpaa

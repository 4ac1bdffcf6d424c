/-
  Models of: assessor/assessorref37.Count, assessor/assessorref37.Label, assessor/assessorref37.Same, assessor/assessorref37.few, assessor/assessorref37.Few. (Printed by wip/sp/gen.py.)
-/
import Derived.Test.YtnnccbagbgndpaaTy
set_option linter.unusedVariables false
set_option linter.unusedSimpArgs false
namespace Go.Proofs.Ytnnccbagbgndpaa
open Go.RowKit
noncomputable def m_assessorref37_Count_body_lp1 (p0 : Node) (self : Node → Option Int) (lp1_0 : Int) (lp1_1 : Int) : Option (Step (Int × Int) Int) :=
  if (decide (lp1_1 < (p0.kids.length : Int))) = true then
    (idx p0.kids lp1_1).bind fun x1 =>
    (self x1).bind fun x2 =>
    (inK .i64 (lp1_0 + x2)).bind fun x3 =>
    (inK .i64 (lp1_1 + 1)).bind fun x4 =>
    some (.next (x3, x4))
  else
    some (.done lp1_0)
noncomputable def m_assessorref37_Count_body (self : Node → Option Int) (p0 : Node) : Option Int :=
  (loopM (fun s => m_assessorref37_Count_body_lp1 p0 self s.1 s.2) (1, 0) : Option Int).bind fun b2 =>
  some b2
noncomputable def m_assessorref37_Count_r : Nat → Node → Option Int
  | 0 => fun _ => none
  | n + 1 => m_assessorref37_Count_body (m_assessorref37_Count_r n)
noncomputable def m_assessorref37_Count (p0 : Node) : Option Int := m_assessorref37_Count_r (SizeOf.sizeOf p0 + 1) p0
noncomputable def m_assessorref37_Label (p0 : Node) (p1 : Node) : Option Bool :=
  some ((decide (p0.kind = p1.kind)) && (decide (p0.text = p1.text)))
noncomputable def m_assessorref37_Same_body_lp1 (p0 : Node) (p1 : Node) (self : Node → Node → Option Bool) (lp1_0 : Int) : Option (Step Int (Out Unit Bool)) :=
  if (decide (lp1_0 < (p0.kids.length : Int))) = true then
    (idx p0.kids lp1_0).bind fun x2 =>
    (idx p1.kids lp1_0).bind fun x3 =>
    (self x2 x3).bind fun x4 =>
    if (!x4) = true then
      some (.done (.ret false))
    else
      (inK .i64 (lp1_0 + 1)).bind fun x5 =>
      some (.next x5)
  else
    some (.done (.brk ()))
noncomputable def m_assessorref37_Same_body (self : Node → Node → Option Bool) (p0 : Node) (p1 : Node) : Option Bool :=
  (m_assessorref37_Label p0 p1).bind fun x1 =>
  if ((!x1) || (!decide ((p0.kids.length : Int) = (p1.kids.length : Int)))) = true then
    some false
  else
    (loopM (fun s => m_assessorref37_Same_body_lp1 p0 p1 self s) 0 : Option (Out Unit Bool)).bind fun b3 =>
    match b3 with
    | .brk b3s =>
      some true
    | .ret r => some r
noncomputable def m_assessorref37_Same_r : Nat → Node → Node → Option Bool
  | 0 => fun _ _ => none
  | n + 1 => m_assessorref37_Same_body (m_assessorref37_Same_r n)
noncomputable def m_assessorref37_Same (p0 : Node) (p1 : Node) : Option Bool := m_assessorref37_Same_r (SizeOf.sizeOf p0 + 1) p0 p1
noncomputable def m_assessorref37_few_body_lp1 (p0 : Node) (self : Node → Int → Option Int) (lp1_0 : Int) (lp1_1 : Int) : Option (Step (Int × Int) Int) :=
  if ((decide (lp1_1 < (p0.kids.length : Int))) && (decide (0 ≤ lp1_0))) = true then
    (idx p0.kids lp1_1).bind fun x2 =>
    (self x2 lp1_0).bind fun x3 =>
    (inK .i64 (lp1_1 + 1)).bind fun x4 =>
    some (.next (x3, x4))
  else
    some (.done lp1_0)
noncomputable def m_assessorref37_few_body (self : Node → Int → Option Int) (p0 : Node) (p1 : Int) : Option Int :=
  if ((decide (p1 < 1)) || (decide (40 < (p0.text.size : Int)))) = true then
    some (-1)
  else
    (inK .i64 (p1 - 1)).bind fun x1 =>
    (loopM (fun s => m_assessorref37_few_body_lp1 p0 self s.1 s.2) (x1, 0) : Option Int).bind fun b2 =>
    some b2
noncomputable def m_assessorref37_few_r : Nat → Node → Int → Option Int
  | 0 => fun _ _ => none
  | n + 1 => m_assessorref37_few_body (m_assessorref37_few_r n)
noncomputable def m_assessorref37_few (p0 : Node) (p1 : Int) : Option Int := m_assessorref37_few_r (SizeOf.sizeOf p0 + 1) p0 p1
noncomputable def m_assessorref37_Few (p0 : Node) (p1 : Int) : Option Bool :=
  (m_assessorref37_few p0 p1).bind fun x1 =>
  some (decide (0 ≤ x1))
end Go.Proofs.Ytnnccbagbgndpaa

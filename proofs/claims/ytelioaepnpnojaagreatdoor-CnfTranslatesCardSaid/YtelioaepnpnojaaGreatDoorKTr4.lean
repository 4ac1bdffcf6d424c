/- Models of: assessor/gates.nodes, assessor/gates.Not, assessor/gates.Valid, (*assessor/gates.Builder).literal, assessor/gates.known, assessor/gates.Eval$1, asses -/
import Derived.Test.YtelioaepnpnojaaGreatDoorKTr3
import Derived.RangeFuncIn
import Derived.RangeFuncLeaves
import Derived.RangeFuncRecord
import Derived.RangeFuncSeq
import Derived.Test.YtelioaepnpnojaaGreatDoorProg
import Derived.Shelf.SlSortCmp.InsertionK
set_option linter.unusedVariables false
set_option linter.unusedSimpArgs false
namespace Go.Proofs.YtelioaepnpnojaaGreatDoor
open Go.RowKit
noncomputable def m_gates_nodes (p0 : Gates) : Option Int :=
  (inK .i64 (1 + p0.inputs)).bind fun x1 =>
  (inK .i64 (x1 + (p0.gates.length : Int))).bind fun x2 =>
  some x2
noncomputable def m_gates_Not (p0 : Int) : Option Int :=
  some (xorK .i64 p0 1)
noncomputable def m_gates_Valid_lp1 (p0 : Gates) (lp1_0 : Int) (lp1_1 : (List (Arr2 × Bool))) : Option (Step (Int × (List (Arr2 × Bool))) (Out (List (Arr2 × Bool)) Bool)) :=
  if (decide (lp1_0 < (p0.gates.length : Int))) = true then
    (idx p0.gates lp1_0).bind fun x2 =>
    (inK .i64 (1 + p0.inputs)).bind fun x3 =>
    (inK .i64 (x3 + lp1_0)).bind fun x4 =>
    ((if ((decide (x2.x0 < 2)) || (decide (x2.x1 ≤ x2.x0))) = true then
      some true
    else
      (inK .i64 (2 * x4)).bind fun x5 =>
      some (decide (x5 ≤ x2.x1))) : Option Bool).bind fun m2 =>
    ((if m2 = true then
      some true
    else
      (m_gates_Not x2.x0).bind fun x6 =>
      some (decide (x2.x1 = x6))) : Option Bool).bind fun m3 =>
    if (m3 || ((mget (lp1_1 : List (Arr2 × Bool)) x2).getD false)) = true then
      some (.done (.ret false))
    else
      (inK .i64 (lp1_0 + 1)).bind fun x7 =>
      some (.next (x7, mput lp1_1 x2 true))
  else
    some (.done (.brk lp1_1))
noncomputable def m_gates_Valid (p0 : Gates) : Option Bool :=
  ((if ((decide (p0.inputs < 0)) || (decide (1024 < p0.inputs))) = true then
    some true
  else
    (m_gates_nodes p0).bind fun x1 =>
    some (decide (65536 < x1))) : Option Bool).bind fun m1 =>
  if m1 = true then
    some false
  else
    (loopM (fun s => m_gates_Valid_lp1 p0 s.1 s.2) (0, []) : Option (Out (List (Arr2 × Bool)) Bool)).bind fun b3 =>
    match b3 with
    | .brk b3s =>
      some true
    | .ret r => some r
noncomputable def m_assessorref24_Not (p0 : Int) : Option Int :=
  (remK p0 2).bind fun x1 =>
  if (decide (x1 = 0)) = true then
    (inK .i64 (p0 + 1)).bind fun x2 =>
    some x2
  else
    (inK .i64 (p0 - 1)).bind fun x3 =>
    some x3
noncomputable def m_assessorref24_Nodes (p0 : Gates) : Option Int :=
  (inK .i64 (1 + p0.inputs)).bind fun x1 =>
  (inK .i64 (x1 + (p0.gates.length : Int))).bind fun x2 =>
  some x2
noncomputable def m_assessorref24_IsLiteral (p0 : Gates) (p1 : Int) : Option Bool :=
  ((if (decide (0 ≤ p1)) = true then
    (m_assessorref24_Nodes p0).bind fun x1 =>
    (inK .i64 (2 * x1)).bind fun x2 =>
    some (decide (p1 < x2))
  else
    some false) : Option Bool).bind fun m1 =>
  some m1
noncomputable def m_assessorref24_Valid_lp2 (p0 : Gates) (lp1_0 : Int) (lp2_0 : Int) : Option (Step Int (Out Unit Bool)) :=
  if (decide (lp2_0 < lp1_0)) = true then
    (idx p0.gates lp2_0).bind fun x8 =>
    (idx p0.gates lp1_0).bind fun x9 =>
    if ((decide (x8.x0 = x9.x0)) && (decide (x8.x1 = x9.x1))) = true then
      some (.done (.ret false))
    else
      (inK .i64 (lp2_0 + 1)).bind fun x10 =>
      some (.next x10)
  else
    some (.done (.brk ()))
noncomputable def m_assessorref24_Valid_lp1 (p0 : Gates) (lp1_0 : Int) : Option (Step Int (Out Unit Bool)) :=
  if (decide (lp1_0 < (p0.gates.length : Int))) = true then
    (idx p0.gates lp1_0).bind fun x2 =>
    (idx p0.gates lp1_0).bind fun x3 =>
    ((if ((decide (x2.x0 < 2)) || (decide (x3.x1 ≤ x2.x0))) = true then
      some true
    else
      (inK .i64 (1 + p0.inputs)).bind fun x4 =>
      (inK .i64 (x4 + lp1_0)).bind fun x5 =>
      (inK .i64 (2 * x5)).bind fun x6 =>
      some (decide (x6 ≤ x3.x1))) : Option Bool).bind fun m2 =>
    ((if m2 = true then
      some true
    else
      (m_assessorref24_Not x2.x0).bind fun x7 =>
      some (decide (x7 = x3.x1))) : Option Bool).bind fun m3 =>
    if m3 = true then
      some (.done (.ret false))
    else
      (loopM (fun s => m_assessorref24_Valid_lp2 p0 lp1_0 s) 0 : Option (Out Unit Bool)).bind fun b5 =>
      match b5 with
      | .brk b5s =>
        (inK .i64 (lp1_0 + 1)).bind fun x11 =>
        some (.next x11)
      | .ret r => some (.done (.ret r))
  else
    some (.done (.brk ()))
noncomputable def m_assessorref24_Valid (p0 : Gates) : Option Bool :=
  ((if (((decide (p0.inputs < 0)) || (decide (1024 < p0.inputs))) || (decide (65536 < (p0.gates.length : Int)))) = true then
    some true
  else
    (m_assessorref24_Nodes p0).bind fun x1 =>
    some (decide (65536 < x1))) : Option Bool).bind fun m1 =>
  if m1 = true then
    some false
  else
    (loopM (fun s => m_assessorref24_Valid_lp1 p0 s) 0 : Option (Out Unit Bool)).bind fun b2 =>
    match b2 with
    | .brk b2s =>
      some true
    | .ret r => some r
end Go.Proofs.YtelioaepnpnojaaGreatDoor

/- Models of: assessor/cnf.Translate$1, assessor/cnf.Translate, assessor/assessorref26.Translate. (Printed by wip/sp/gen.py.) -/
set_option linter.unusedVariables false
set_option linter.unusedSimpArgs false
namespace Go.Proofs.YtelioaepnpnojaaGreatDoor
open Go.RowKit
noncomputable def m_cnf_Translate_1 (p0 : (List Int)) (c0 : Formula) : Option Formula :=
  (m_cnf_Normal p0).bind fun x1 =>
  (app c0.clauses [x1.1]).bind fun x2 =>
  some (Formula.mk c0.vars x2)
noncomputable def m_cnf_Translate_lp1 (p1 : (List Int)) (x3 : Int) (lp1_0 : Int) : Option (Step Int (Out Unit (Formula × Int))) :=
  if (decide (lp1_0 < (p1.length : Int))) = true then
    (idx p1 lp1_0).bind fun x4 =>
    ((if (decide (x4 < 0)) = true then
      some true
    else
      (inK .i64 (2 * x3)).bind fun x5 =>
      some (decide (x5 ≤ x4))) : Option Bool).bind fun m1 =>
    if m1 = true then
      some (.done (.ret ((Formula.mk 0 ([])), 1)))
    else
      (inK .i64 (lp1_0 + 1)).bind fun x6 =>
      some (.next x6)
  else
    some (.done (.brk ()))
noncomputable def m_cnf_Translate_lp2 (p0 : Gates) (lp2_0 : Int) (lp2_1 : Int) (lp2_2 : (List (List Int))) : Option (Step (Int × Int × (List (List Int))) (Int × (List (List Int)))) :=
  if (decide (lp2_0 < (p0.gates.length : Int))) = true then
    (idx p0.gates lp2_0).bind fun x10 =>
    (inK .i64 (p0.inputs + lp2_0)).bind fun x11 =>
    (inK .i64 (x11 + 2)).bind fun x12 =>
    (m_cnf_Literal x10.x0).bind fun x13 =>
    (m_cnf_Literal x10.x1).bind fun x14 =>
    (inK .i64 (0 - x12)).bind fun x15 =>
    (m_cnf_Translate_1 ([x15, x13] : List Int) (Formula.mk lp2_1 lp2_2)).bind fun x16 =>
    (inK .i64 (0 - x12)).bind fun x17 =>
    (m_cnf_Translate_1 ([x17, x14] : List Int) x16).bind fun x18 =>
    (inK .i64 (0 - x13)).bind fun x19 =>
    (inK .i64 (0 - x14)).bind fun x20 =>
    (m_cnf_Translate_1 ([x12, x19, x20] : List Int) x18).bind fun x21 =>
    (inK .i64 (lp2_0 + 1)).bind fun x22 =>
    some (.next (x22, x21.vars, x21.clauses))
  else
    some (.done (lp2_1, lp2_2))
noncomputable def m_cnf_Translate_lp3 (p1 : (List Int)) (lp3_0 : Int) (lp3_1 : Int) (lp3_2 : (List (List Int))) : Option (Step (Int × Int × (List (List Int))) (Int × (List (List Int)))) :=
  if (decide (lp3_0 < (p1.length : Int))) = true then
    (idx p1 lp3_0).bind fun x23 =>
    (m_cnf_Literal x23).bind fun x24 =>
    (m_cnf_Translate_1 ([x24] : List Int) (Formula.mk lp3_1 lp3_2)).bind fun x25 =>
    (inK .i64 (lp3_0 + 1)).bind fun x26 =>
    some (.next (x26, x25.vars, x25.clauses))
  else
    some (.done (lp3_1, lp3_2))
noncomputable def m_cnf_Translate (p0 : Gates) (p1 : (List Int)) : Option (Formula × Int) :=
  (m_gates_Valid p0).bind fun x1 =>
  if (!x1) = true then
    some ((Formula.mk 0 ([])), 1)
  else
    (inK .i64 (1 + p0.inputs)).bind fun x2 =>
    (inK .i64 (x2 + (p0.gates.length : Int))).bind fun x3 =>
    (loopM (fun s => m_cnf_Translate_lp1 p1 x3 s) 0 : Option (Out Unit (Formula × Int))).bind fun b3 =>
    match b3 with
    | .brk b3s =>
      (inK .i64 (3 * (p0.gates.length : Int))).bind fun x7 =>
      (inK .i64 (1 + x7)).bind fun x8 =>
      (inK .i64 (x8 + (p1.length : Int))).bind fun x9 =>
      if (decide (262144 < x9)) = true then
        some ((Formula.mk 0 ([])), 8)
      else
        (loopM (fun s => m_cnf_Translate_lp2 p0 s.1 s.2.1 s.2.2) (0, x3, [([(-1)] : List Int)]) : Option (Int × (List (List Int)))).bind fun b8 =>
        (loopM (fun s => m_cnf_Translate_lp3 p1 s.1 s.2.1 s.2.2) (0, b8.1, b8.2) : Option (Int × (List (List Int)))).bind fun b14 =>
        some ((Formula.mk b14.1 b14.2), 0)
    | .ret r => some r
noncomputable def m_assessorref26_Translate_lp1 (p0 : Gates) (p1 : (List Int)) (lp1_0 : Int) : Option (Step Int (Out Unit (Formula × Int))) :=
  if (decide (lp1_0 < (p1.length : Int))) = true then
    (idx p1 lp1_0).bind fun x2 =>
    (m_assessorref24_IsLiteral p0 x2).bind fun x3 =>
    if (!x3) = true then
      some (.done (.ret ((Formula.mk 0 ([])), 1)))
    else
      (inK .i64 (lp1_0 + 1)).bind fun x4 =>
      some (.next x4)
  else
    some (.done (.brk ()))
noncomputable def m_assessorref26_Translate_lp2 (p0 : Gates) (lp2_0 : Int) (lp2_1 : (List (List Int))) : Option (Step (Int × (List (List Int))) (List (List Int))) :=
  if (decide (lp2_0 < (p0.gates.length : Int))) = true then
    (inK .i64 (1 + p0.inputs)).bind fun x9 =>
    (inK .i64 (x9 + lp2_0)).bind fun x10 =>
    (inK .i64 (x10 + 1)).bind fun x11 =>
    (idx p0.gates lp2_0).bind fun x12 =>
    (m_assessorref26_Literal x12.x0).bind fun x13 =>
    (idx p0.gates lp2_0).bind fun x14 =>
    (m_assessorref26_Literal x14.x1).bind fun x15 =>
    (inK .i64 (0 - x11)).bind fun x16 =>
    (m_assessorref26_Normal ([x16, x13] : List Int)).bind fun x17 =>
    (inK .i64 (0 - x11)).bind fun x18 =>
    (m_assessorref26_Normal ([x18, x15] : List Int)).bind fun x19 =>
    (inK .i64 (0 - x13)).bind fun x20 =>
    (inK .i64 (0 - x15)).bind fun x21 =>
    (m_assessorref26_Normal ([x11, x20, x21] : List Int)).bind fun x22 =>
    (app lp2_1 [x17.1, x19.1, x22.1]).bind fun x23 =>
    (inK .i64 (lp2_0 + 1)).bind fun x24 =>
    some (.next (x24, x23))
  else
    some (.done lp2_1)
noncomputable def m_assessorref26_Translate_lp3 (p1 : (List Int)) (lp3_0 : Int) (lp3_1 : (List (List Int))) : Option (Step (Int × (List (List Int))) (List (List Int))) :=
  if (decide (lp3_0 < (p1.length : Int))) = true then
    (idx p1 lp3_0).bind fun x25 =>
    (m_assessorref26_Literal x25).bind fun x26 =>
    (app lp3_1 [([x26] : List Int)]).bind fun x27 =>
    (inK .i64 (lp3_0 + 1)).bind fun x28 =>
    some (.next (x28, x27))
  else
    some (.done lp3_1)
noncomputable def m_assessorref26_Translate (p0 : Gates) (p1 : (List Int)) : Option (Formula × Int) :=
  (m_assessorref24_Valid p0).bind fun x1 =>
  if (!x1) = true then
    some ((Formula.mk 0 ([])), 1)
  else
    (loopM (fun s => m_assessorref26_Translate_lp1 p0 p1 s) 0 : Option (Out Unit (Formula × Int))).bind fun b3 =>
    match b3 with
    | .brk b3s =>
      (inK .i64 (3 * (p0.gates.length : Int))).bind fun x5 =>
      (inK .i64 (1 + x5)).bind fun x6 =>
      (inK .i64 (x6 + (p1.length : Int))).bind fun x7 =>
      if (decide (262144 < x7)) = true then
        some ((Formula.mk 0 ([])), 8)
      else
        (m_assessorref24_Nodes p0).bind fun x8 =>
        (loopM (fun s => m_assessorref26_Translate_lp2 p0 s.1 s.2) (0, [([(-1)] : List Int)]) : Option (List (List Int))).bind fun b8 =>
        (loopM (fun s => m_assessorref26_Translate_lp3 p1 s.1 s.2) (0, b8) : Option (List (List Int))).bind fun b15 =>
        some ((Formula.mk x8 b15), 0)
    | .ret r => some r
end Go.Proofs.YtelioaepnpnojaaGreatDoor

/- Models of: (*assessor/cnf.set).add, (*assessor/cnf.set).look, assessor/cnf.Propagate$1, slices.IndexFunc[[]int,int]@assessor/cnf.Propagate$1, slices.ContainsFun -/
set_option linter.unusedVariables false
set_option linter.unusedSimpArgs false
namespace Go.Proofs.YtelioaepnpnojaaGreatDoor
open Go.RowKit
noncomputable def m_cnf_set_add (p0 : PSet) (p1 : Int) : Option PSet :=
  (m_cnf_variable p1).bind fun x1 =>
  (idx p0.value x1).bind fun x2 =>
  if (decide (x2 = 0)) = true then
    (idx p0.value x1).bind fun x3 =>
    (app p0.list [p1]).bind fun x4 =>
    some (PSet.mk p0.f (p0.value.set x1.toNat p1) p0.places p0.left x4 p0.fails)
  else
    (inK .i64 (0 - p1)).bind fun x5 =>
    if (decide (x2 = x5)) = true then
      some (PSet.mk p0.f p0.value p0.places p0.left p0.list true)
    else
      some p0
noncomputable def m_cnf_set_look_lp1 (p0 : PSet) (x2 : (List Int)) (lp1_0 : Int) : Option (Step Int (Out Unit PSet)) :=
  if (decide (lp1_0 < (x2.length : Int))) = true then
    (idx x2 lp1_0).bind fun x3 =>
    (m_cnf_variable x3).bind fun x4 =>
    (idx p0.value x4).bind fun x5 =>
    (inK .i64 (0 - x3)).bind fun x6 =>
    if (!decide (x5 = x6)) = true then
      (m_cnf_set_add p0 x3).bind fun x7 =>
      some (.done (.ret (PSet.mk p0.f x7.value p0.places x7.left x7.list x7.fails)))
    else
      (inK .i64 (lp1_0 + 1)).bind fun x8 =>
      some (.next x8)
  else
    some (.done (.brk ()))
noncomputable def m_cnf_set_look (p0 : PSet) (p1 : Int) : Option PSet :=
  (idx p0.left p1).bind fun x1 =>
  if (decide (x1 = 0)) = true then
    some (PSet.mk p0.f p0.value p0.places p0.left p0.list true)
  else
    if (decide (x1 = 1)) = true then
      (idx p0.f.clauses p1).bind fun x2 =>
      (loopM (fun s => m_cnf_set_look_lp1 p0 x2 s) 0 : Option (Out Unit PSet)).bind fun b3 =>
      match b3 with
      | .brk b3s =>
        some p0
      | .ret r => some r
    else
      some p0
noncomputable def m_cnf_Propagate_1 (p0 : Int) (c0 : Formula) : Option Bool :=
  ((if (decide (p0 = 0)) = true then
    some true
  else
    (inK .i64 (0 - c0.vars)).bind fun x1 =>
    some (decide (p0 < x1))) : Option Bool).bind fun m1 =>
  some (m1 || (decide (c0.vars < p0)))
noncomputable def m_slices_IndexFunc_cnf_Propagate_1_lp1 (p0 : (List Int)) (p1c0 : Formula) (lp1_0 : Int) : Option (Step Int (Out Unit Int)) :=
  if (decide (lp1_0 < (p0.length : Int))) = true then
    (idx p0 lp1_0).bind fun x1 =>
    (m_cnf_Propagate_1 x1 p1c0).bind fun x2 =>
    if x2 = true then
      some (.done (.ret lp1_0))
    else
      (inK .i64 (lp1_0 + 1)).bind fun x3 =>
      some (.next x3)
  else
    some (.done (.brk ()))
noncomputable def m_slices_IndexFunc_cnf_Propagate_1 (p0 : (List Int)) (p1c0 : Formula) : Option Int :=
  (loopM (fun s => m_slices_IndexFunc_cnf_Propagate_1_lp1 p0 p1c0 s) 0 : Option (Out Unit Int)).bind fun b1 =>
  match b1 with
  | .brk b1s =>
    some (-1)
  | .ret r => some r
noncomputable def m_slices_ContainsFunc_cnf_Propagate_1 (p0 : (List Int)) (p1c0 : Formula) : Option Bool :=
  (m_slices_IndexFunc_cnf_Propagate_1 p0 p1c0).bind fun x1 =>
  some (decide (0 ≤ x1))
noncomputable def m_cnf_Propagate_lp2 (lp1_0 : Int) (x8 : (List Int)) (lp2_0 : Int) (lp2_1 : (List (List Int))) : Option (Step (Int × (List (List Int))) (List (List Int))) :=
  if (decide (lp2_0 < (x8.length : Int))) = true then
    (idx x8 lp2_0).bind fun x10 =>
    (m_cnf_index x10).bind fun x11 =>
    (m_cnf_index x10).bind fun x12 =>
    (idx lp2_1 x12).bind fun x13 =>
    (app x13 [lp1_0]).bind fun x14 =>
    (guardEq x11 x12).bind fun x15 =>
    (inK .i64 (lp2_0 + 1)).bind fun x16 =>
    some (.next (x16, lp2_1.set x12.toNat x14))
  else
    some (.done lp2_1)
noncomputable def m_cnf_Propagate_lp1 (p0 : Formula) (lp1_0 : Int) (lp1_1 : (List Int)) (lp1_2 : (List (List Int))) : Option (Step (Int × (List Int) × (List (List Int))) ((List Int) × (List (List Int)))) :=
  if (decide (lp1_0 < (p0.clauses.length : Int))) = true then
    (idx p0.clauses lp1_0).bind fun x8 =>
    (app lp1_1 [(x8.length : Int)]).bind fun x9 =>
    (loopM (fun s => m_cnf_Propagate_lp2 lp1_0 x8 s.1 s.2) (0, lp1_2) : Option (List (List Int))).bind fun b8 =>
    (inK .i64 (lp1_0 + 1)).bind fun x17 =>
    some (.next (x17, x9, b8))
  else
    some (.done (lp1_1, lp1_2))
noncomputable def m_cnf_Propagate_lp3 (p0 : Formula) (p1 : (List Int)) (b5 : ((List Int) × (List (List Int)))) (lp3_0 : Int) (lp3_1 : (List Int)) (lp3_2 : (List Int)) (lp3_3 : Bool) (lp3_4 : (List Int)) : Option (Step (Int × (List Int) × (List Int) × Bool × (List Int)) ((List Int) × (List Int) × Bool × (List Int))) :=
  if (decide (lp3_0 < (p1.length : Int))) = true then
    (idx p1 lp3_0).bind fun x18 =>
    (m_cnf_set_add (PSet.mk p0 lp3_4 b5.2 lp3_2 lp3_1 lp3_3) x18).bind fun x19 =>
    (inK .i64 (lp3_0 + 1)).bind fun x20 =>
    some (.next (x20, x19.list, x19.left, x19.fails, x19.value))
  else
    some (.done (lp3_1, lp3_2, lp3_3, lp3_4))
noncomputable def m_cnf_Propagate_lp4 (p0 : Formula) (b5 : ((List Int) × (List (List Int)))) (lp4_0 : Int) (lp4_1 : (List Int)) (lp4_2 : (List Int)) (lp4_3 : Bool) (lp4_4 : (List Int)) : Option (Step (Int × (List Int) × (List Int) × Bool × (List Int)) ((List Int) × (List Int) × Bool × (List Int))) :=
  if (decide (lp4_0 < (p0.clauses.length : Int))) = true then
    (idx lp4_2 lp4_0).bind fun x21 =>
    if (decide (x21 < 2)) = true then
      (m_cnf_set_look (PSet.mk p0 lp4_4 b5.2 lp4_2 lp4_1 lp4_3) lp4_0).bind fun x22 =>
      (inK .i64 (lp4_0 + 1)).bind fun x23 =>
      some (.next (x23, x22.list, x22.left, x22.fails, x22.value))
    else
      (inK .i64 (lp4_0 + 1)).bind fun x24 =>
      some (.next (x24, lp4_1, lp4_2, lp4_3, lp4_4))
  else
    some (.done (lp4_1, lp4_2, lp4_3, lp4_4))
noncomputable def m_cnf_Propagate_lp6 (p0 : Formula) (b5 : ((List Int) × (List (List Int)))) (x28 : (List Int)) (lp6_0 : Int) (lp6_1 : (List Int)) (lp6_2 : (List Int)) (lp6_3 : Bool) (lp6_4 : (List Int)) : Option (Step (Int × (List Int) × (List Int) × Bool × (List Int)) ((List Int) × (List Int) × Bool × (List Int))) :=
  if (decide (lp6_0 < (x28.length : Int))) = true then
    (idx x28 lp6_0).bind fun x29 =>
    (idx lp6_2 x29).bind fun x30 =>
    (inK .i64 (x30 - 1)).bind fun x31 =>
    (idx lp6_2 x29).bind fun x32 =>
    (idx (lp6_2.set x29.toNat x31) x29).bind fun x33 =>
    if (decide (x33 < 2)) = true then
      (m_cnf_set_look (PSet.mk p0 lp6_4 b5.2 (lp6_2.set x29.toNat x31) lp6_1 lp6_3) x29).bind fun x34 =>
      (inK .i64 (lp6_0 + 1)).bind fun x35 =>
      some (.next (x35, x34.list, x34.left, x34.fails, x34.value))
    else
      (inK .i64 (lp6_0 + 1)).bind fun x36 =>
      some (.next (x36, lp6_1, lp6_2.set x29.toNat x31, lp6_3, lp6_4))
  else
    some (.done (lp6_1, lp6_2, lp6_3, lp6_4))
noncomputable def m_cnf_Propagate_lp5 (p0 : Formula) (b5 : ((List Int) × (List (List Int)))) (lp5_0 : Int) (lp5_1 : (List Int)) (lp5_2 : (List Int)) (lp5_3 : Bool) (lp5_4 : (List Int)) : Option (Step (Int × (List Int) × (List Int) × Bool × (List Int)) ((List Int) × (List Int) × Bool × (List Int))) :=
  if ((decide (lp5_0 < (lp5_1.length : Int))) && (!lp5_3)) = true then
    (idx lp5_1 lp5_0).bind fun x25 =>
    (inK .i64 (0 - x25)).bind fun x26 =>
    (m_cnf_index x26).bind fun x27 =>
    (idx b5.2 x27).bind fun x28 =>
    (loopM (fun s => m_cnf_Propagate_lp6 p0 b5 x28 s.1 s.2.1 s.2.2.1 s.2.2.2.1 s.2.2.2.2) (0, lp5_1, lp5_2, lp5_3, lp5_4) : Option ((List Int) × (List Int) × Bool × (List Int))).bind fun b29 =>
    (inK .i64 (lp5_0 + 1)).bind fun x37 =>
    some (.next (x37, b29.1, b29.2.1, b29.2.2.1, b29.2.2.2))
  else
    some (.done (lp5_1, lp5_2, lp5_3, lp5_4))
noncomputable def m_cnf_Propagate (p0 : Formula) (p1 : (List Int)) : Option ((List Int) × Bool × Int) :=
  (m_cnf_Valid p0).bind fun x1 =>
  ((if (!x1) = true then
    some true
  else
    (m_slices_ContainsFunc_cnf_Propagate_1 p1 p0).bind fun x2 =>
    some x2) : Option Bool).bind fun m1 =>
  if m1 = true then
    some ([], false, 1)
  else
    (inK .i64 (p0.vars + 1)).bind fun x3 =>
    (mkc x3 x3 (0 : Int)).bind fun x4 =>
    (inK .i64 (2 * p0.vars)).bind fun x5 =>
    (inK .i64 (x5 + 2)).bind fun x6 =>
    (mkc x6 x6 ([] : (List Int))).bind fun x7 =>
    (loopM (fun s => m_cnf_Propagate_lp1 p0 s.1 s.2.1 s.2.2) (0, [], x7) : Option ((List Int) × (List (List Int)))).bind fun b5 =>
    (loopM (fun s => m_cnf_Propagate_lp3 p0 p1 b5 s.1 s.2.1 s.2.2.1 s.2.2.2.1 s.2.2.2.2) (0, [], b5.1, false, x4) : Option ((List Int) × (List Int) × Bool × (List Int))).bind fun b22 =>
    (loopM (fun s => m_cnf_Propagate_lp4 p0 b5 s.1 s.2.1 s.2.2.1 s.2.2.2.1 s.2.2.2.2) (0, b22.1, b22.2.1, b22.2.2.1, b22.2.2.2) : Option ((List Int) × (List Int) × Bool × (List Int))).bind fun b24 =>
    (loopM (fun s => m_cnf_Propagate_lp5 p0 b5 s.1 s.2.1 s.2.2.1 s.2.2.2.1 s.2.2.2.2) (0, b24.1, b24.2.1, b24.2.2.1, b24.2.2.2) : Option ((List Int) × (List Int) × Bool × (List Int))).bind fun b26 =>
    if b26.2.2.1 = true then
      some ([], false, 0)
    else
      (m_sortV b26.1).bind fun x38 =>
      some (x38, true, 0)
end Go.Proofs.YtelioaepnpnojaaGreatDoor

/- A range over a function, whose rounds are told by a step: the iterator is shown once for any step, the round once for any iterator. Plain theorems over any prog -/
set_option linter.unusedVariables false
set_option linter.unusedSimpArgs false
namespace Go.Proofs.YtelioaepnpnojaaGreatDoor
open Go.RowKit
def Stars : List Atom → Atom
  | [] => fun k => k = PH.emp
  | A :: l => fun k => ∃ k1 k2, A k1 ∧ Stars l k2 ∧ k1.dj k2 ∧ k = k1.un k2
theorem un_emp (ρ : PH) : ρ.un PH.emp = ρ := by funext b; unfold PH.un PH.emp; cases ρ b <;> rfl
theorem Sep.stars : ∀ (l : List Atom) {L : List Atom} {ρ h : PH}, Sep ρ (Stars l :: L) h ↔ Sep ρ (l ++ L) h
  | [], L, ρ, h => ⟨fun ⟨k, e, _, s⟩ => by
      have e : k = PH.emp := e
      rw [e, un_emp] at s; exact s, fun s => ⟨PH.emp, rfl, PH.dj_emp _, by rw [un_emp]; exact s⟩⟩
  | A :: l, L, ρ, h => ⟨fun ⟨k, ⟨k1, k2, a, b, d, e⟩, d', s⟩ => by
      subst e
      have d1 := PH.dj_un.1 d'.symm
      exact ⟨k1, a, d1.1.symm, (Sep.stars l).1 ⟨k2, b, PH.dj_un.2 ⟨d1.2.symm, d⟩, by rw [PH.un_assoc]; exact s⟩⟩,
    fun ⟨k1, a, d1, s⟩ => by
      obtain ⟨k2, b, d2, s⟩ := (Sep.stars l).2 s
      have d3 := PH.dj_un.1 d2
      exact ⟨k1.un k2, ⟨k1, k2, a, b, d3.2, rfl⟩, (PH.dj_un.2 ⟨d1.symm, d3.1.symm⟩).symm, by rw [← PH.un_assoc]; exact s⟩⟩
section
variable {Z : World} {ρ : PH} {L : List Atom} {w : World}
theorem Hp.stars {l : List Atom} (h : Hp Z ρ (l ++ L) w) : Hp Z ρ (Stars l :: L) w := h.to (Sep.stars l).2
theorem Hp.unstar {l : List Atom} (h : Hp Z ρ (Stars l :: L) w) : Hp Z ρ (l ++ L) w := h.to (Sep.stars l).1
theorem Hp.exI {α : Type} {F : α → Atom} (x : α) (h : Hp Z ρ (F x :: L) w) : Hp Z ρ ((fun k => ∃ x, F x k) :: L) w := h.imp fun _ hk => ⟨x, hk⟩
theorem Hp.exO {α : Type} {F : α → Atom} (h : Hp Z ρ ((fun k => ∃ x, F x k) :: L) w) : ∃ x, Hp Z ρ (F x :: L) w := by
  obtain ⟨k, ⟨x, hk⟩, d, hs⟩ := h.lend
  exact ⟨x, Hp.back hk d hs⟩
end
def Step.more {σ ε : Type} : Step σ ε → Bool
  | .next _ => true
  | .done _ => false
def yieldM {α σ ε : Type} (f : α → σ → Option (Step σ ε)) (x : α) : Step σ ε → Option (Step σ ε)
  | .next s => f x s
  | .done _ => none
theorem yieldM_some {α σ ε : Type} {f : α → σ → Option (Step σ ε)} {x : α} {S t : Step σ ε} (h : yieldM f x S = some t) : ∃ s, S = .next s ∧ f x s = some t := by
  cases S with
  | next s => exact ⟨s, rfl, h⟩
  | done r => cases h
abbrev YieldOk {α σ ε : Type} (P : Program) (Z : World) (ρ : PH) (l : Nat) (vs : α → List Value) (f : α → σ → Option (Step σ ε)) (Y : Step σ ε → Atom) : Prop :=
  ∀ (x : α) (s : σ) (st : Step σ ε) (L : List Atom) (W : World), f x s = some st → Hp Z ρ (Y (.next s) :: L) W → YieldAt Fence.wide 0 P l (vs x).toArray W (Ret fun v W' => v = .bool st.more ∧ Hp Z ρ (Y st :: L) W')
theorem YieldOk.at {α σ ε : Type} {P : Program} {Z : World} {ρ : PH} {l : Nat} {vs : α → List Value} {f : α → σ → Option (Step σ ε)} {Y : Step σ ε → Atom} (h : YieldOk P Z ρ l vs f Y) {x : α} {S t : Step σ ε} (hy : yieldM f x S = some t) {L : List Atom} {W : World} (hp : Hp Z ρ (Y S :: L) W) :
    YieldAt Fence.wide 0 P l (vs x).toArray W (Ret fun v W' => v = .bool t.more ∧ Hp Z ρ (Y t :: L) W') := by
  obtain ⟨s, rfl, hf⟩ := yieldM_some hy
  exact h x s t L W hf hp
section
variable {R : Option Nat} {P : Program} {ops : Array Oper} {Q : Exit → Act → World → Prop} {rest : List Oper} {o : Oper} {a : Act} {w : World} {Df : List Deferred} {N : Nat} {E : Ent} {d : Nat} {cs : List Code}
theorem k_regionY {id : Nat} {l : List Oper} (h : wpListIn (fR R) 0 P l.toArray (fun e a w => match e with | .normal => wpK R P Q cs a w | e => Q e a w) l a w) : wpK R P Q (.region id l.toArray false :: cs) a w := by
  have e : (fun e a w => match e with | .normal => wpK R P Q cs a w | e => Q e a w) = Exit.then (wpK R P Q cs) Q := by
    funext e a w; cases e <;> rfl
  rw [e] at h
  exact wpIn_region_lit h
theorem y_val {C : World → Prop} (wk : Region.wanted o (yielded ops a.tmps) = true) (hd : o.dst = some d) (hN : Nat.blt d N = true) (hE : EnvD Df N E a) (hC : C w) {v : Value} (hx : Ex P C a o v) (K : ∀ a, EnvD Df N ((d, v) :: E) a → wpListIn (fR R) 0 P ops Q rest a w) : wpListIn (fR R) 0 P ops Q (o :: rest) a w := by
  unfold wpListIn
  rw [if_pos wk]
  refine ⟨fun f _ => fR_fn R f, ?_⟩
  rw [Oper.semAt_eq _ _ _ (nd_of (hx w hC) (fun d h => by cases h)), hx w hC]
  show wpListIn _ _ _ _ _ _ (a.put o.dst v) _
  rw [hd]
  exact K _ (hE.put hN v)
theorem y_nil (h : Q .normal a w) : wpListIn (fR R) 0 P ops Q [] a w := h
theorem yieldAt_in {l n : Nat} {args : Array Value} {W : World} {T : Ending → World → Prop} (h : YieldAt Fence.wide n P l args W T) : ∃ fn tmps assign body, (Instr.yield l args).run P W = .ok (.round l fn tmps assign body) W ∧ RoundIn (fR R) n P l fn tmps assign body W T := by
  obtain ⟨fn, tmps, assign, body, h1, h2⟩ := h
  refine ⟨fn, tmps, assign, body, h1, ?_⟩
  cases R <;> exact h2
theorem y_yield {l : Nat} (wk : Region.wanted o (yielded ops a.tmps) = true) (hd : o.dst = some d) (hN : Nat.blt d N = true) (hE : EnvD Df N E a) {x : Operand} {xs : List Operand} {ts : Array TypeId} (ho : o.op = .call { callee := .value x, args := xs.toArray, argTypes := ts })
    (hf : evo E x = some (.func (.yield l) #[] #[])) (vs : List Value) (hx : evA E xs vs) {T : Value → World → Prop} (hY : YieldAt Fence.wide 0 P l vs.toArray w (Ret T)) (K : ∀ v a w, T v w → EnvD Df N ((d, v) :: E) a → wpListIn (fR R) 0 P ops Q rest a w) : wpListIn (fR R) 0 P ops Q (o :: rest) a w := by
  obtain ⟨fn, tmps, assign, body, hy, hR⟩ := yieldAt_in (R := R) hY
  have hxs : xs.toArray.map a.eval = vs.toArray := by rw [List.map_toArray, evA_map hE hx]
  have hex : (execOp a.eval o).run P w = .ok (.round l fn tmps assign body) w := by
    simp only [execOp, ho, resolve, hE.eval hf, hxs, Deferred.ofValue, invoke, Sem.run_bind, Sem.run_pure, Result.andThen_ok]
    simp [hy]
  unfold wpListIn
  rw [if_pos wk]
  refine ⟨fun f _ => fR_fn R f, ?_⟩
  rw [Oper.semAt_eq _ _ _ (nd_of hex (fun d h => by cases h)), hex, Oper.uponIn_round]
  refine ⟨fR_depth R, hR.mono fun e w' he => ?_⟩
  obtain ⟨v, rfl, hr⟩ := he
  rw [hd]
  exact K v _ w' hr (hE.put hN v)
end
def putAll : Ent → List (Nat × Value) → Ent
  | E, [] => E
  | E, p :: r => putAll (p :: E) r
theorem env_round {N : Nat} {Df : List Deferred} : ∀ (l : List (Nat × Value)) {E : Ent} {t : Array Value}, (∀ p ∈ l, Nat.blt p.1 N = true) → EnvD Df N E ⟨t, Df⟩ → EnvD Df N (putAll E l) ⟨l.foldl (fun t p => t.setIfInBounds p.1 p.2) t, Df⟩
  | [], E, t, _, h => h
  | p :: r, E, t, hb, h => by
    have := h.put (hb p (List.mem_cons_self ..)) p.2
    exact env_round r (E := p :: E) (t := t.setIfInBounds p.1 p.2) (fun q hq => hb q (List.mem_cons_of_mem _ hq)) this
def markOf (dd : Nat) : Deferred := { target := .collected dd, args := #[] }
section
variable {P : Program} {Q : Exit → Act → World → Prop} {a : Act} {w : World} {N : Nat} {E : Ent} {cs : List Code} {Z : World} {ρ : PH} {L : List Atom}
theorem enterM {f : FuncId} {fn : Func} {c : Code} {args : Array Value} {R : Ending → World → Prop} (hf : P.funcs[f]? = some fn) (hb : fn.body = some c) (hN : fn.ntmps = N) (E : Ent) (h1 : Nat.ble args.size N = true) (hE : ∀ p ∈ E, args[p.1]? = some p.2)
    (h : ∀ a, Env N E a → wpK none P (bodyPostM Fence.wide 0 P fn R) [c] a w) : Calls P f args w R :=
  (callsIn_wide (n := 0)).1 (callsIn_of_wp_marks hf hb trivial (by rw [hN]; exact k_one (h _ (Env.start N args E (by simpa using h1) hE))) rfl)
theorem retM {fn : Func} {R : Ending → World → Prop} {e : Exit} (he : e = .ret ∨ e = .normal) {dd : Nat} (hE : EnvD [markOf dd] N E a) (hp : Hp Z ρ (Pt dd (.deferred (some [])) :: L) w) (h : ∀ a w, Env N E a → Hp Z ρ L w → bodyPost P fn R .ret a w) : bodyPostM Fence.wide 0 P fn R e a w := by
  have hl := hp.look 0 rfl
  have hlt := (Array.getElem?_eq_some_iff.1 hl).1
  have hq := Hp.set (w' := World.putObj w dd (.deferred none)) hp rfl rfl rfl (World.putObj_heap_same hlt) (fun k hk => World.putObj_heap_other hk)
  have hE' : Env N E ⟨a.tmps, []⟩ := ⟨hE.size, rfl, hE.val⟩
  obtain ⟨v, hv⟩ := (h _ _ hE' hq.drop).2
  rcases he with rfl | rfl <;>
  · show LeavesInM _ _ _ _ _ _ _ _ _
    rw [hE.defers]
    refine ⟨by simp, .inl ⟨dd, _, rfl, run_takeDeferred hl, ?_⟩⟩
    exact ⟨v, hv⟩
def recOf (fn dd : Nat) (tmps : Array Value) (ps : Array Tmp) (assign body : Code) : Loop := { state := .ready, pending := none, fn := fn, tmps := tmps, params := ps, assign := assign, body := body, defers := dd }
def LoopAt {σ ε : Type} (J : σ → Atom) (K : ε → Atom) (l dd : Nat) (rec : Loop) : Step σ ε → Atom
  | .next s => Stars [J s, Pt l (.loop rec), Pt dd (.deferred (some []))]
  | .done r => Stars [K r, Pt l (.loop { rec with state := .done, pending := some .ret }), Pt dd (.deferred (some []))]
theorem round_of {σ ε α : Type} {J : σ → Atom} {K : ε → Atom} {l dd fn : Nat} {t0 : Array Value} {ps : Array Tmp} {assign body : Code} {E2 : α → Ent} (hE : Env N E ⟨t0, []⟩) (vs : α → List Value) {f : α → σ → Option (Step σ ε)}
    (hps : ∀ x, (vs x).length = ps.size) (hpN : ∀ p ∈ ps, Nat.blt p N = true)
    (ha : ∀ (x : α) (a : Act) (L : List Atom) (w : World), Env N (putAll E (ps.toList.zip (vs x))) a → Hp Z ρ L w → wpK (some l) P (fun e a w => match e with | .normal => Env N (E2 x ++ putAll E (ps.toList.zip (vs x))) a ∧ Hp Z ρ L w | _ => False) [assign] a w)
    (hb : ∀ (x : α) (s : σ) (st : Step σ ε) (a : Act) (L : List Atom) (w : World), f x s = some st → Env N (E2 x ++ putAll E (ps.toList.zip (vs x))) a → Hp Z ρ (J s :: L) w → wpK (some l) P (fun e a w => match e with | .normal => ∃ s', st = .next s' ∧ Hp Z ρ (J s' :: L) w | .ret => ∃ r, st = .done r ∧ Hp Z ρ (K r :: L) w | _ => False) [body] a w)
    (x : α) (s : σ) (st : Step σ ε) (L : List Atom) (W : World) (hs : f x s = some st) (hp : Hp Z ρ (LoopAt J K l dd (recOf fn dd t0 ps assign body) (.next s) :: L) W) :
    YieldAt Fence.wide 0 P l (vs x).toArray W (Ret fun v W' => v = .bool st.more ∧ Hp Z ρ (LoopAt J K l dd (recOf fn dd t0 ps assign body) st :: L) W') := by
  have hp1 : Hp Z ρ (J s :: Pt l (.loop (recOf fn dd t0 ps assign body)) :: Pt dd (.deferred (some [])) :: L) W := hp.unstar
  have hl := hp1.look 1 rfl
  have hy := run_yield (P := P) (args := (vs x).toArray) hl (by simpa [recOf] using hps x)
  refine ⟨fn, _, _, _, hy, roundIn_of_wpIn trivial ?_⟩
  have hE1 := env_round (ps.toList.zip (vs x)) (fun p hp => hpN p.1 (by simpa using (List.of_mem_zip hp).1)) hE
  have e1 : (ps.toList.zip (vs x)).foldl (fun t p => t.setIfInBounds p.1 p.2) t0 = (ps.zip (vs x).toArray).foldl (fun tmps (p : Tmp × Value) => tmps.setIfInBounds p.1 p.2) t0 := by
    obtain ⟨q⟩ := ps
    simp
  rw [e1] at hE1
  have h1 := k_one (ha x _ _ _ hE1 hp1)
  refine wpIn_mono h1 fun e a2 w2 q => ?_
  cases e with
  | normal =>
    obtain ⟨hE2, hp2⟩ := q
    have hl2 := hp2.look 1 rfl
    have hlt := (Array.getElem?_eq_some_iff.1 hl2).1
    refine ⟨_, run_beginRound hl2 rfl, ?_⟩
    have hp3 : Hp Z ρ (Pt l (.loop { recOf fn dd t0 ps assign body with state := .busy }) :: J s :: Pt dd (.deferred (some [])) :: L) (w2.putObj l (.loop { recOf fn dd t0 ps assign body with state := .busy })) :=
      Hp.set (w' := World.putObj _ _ _) (hp2.get 1 rfl) rfl rfl rfl (World.putObj_heap_same hlt) (fun k hk => World.putObj_heap_other hk)
    have hp3 := hp3.get 1 rfl
    refine wpIn_mono (k_one (hb x s st a2 _ _ hs hE2 hp3)) fun e a4 w4 q => ?_
    cases e with
    | normal =>
      obtain ⟨s', rfl, hq⟩ := q
      have hl4 := hq.look 1 rfl
      have hlt4 := (Array.getElem?_eq_some_iff.1 hl4).1
      have h5 := Hp.set (w' := World.putObj w4 l (.loop (recOf fn dd t0 ps assign body))) (hq.get 1 rfl) rfl rfl rfl (World.putObj_heap_same hlt4) (fun k hk => World.putObj_heap_other hk)
      exact ⟨_, _, run_endRound none hl4, _, rfl, rfl, Hp.stars (l := [J s', _, _]) (h5.get 1 rfl)⟩
    | ret =>
      obtain ⟨r, rfl, hq⟩ := q
      have hl4 := hq.look 1 rfl
      have hlt4 := (Array.getElem?_eq_some_iff.1 hl4).1
      have h5 := Hp.set (w' := World.putObj w4 l (.loop { recOf fn dd t0 ps assign body with state := .done, pending := some .ret })) (hq.get 1 rfl) rfl rfl rfl (World.putObj_heap_same hlt4) (fun k hk => World.putObj_heap_other hk)
      exact ⟨_, _, run_endRound (some .ret) hl4, _, rfl, rfl, Hp.stars (l := [K r, _, _]) (h5.get 1 rfl)⟩
    | exit i => exact q.elim
    | goto t => exact q.elim
    | panic c => exact q.elim
    | outgrown => exact q.elim
  | exit i => exact q.elim
  | goto t => exact q.elim
  | ret => exact q.elim
  | panic c => exact q.elim
  | outgrown => exact q.elim
theorem k_rangeF {σ ε α : Type} {g : Operand} {ps : Array Tmp} {assign body : Code} {gf : FuncId} {lb : List Value} {s0 : σ} {b : Step σ ε} {L L' : List Atom} {E2 : α → Ent} (J : σ → Atom) (K : ε → Atom) (vs : α → List Value) (f : α → σ → Option (Step σ ε))
    (hE : Env N E a) (hg : evo E g = some (.func (.func gf) #[] lb.toArray)) (eg : ∀ args w, (callFunc gf args).run P w = .ok (.enter gf args) w) (hp : Hp Z ρ (J s0 :: L) w)
    (hps : ∀ x, (vs x).length = ps.size) (hpN : ∀ p ∈ ps, Nat.blt p N = true)
    (hc : ∀ (l : Nat) (Y : Step σ ε → Atom) (w : World), YieldOk P Z ρ l vs f Y →
      Hp Z ρ (Y (.next s0) :: L) w → Calls P gf (#[.func (.yield l) #[] #[]] ++ lb.toArray) w (Ret fun _ W' => Hp Z ρ (Y b :: L') W'))
    (ha : ∀ (l : Nat) (x : α) (a : Act) (L : List Atom) (w : World), Env N (putAll E (ps.toList.zip (vs x))) a → Hp Z ρ L w → wpK (some l) P (fun e a w => match e with | .normal => Env N (E2 x ++ putAll E (ps.toList.zip (vs x))) a ∧ Hp Z ρ L w | _ => False) [assign] a w)
    (hb : ∀ (l : Nat) (x : α) (s : σ) (st : Step σ ε) (a : Act) (L : List Atom) (w : World), f x s = some st → Env N (E2 x ++ putAll E (ps.toList.zip (vs x))) a → Hp Z ρ (J s :: L) w → wpK (some l) P (fun e a w => match e with | .normal => ∃ s', st = .next s' ∧ Hp Z ρ (J s' :: L) w | .ret => ∃ r, st = .done r ∧ Hp Z ρ (K r :: L) w | _ => False) [body] a w)
    (hn : ∀ s, b = .next s → ∀ dd a w, EnvD [markOf dd] N E a → Hp Z ρ (J s :: Pt dd (.deferred (some [])) :: L') w → wpK none P Q cs a w)
    (hr : ∀ r, b = .done r → ∀ dd a w, EnvD [markOf dd] N E a → Hp Z ρ (K r :: Pt dd (.deferred (some [])) :: L') w → Q .ret a w) : wpK none P Q (.rangeFunc g ps assign body :: cs) a w := by
  show (Code.rangeFunc g ps assign body).wpIn Fence.wide 0 P (Exit.then (wpK none P Q cs) Q) a w
  refine wpIn_rangeFunc fun fn _ => ?_
  obtain ⟨rec, hrec⟩ : ∃ rec : Loop, rec = recOf fn w.heap.size a.tmps ps assign body := ⟨_, rfl⟩
  obtain ⟨W1, hW1⟩ : ∃ W1, (w.alloc (.deferred (some []))).alloc (.loop rec) = W1 := ⟨_, rfl⟩
  have hp1 : Hp Z ρ (Pt (w.heap.size + 1) (.loop rec) :: Pt w.heap.size (.deferred (some [])) :: J s0 :: L) W1 := by
    have := (hp.alloc (.deferred (some []))).alloc (.loop rec)
    rwa [World.size_alloc, hW1] at this
  have hE0 : Env N E ⟨a.tmps, []⟩ := ⟨hE.size, rfl, hE.val⟩
  have hp2 : Hp Z ρ (LoopAt (ε := ε) J K (w.heap.size + 1) w.heap.size rec (.next s0) :: L) W1 := Hp.stars (l := [J s0, _, _]) (hp1.get 2 rfl)
  refine ⟨w.heap.size + 1, [{ target := .collected w.heap.size, args := #[] }], W1, { target := .fn (.func gf) lb.toArray, args := #[.func (.yield (w.heap.size + 1)) #[] #[]] }, W1, gf, #[.func (.yield (w.heap.size + 1)) #[] #[]] ++ lb.toArray, W1, ?_, ?_, ?_, ?_, ?_, ?_⟩
  · rw [← hW1, hrec]; exact run_enterLoop_outer _ _ _ _ _
  · simp only [resolve, hE.eval hg]
    simp [go_sem]
  · exact fun _ _ => trivial
  · simp [invoke, go_sem, eg]
  · intro h; simp [Fence.wide] at h
  · refine callsIn_wide.2 (Calls.mono (hc (w.heap.size + 1) (LoopAt J K (w.heap.size + 1) w.heap.size rec) W1 (fun x s st L W hs h => by
      rw [hrec] at h ⊢
      exact round_of hE0 vs hps hpN (ha _) (hb _) x s st L W hs h) hp2) fun e W' he => ?_)
    obtain ⟨v, rfl, hp'⟩ := he
    have hE' : EnvD [markOf w.heap.size] N E { a with defers := [{ target := .collected w.heap.size, args := #[] }] ++ a.defers } := ⟨hE.size, by simp [hE.defers, markOf], hE.val⟩
    cases b with
    | next s =>
      have hp' : Hp Z ρ (J s :: Pt (w.heap.size + 1) (.loop rec) :: Pt w.heap.size (.deferred (some [])) :: L') W' := hp'.unstar
      have hl := hp'.look 1 rfl
      have hlt := (Array.getElem?_eq_some_iff.1 hl).1
      have hrun := run_endLoop (P := P) hl (by rw [hrec]; simp [recOf])
      rw [show rec.pending = none by rw [hrec]; rfl] at hrun
      refine ⟨none, _, hrun, ?_⟩
      exact hn s rfl _ _ _ hE' (Hp.set (w' := World.putObj _ _ _) (hp'.get 1 rfl) rfl rfl rfl (World.putObj_heap_same hlt) (fun k hk => World.putObj_heap_other hk)).drop
    | done r =>
      have hp' : Hp Z ρ (K r :: Pt (w.heap.size + 1) (.loop { rec with state := .done, pending := some .ret }) :: Pt w.heap.size (.deferred (some [])) :: L') W' := hp'.unstar
      have hl := hp'.look 1 rfl
      have hlt := (Array.getElem?_eq_some_iff.1 hl).1
      have hrun := run_endLoop (P := P) hl (by simp)
      refine ⟨some .ret, _, hrun, ?_⟩
      exact wpIn_ret (hr r rfl _ _ _ hE' (Hp.set (w' := World.putObj _ _ _) (hp'.get 1 rfl) rfl rfl rfl (World.putObj_heap_same hlt) (fun k hk => World.putObj_heap_other hk)).drop)
end
end Go.Proofs.YtelioaepnpnojaaGreatDoor

/- Models of: assessor/assessorref26.Decimal, assessor/assessorref26.integer, assessor/assessorref26.Line, assessor/assessorref26.ReadLine, assessor/assessorref26. -/
set_option linter.unusedVariables false
set_option linter.unusedSimpArgs false
namespace Go.Proofs.YtelioaepnpnojaaGreatDoor
open Go.RowKit
noncomputable def m_cnf_Format_lp2 (x9 : (List Int)) (lp2_0 : Int) (lp2_1 : ByteArray) : Option (Step (Int × ByteArray) ByteArray) :=
  if (decide (lp2_0 < (x9.length : Int))) = true then
    (idx x9 lp2_0).bind fun x10 =>
    (m_itoa x10).bind fun x11 =>
    (catK x11 (ByteArray.mk #[32])).bind fun x12 =>
    (m_WStr lp2_1 x12).bind fun x13 =>
    (inK .i64 (lp2_0 + 1)).bind fun x14 =>
    some (.next (x14, x13))
  else
    some (.done lp2_1)
noncomputable def m_cnf_Format_lp1 (p0 : Formula) (lp1_0 : Int) (lp1_1 : ByteArray) : Option (Step (Int × ByteArray) ByteArray) :=
  if (decide (lp1_0 < (p0.clauses.length : Int))) = true then
    (idx p0.clauses lp1_0).bind fun x9 =>
    (loopM (fun s => m_cnf_Format_lp2 x9 s.1 s.2) (0, lp1_1) : Option ByteArray).bind fun b5 =>
    (m_WStr b5 (ByteArray.mk #[48, 10])).bind fun x15 =>
    (inK .i64 (lp1_0 + 1)).bind fun x16 =>
    some (.next (x16, x15))
  else
    some (.done lp1_1)
noncomputable def m_cnf_Format (p0 : Formula) : Option ByteArray :=
  (m_cnf_Valid p0).bind fun x1 =>
  if (!x1) = true then
    some (ByteArray.mk #[])
  else
    (m_itoa p0.vars).bind fun x2 =>
    (catK (ByteArray.mk #[112, 32, 99, 110, 102, 32]) x2).bind fun x3 =>
    (catK x3 (ByteArray.mk #[32])).bind fun x4 =>
    (m_itoa (p0.clauses.length : Int)).bind fun x5 =>
    (catK x4 x5).bind fun x6 =>
    (catK x6 (ByteArray.mk #[10])).bind fun x7 =>
    (m_WStr ByteArray.empty x7).bind fun x8 =>
    (loopM (fun s => m_cnf_Format_lp1 p0 s.1 s.2) (0, x8) : Option ByteArray).bind fun b3 =>
    (m_BStr b3).bind fun x17 =>
    some x17
noncomputable def m_cnf_lines_1_yield_lp1 {σ ε : Type} (yf : ByteArray → σ → Option (Step σ ε)) (lp1_0 : ByteArray) (lp1_1 : (Step σ ε)) : Option (Step (ByteArray × (Step σ ε)) (Out (ByteArray × (Step σ ε)) (ByteArray × (Step σ ε)))) :=
  if (!decide (lp1_0 = (ByteArray.mk #[]))) = true then
    (m_cut lp1_0 (ByteArray.mk #[10])).bind fun x1 =>
    (yieldM yf x1.1 lp1_1).bind fun x2 =>
    if (!x2.more) = true then
      some (.done (.ret (lp1_0, x2)))
    else
      some (.next (x1.2.1, x2))
  else
    some (.done (.brk (lp1_0, lp1_1)))
noncomputable def m_cnf_lines_1_yield {σ ε : Type} (yf : ByteArray → σ → Option (Step σ ε)) (ys : Step σ ε) (c0 : ByteArray) : Option (ByteArray × (Step σ ε)) :=
  (loopM (fun s => m_cnf_lines_1_yield_lp1 yf s.1 s.2) (c0, ys) : Option (Out (ByteArray × (Step σ ε)) (ByteArray × (Step σ ε)))).bind fun b1 =>
  match b1 with
  | .brk b1s =>
    some (b1s.1, b1s.2)
  | .ret r => some r
noncomputable def m_cnf_lines (p0 : ByteArray) : Option ByteArray :=
  some p0
noncomputable def m_cnf_Parse_lp2 (x6 : List ByteArray) (lp2_0 : Int) (lp2_1 : (List Int)) : Option (Step (Int × (List Int)) (List Int)) :=
  if (decide (lp2_0 < (x6.length : Int))) = true then
    (idx x6 lp2_0).bind fun x7 =>
    (m_atoi x7).bind fun x8 =>
    (app lp2_1 [x8]).bind fun x9 =>
    (inK .i64 (lp2_0 + 1)).bind fun x10 =>
    some (.next (x10, x9))
  else
    some (.done lp2_1)
noncomputable def m_cnf_Parse_lp1 (x : ByteArray) (lp1_0 : (List (List Int))) (lp1_1 : Bool) (lp1_2 : Int) : Option (Step ((List (List Int)) × Bool × Int) (Formula × Int)) :=
  (((m_split x (ByteArray.mk #[32])).bind fun x2 =>
  if lp1_1 = true then
    if (!decide ((x2.length : Int) = 4)) = true then
      some (.ret ((Formula.mk 0 ([])), 3))
    else
      (idx x2 2).bind fun x3 =>
      (m_atoi x3).bind fun x4 =>
      some (.brk (lp1_0, false, x4))
  else
    (inK .i64 ((x2.length : Int) - 1)).bind fun x5 =>
    (sub x2 0 x5).bind fun x6 =>
    (loopM (fun s => m_cnf_Parse_lp2 x6 s.1 s.2) (0, []) : Option (List Int)).bind fun b8 =>
    (app lp1_0 [b8]).bind fun x11 =>
    some (.brk (x11, lp1_1, lp1_2))) : Option (Out ((List (List Int)) × Bool × Int) (Formula × Int))).bind fun j1 =>
  match j1 with
  | .brk j1s =>
    some (.next (j1s.1, j1s.2.1, j1s.2.2))
  | .ret r => some (.done r)
noncomputable def m_cnf_Parse (p0 : ByteArray) : Option (Formula × Int) :=
  (m_cnf_lines p0).bind fun x1 =>
  (m_cnf_lines_1_yield (fun x s => m_cnf_Parse_lp1  x s.1 s.2.1 s.2.2) (.next ([], true, 0)) x1).bind fun b6 =>
  match b6.2 with
  | .next lp1n =>
    ((if (decide (p0 = (ByteArray.mk #[]))) = true then
      some true
    else
      (m_cnf_Format (Formula.mk lp1n.2.2 lp1n.1)).bind fun x12 =>
      some (!decide (x12 = p0))) : Option Bool).bind fun m1 =>
    if m1 = true then
      some ((Formula.mk 0 ([])), 3)
    else
      some ((Formula.mk lp1n.2.2 lp1n.1), 0)
  | .done r => some r
end Go.Proofs.YtelioaepnpnojaaGreatDoor

/- Models of: slices.Equal[[]int,int], slices.Index[[]int,int], slices.Contains[[]int,int], slices.Index[[]bool,bool], slices.Contains[[]bool,bool]. (Printed by wi -/
set_option linter.unusedVariables false
set_option linter.unusedSimpArgs false
namespace Go.Proofs.YtelioaepnpnojaaGreatDoor
open Go.RowKit
noncomputable def m_slices_Equal_int_int__lp1 (p0 : (List Int)) (p1 : (List Int)) (lp1_0 : Int) : Option (Step Int (Out Unit Bool)) :=
  if (decide (lp1_0 < (p0.length : Int))) = true then
    (idx p0 lp1_0).bind fun x1 =>
    (idx p1 lp1_0).bind fun x2 =>
    if (!decide (x1 = x2)) = true then
      some (.done (.ret false))
    else
      (inK .i64 (lp1_0 + 1)).bind fun x3 =>
      some (.next x3)
  else
    some (.done (.brk ()))
noncomputable def m_slices_Equal_int_int_ (p0 : (List Int)) (p1 : (List Int)) : Option Bool :=
  if (!decide ((p0.length : Int) = (p1.length : Int))) = true then
    some false
  else
    (loopM (fun s => m_slices_Equal_int_int__lp1 p0 p1 s) 0 : Option (Out Unit Bool)).bind fun b1 =>
    match b1 with
    | .brk b1s =>
      some true
    | .ret r => some r
end Go.Proofs.YtelioaepnpnojaaGreatDoor

/- Models of: assessor/assessorlaw26.awake. (Printed by wip/sp/gen.py.) -/
set_option linter.unusedVariables false
set_option linter.unusedSimpArgs false
namespace Go.Proofs.YtelioaepnpnojaaGreatDoor
open Go.RowKit
noncomputable def m_assessorlaw26_awake  : Option Bool :=
  (m_cnf_Translate (Gates.mk 2 ([(Arr2.mk 2 5)] : List Arr2)) ([6] : List Int)).bind fun x1 =>
  (m_cnf_Propagate x1.1 ([2, (-3)] : List Int)).bind fun x2 =>
  (m_cnf_Normal ([3, (-2), 3] : List Int)).bind fun x3 =>
  (m_cnf_Parse (ByteArray.mk #[112, 32, 99, 110, 102, 32, 50, 32, 49, 10, 49, 32, 45, 50, 32, 48, 10])).bind fun x4 =>
  ((if ((decide (x1.2 = 0)) && (decide (x1.1.vars = 4))) = true then
    (m_assessorref26_Clauses x1.1.clauses ([([(-1)] : List Int), ([2, (-4)] : List Int), ([(-3), (-4)] : List Int), ([(-2), 3, 4] : List Int), ([4] : List Int)] : List (List Int))).bind fun x5 =>
    some x5
  else
    some false) : Option Bool).bind fun m1 =>
  ((if m1 = true then
    (m_slices_Equal_int_int_ x2.1 ([(-1), 2, (-3), 4] : List Int)).bind fun x6 =>
    some x6
  else
    some false) : Option Bool).bind fun m2 =>
  ((if (((m2 && x2.2.1) && (decide (x2.2.2 = 0))) && x3.2) = true then
    (m_slices_Equal_int_int_ x3.1 ([(-2), 3] : List Int)).bind fun x7 =>
    some x7
  else
    some false) : Option Bool).bind fun m3 =>
  ((if (m3 && (decide (x4.2 = 0))) = true then
    (m_cnf_Format x4.1).bind fun x8 =>
    some (decide (x8 = (ByteArray.mk #[112, 32, 99, 110, 102, 32, 50, 32, 49, 10, 49, 32, 45, 50, 32, 48, 10])))
  else
    some false) : Option Bool).bind fun m4 =>
  ((if m4 = true then
    (m_cnf_Valid x1.1).bind fun x9 =>
    some x9
  else
    some false) : Option Bool).bind fun m5 =>
  ((if m5 = true then
    (m_cnf_Holds x1.1 ([(-1), 2, (-3), 4] : List Int)).bind fun x10 =>
    some x10
  else
    some false) : Option Bool).bind fun m6 =>
  ((if m6 = true then
    (m_cnf_Literal 5).bind fun x11 =>
    some (decide (x11 = (-3)))
  else
    some false) : Option Bool).bind fun m7 =>
  some m7
end Go.Proofs.YtelioaepnpnojaaGreatDoor

/- Models of: assessor/assessorlaw26.CnfTranslates. (Printed by wip/sp/gen.py.) -/
set_option linter.unusedVariables false
set_option linter.unusedSimpArgs false
namespace Go.Proofs.YtelioaepnpnojaaGreatDoor
open Go.RowKit
noncomputable def m_assessorlaw26_CnfTranslates (p0 : Gates) (p1 : (List Int)) : Option Bool :=
  (m_assessorlaw26_awake ).bind fun x1 =>
  if (!x1) = true then
    some false
  else
    if ((decide (40 < (p0.gates.length : Int))) || (decide (40 < (p1.length : Int)))) = true then
      some true
    else
      (m_cnf_Translate p0 p1).bind fun x2 =>
      (m_assessorref26_Translate p0 p1).bind fun x3 =>
      (m_assessorref26_Same x2.1 x3.1).bind fun x4 =>
      some (x4 && (decide (x2.2 = x3.2)))
end Go.Proofs.YtelioaepnpnojaaGreatDoor

/- Small facts on the types and functions of this seat. (Printed by wip/sp/gen.py.) -/
set_option linter.unusedVariables false
set_option linter.unusedSimpArgs false
namespace Go.Proofs.YtelioaepnpnojaaGreatDoor
open Go.RowKit
theorem slty25 : SlTy Tryz.prog 25 3 1 8 := SlTy.of (z := .int .i64 0) (by kernel_rfl) (by kernel_rfl) rfl
theorem varty3 : VarTy Tryz.prog 3 false 1 := ⟨fun w => by simp [isAgg, go_sem], fun w => by simp [sizeOf, go_sem] <;> rfl⟩
theorem ent46 : ∀ args w, (callFunc 46 args).run Tryz.prog w = .ok (.enter 46 args) w := enters Tryz.func46 (by kernel_rfl) rfl
theorem fldty24_0 : FldTy Tryz.prog 24 0 0 := fun b o w => by simp [Instr.fieldAt, go_sem]
theorem fldty24_1 : FldTy Tryz.prog 24 1 1 := fun b o w => by simp [Instr.fieldAt, go_sem]
theorem varty22 : VarTy Tryz.prog 22 false 1 := ⟨fun w => by simp [isAgg, go_sem], fun w => by simp [sizeOf, go_sem] <;> rfl⟩
theorem slty22 : SlTy Tryz.prog 22 25 1 24 := SlTy.of (z := .slice none 0 0) (by kernel_rfl) (by kernel_rfl) rfl
theorem varty25 : VarTy Tryz.prog 25 false 1 := ⟨fun w => by simp [isAgg, go_sem], fun w => by simp [sizeOf, go_sem] <;> rfl⟩
theorem ent48 : ∀ args w, (callFunc 48 args).run Tryz.prog w = .ok (.enter 48 args) w := enters Tryz.func48 (by kernel_rfl) rfl
theorem ent49 : ∀ args w, (callFunc 49 args).run Tryz.prog w = .ok (.enter 49 args) w := enters Tryz.func49 (by kernel_rfl) rfl
theorem ent71 : ∀ args w, (callFunc 71 args).run Tryz.prog w = .ok (.enter 71 args) w := enters Tryz.func71 (by kernel_rfl) rfl
theorem varty24 : VarTy Tryz.prog 24 true 2 := ⟨fun w => by simp [isAgg, go_sem], fun w => by simp [sizeOf, go_sem] <;> rfl⟩
theorem ent15 : ∀ args w, (callFunc 15 args).run Tryz.prog w = .ok (.enter 15 args) w := enters Tryz.func15 (by kernel_rfl) rfl
theorem ent32 : ∀ args w, (callFunc 32 args).run Tryz.prog w = .ok (.enter 32 args) w := enters Tryz.func32 (by kernel_rfl) rfl
theorem ent41 : ∀ args w, (callFunc 41 args).run Tryz.prog w = .ok (.enter 41 args) w := enters Tryz.func41 (by kernel_rfl) rfl
theorem ent42 : ∀ args w, (callFunc 42 args).run Tryz.prog w = .ok (.enter 42 args) w := enters Tryz.func42 (by kernel_rfl) rfl
theorem ent47 : ∀ args w, (callFunc 47 args).run Tryz.prog w = .ok (.enter 47 args) w := enters Tryz.func47 (by kernel_rfl) rfl
theorem ent31 : ∀ args w, (callFunc 31 args).run Tryz.prog w = .ok (.enter 31 args) w := enters Tryz.func31 (by kernel_rfl) rfl
theorem ent40 : ∀ args w, (callFunc 40 args).run Tryz.prog w = .ok (.enter 40 args) w := enters Tryz.func40 (by kernel_rfl) rfl
theorem fldty38_0 : FldTy Tryz.prog 38 0 0 := fun b o w => by simp [Instr.fieldAt, go_sem]
theorem fldty38_1 : FldTy Tryz.prog 38 1 1 := fun b o w => by simp [Instr.fieldAt, go_sem]
theorem varty36 : VarTy Tryz.prog 36 false 1 := ⟨fun w => by simp [isAgg, go_sem], fun w => by simp [sizeOf, go_sem] <;> rfl⟩
theorem slty36 : SlTy Tryz.prog 36 62 2 16 := SlTy.of (z := .agg #[.int .i64 0, .int .i64 0]) (by kernel_rfl) (by kernel_rfl) rfl
theorem varty38 : VarTy Tryz.prog 38 true 2 := ⟨fun w => by simp [isAgg, go_sem], fun w => by simp [sizeOf, go_sem] <;> rfl⟩
theorem ent79 : ∀ args w, (callFunc 79 args).run Tryz.prog w = .ok (.enter 79 args) w := enters Tryz.func79 (by kernel_rfl) rfl
theorem varty62 : VarTy Tryz.prog 62 true 2 := ⟨fun w => by simp [isAgg, go_sem], fun w => by simp [sizeOf, go_sem] <;> rfl⟩
theorem aelty62_0 : ArrTy Tryz.prog 62 0 0 := fun b o w => by simp [Instr.indexAt, go_sem]
theorem aelty62_1 : ArrTy Tryz.prog 62 1 1 := fun b o w => by simp [Instr.indexAt, go_sem]
theorem ent80 : ∀ args w, (callFunc 80 args).run Tryz.prog w = .ok (.enter 80 args) w := enters Tryz.func80 (by kernel_rfl) rfl
theorem kt62 : KT Tryz.prog 62 Arr2 := kt_arr2 (et := 3) (by kernel_rfl) (by kernel_rfl) (fun w => by simp [isAgg, go_sem]) (fun w => by simp [sizeOf, go_sem] <;> rfl)
theorem mapty102 : Tryz.prog.underlying 102 = some (.map 62 4) := by kernel_rfl
theorem zero4 : ∀ w, (zeroValue 4).run Tryz.prog w = .ok (.bool false) w := fun w => by simp [go_sem] <;> rfl
theorem ent51 : ∀ args w, (callFunc 51 args).run Tryz.prog w = .ok (.enter 51 args) w := enters Tryz.func51 (by kernel_rfl) rfl
theorem varty4 : VarTy Tryz.prog 4 false 1 := ⟨fun w => by simp [isAgg, go_sem], fun w => by simp [sizeOf, go_sem] <;> rfl⟩
theorem ent38 : ∀ args w, (callFunc 38 args).run Tryz.prog w = .ok (.enter 38 args) w := enters Tryz.func38 (by kernel_rfl) rfl
theorem ent81 : ∀ args w, (callFunc 81 args).run Tryz.prog w = .ok (.enter 81 args) w := enters Tryz.func81 (by kernel_rfl) rfl
theorem eqst62 (a0 : Int) (a1 : Int) (b0 : Int) (b1 : Int) : EqSt Tryz.prog 62 [.int .i64 a0, .int .i64 a1] [.int .i64 b0, .int .i64 b1] ((decide (a0 = b0)) && (decide (a1 = b1))) := eqst_arr2 (et := 3) (by kernel_rfl) (by kernel_rfl) (fun w => by simp [isAgg, go_sem]) (fun w => by simp [sizeOf, go_sem] <;> rfl) (by kernel_rfl) a0 a1 b0 b1
theorem ent12 : ∀ args w, (callFunc 12 args).run Tryz.prog w = .ok (.enter 12 args) w := enters Tryz.func12 (by kernel_rfl) rfl
theorem ent19 : ∀ args w, (callFunc 19 args).run Tryz.prog w = .ok (.enter 19 args) w := enters Tryz.func19 (by kernel_rfl) rfl
theorem ent52 : ∀ args w, (callFunc 52 args).run Tryz.prog w = .ok (.enter 52 args) w := enters Tryz.func52 (by kernel_rfl) rfl
theorem ent53 : ∀ args w, (callFunc 53 args).run Tryz.prog w = .ok (.enter 53 args) w := enters Tryz.func53 (by kernel_rfl) rfl
theorem ent54 : ∀ args w, (callFunc 54 args).run Tryz.prog w = .ok (.enter 54 args) w := enters Tryz.func54 (by kernel_rfl) rfl
theorem ent20 : ∀ args w, (callFunc 20 args).run Tryz.prog w = .ok (.enter 20 args) w := enters Tryz.func20 (by kernel_rfl) rfl
theorem ent13 : ∀ args w, (callFunc 13 args).run Tryz.prog w = .ok (.enter 13 args) w := enters Tryz.func13 (by kernel_rfl) rfl
theorem fldty74_1 : FldTy Tryz.prog 74 1 2 := fun b o w => by simp [Instr.fieldAt, go_sem]
theorem fldty74_4 : FldTy Tryz.prog 74 4 5 := fun b o w => by simp [Instr.fieldAt, go_sem]
theorem fldty74_5 : FldTy Tryz.prog 74 5 6 := fun b o w => by simp [Instr.fieldAt, go_sem]
theorem fldty74_3 : FldTy Tryz.prog 74 3 4 := fun b o w => by simp [Instr.fieldAt, go_sem]
theorem fldty74_0 : FldTy Tryz.prog 74 0 0 := fun b o w => by simp [Instr.fieldAt, go_sem]
theorem ent57 : ∀ args w, (callFunc 57 args).run Tryz.prog w = .ok (.enter 57 args) w := enters Tryz.func57 (by kernel_rfl) rfl
theorem ent55 : ∀ args w, (callFunc 55 args).run Tryz.prog w = .ok (.enter 55 args) w := enters Tryz.func55 (by kernel_rfl) rfl
theorem fldty74_2 : FldTy Tryz.prog 74 2 3 := fun b o w => by simp [Instr.fieldAt, go_sem]
theorem ent56 : ∀ args w, (callFunc 56 args).run Tryz.prog w = .ok (.enter 56 args) w := enters Tryz.func56 (by kernel_rfl) rfl
theorem ent58 : ∀ args w, (callFunc 58 args).run Tryz.prog w = .ok (.enter 58 args) w := enters Tryz.func58 (by kernel_rfl) rfl
theorem ent67 : ∀ args w, (callFunc 67 args).run Tryz.prog w = .ok (.enter 67 args) w := enters Tryz.func67 (by kernel_rfl) rfl
theorem ent66 : ∀ args w, (callFunc 66 args).run Tryz.prog w = .ok (.enter 66 args) w := enters Tryz.func66 (by kernel_rfl) rfl
theorem ent68 : ∀ args w, (callFunc 68 args).run Tryz.prog w = .ok (.enter 68 args) w := enters Tryz.func68 (by kernel_rfl) rfl
theorem varty9 : VarTy Tryz.prog 9 false 1 := ⟨fun w => by simp [isAgg, go_sem], fun w => by simp [sizeOf, go_sem] <;> rfl⟩
theorem ent83 : ∀ args w, (callFunc 83 args).run Tryz.prog w = .ok (.enter 83 args) w := enters Tryz.func83 (by kernel_rfl) rfl
theorem ent61 : ∀ args w, (callFunc 61 args).run Tryz.prog w = .ok (.enter 61 args) w := enters Tryz.func61 (by kernel_rfl) rfl
theorem ent62 : ∀ args w, (callFunc 62 args).run Tryz.prog w = .ok (.enter 62 args) w := enters Tryz.func62 (by kernel_rfl) rfl
theorem slty79 : SlTy Tryz.prog 79 9 1 16 := SlTy.of (z := .string ByteArray.empty) (by kernel_rfl) (by kernel_rfl) rfl
theorem varty39 : VarTy Tryz.prog 39 false 1 := ⟨fun w => by simp [isAgg, go_sem], fun w => by simp [sizeOf, go_sem] <;> rfl⟩
theorem ent63 : ∀ args w, (callFunc 63 args).run Tryz.prog w = .ok (.enter 63 args) w := enters Tryz.func63 (by kernel_rfl) rfl
theorem ent82 : ∀ args w, (callFunc 82 args).run Tryz.prog w = .ok (.enter 82 args) w := enters Tryz.func82 (by kernel_rfl) rfl
theorem ent28 : ∀ args w, (callFunc 28 args).run Tryz.prog w = .ok (.enter 28 args) w := enters Tryz.func28 (by kernel_rfl) rfl
theorem ent21 : ∀ args w, (callFunc 21 args).run Tryz.prog w = .ok (.enter 21 args) w := enters Tryz.func21 (by kernel_rfl) rfl
theorem ent24 : ∀ args w, (callFunc 24 args).run Tryz.prog w = .ok (.enter 24 args) w := enters Tryz.func24 (by kernel_rfl) rfl
theorem ent26 : ∀ args w, (callFunc 26 args).run Tryz.prog w = .ok (.enter 26 args) w := enters Tryz.func26 (by kernel_rfl) rfl
theorem ent14 : ∀ args w, (callFunc 14 args).run Tryz.prog w = .ok (.enter 14 args) w := enters Tryz.func14 (by kernel_rfl) rfl
theorem ent17 : ∀ args w, (callFunc 17 args).run Tryz.prog w = .ok (.enter 17 args) w := enters Tryz.func17 (by kernel_rfl) rfl
theorem ent10 : ∀ args w, (callFunc 10 args).run Tryz.prog w = .ok (.enter 10 args) w := enters Tryz.func10 (by kernel_rfl) rfl
theorem ent22 : ∀ args w, (callFunc 22 args).run Tryz.prog w = .ok (.enter 22 args) w := enters Tryz.func22 (by kernel_rfl) rfl
theorem ent23 : ∀ args w, (callFunc 23 args).run Tryz.prog w = .ok (.enter 23 args) w := enters Tryz.func23 (by kernel_rfl) rfl
end Go.Proofs.YtelioaepnpnojaaGreatDoor

/- The shelf's words for a row that is sorted in place, brought to owned slices at any place of their block. Plain theorems. -/
set_option linter.unusedVariables false
set_option linter.unusedSimpArgs false
namespace Go.Proofs.YtelioaepnpnojaaGreatDoor
open Go.RowKit Go.Sort
section
variable {β : Type} [Inhabited β] {Z : World} {ρ : PH} {L : List Atom} {w : World} {T : TypeId} {sz g off cap n : Nat} {xs xs' : List Value}
theorem putCells_seg (enc : β → Value) (off : Nat) (d : Array β) (cur : Array Value) (h : off + d.size ≤ cur.size) : ((putCells enc off d cur).toList.drop off).take d.size = d.toList.map enc := by
  apply List.ext_getElem?
  intro q
  rw [List.getElem?_take]
  by_cases hq : q < d.size
  · rw [if_pos hq, List.getElem?_drop, Array.getElem?_toList]
    unfold putCells
    rw [Array.getElem?_mapIdx, Array.getElem?_eq_getElem (by omega)]
    simp [hq]
  · rw [if_neg hq, List.getElem?_eq_none (by simpa using hq)]
theorem Hp.holdsO (enc : β → Value) {d : Array β} (h : Hp Z ρ (Row T sz (.slice (some ⟨g, off, none⟩) n cap) n xs :: L) w) (hn : 0 < n) (hd : d.toList.map enc = xs) : Holds enc w g off d ∧ g < w.heap.size := by
  obtain ⟨hxl, hr⟩ := h.row
  rcases hr with ⟨A, _, hn0⟩ | ⟨g', off', cap', cur, e, hpt, h1, h2, h3, h4⟩
  · omega
  · simp only [Value.slice.injEq, Option.some.injEq, Addr.mk.injEq, and_true, true_and] at e
    obtain ⟨⟨rfl, rfl⟩, rfl⟩ := e
    have hg := hpt.look 0 rfl
    refine ⟨fun j hj => ?_, (Array.getElem?_eq_some_iff.1 hg).1⟩
    have e1 : xs[j]? = some (enc d[j]!) := by
      rw [← hd, List.getElem?_map, Array.getElem?_toList, Array.getElem?_eq_getElem hj]
      simp [hj]
    have hjx : j < n * sz := by rw [← hxl]; exact (List.getElem?_eq_some_iff.1 e1).1
    rw [← h4, List.getElem?_take, if_pos hjx, List.getElem?_drop, Array.getElem?_toList] at e1
    refine ⟨?_, by simp [World.frozen?, hg]⟩
    rw [cell_of_row w g _ cur T (0, 0) hg]
    exact e1
theorem Hp.putO (enc : β → Value) {m : Nat} {d : Array β} {os : Array Obj} (h : Hp Z ρ (Row T sz (.slice (some ⟨g, off, none⟩) n cap) n xs :: L) w) (hn : 0 < n) (hd : d.toList.map enc = xs') (hl : xs'.length = n * sz) : Hp Z ρ (Row T sz (.slice (some ⟨g, off, none⟩) n cap) n xs' :: L) (grow (putRow enc (Sort.ahead w m) g off d) os) := by
  rcases h.row.2 with ⟨A, _, hn0⟩ | ⟨g', off', cap', cur, e, hpt, h1, h2, h3, h4⟩
  · omega
  · simp only [Value.slice.injEq, Option.some.injEq, Addr.mk.injEq, and_true, true_and] at e
    obtain ⟨⟨rfl, rfl⟩, rfl⟩ := e
    have hg := hpt.look 0 rfl
    have hds : d.size = n * sz := by rw [← hl, ← hd]; simp
    have hle : n * sz ≤ cap * sz := Nat.mul_le_mul_right _ h1
    have hnew : (putRow enc (Sort.ahead w m) g off d).heap[g]? = some (.cells (putCells enc off d cur) T (0, 0)) := by
      unfold putRow mapBlock
      simp only [Array.getElem?_modify, if_true, heap_ahead, hg, Option.map_some]
      rfl
    have b := (Hp.set (w' := putRow enc (Sort.ahead w m) g off d) hpt rfl rfl rfl hnew (fun k hk => by
      unfold putRow mapBlock
      simp only [Array.getElem?_modify, heap_ahead]
      rw [if_neg (fun e => hk e.symm)])).shutO (off := off) (n := n) (cap := cap) (sz := sz) (xs := xs') h1 h2 (by simp [putCells, h3]) (by
        rw [← hds, putCells_seg enc off d cur (by omega), hd])
    refine b.with_ (w' := grow (putRow enc (Sort.ahead w m) g off d) os) rfl rfl rfl (b.sep.mono fun c o e => ?_)
    have hlt : c < (putRow enc (Sort.ahead w m) g off d).heap.size := (Array.getElem?_eq_some_iff.1 e).1
    show (grow (putRow enc (Sort.ahead w m) g off d) os).heap[c]? = some o
    rw [heap_grow_old _ _ hlt]; exact e
end
section
variable {α : Type} [Inhabited α] [Enc α] {Z : World} {ρ : PH} {L : List Atom} {w : World}
end
end Go.Proofs.YtelioaepnpnojaaGreatDoor

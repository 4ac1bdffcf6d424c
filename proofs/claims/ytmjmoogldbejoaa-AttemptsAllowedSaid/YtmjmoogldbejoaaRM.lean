/-
  Models of: assessor/assessorref52.time, assessor/assessorref52.Valid, assessor/assessorref52.better, assessor/assessorref52.Counting, assessor/assessorref52.Allowed, assessor/assessorref52.Earliest, assessor/assessorref52.Final, assessor/assessorref49.Ints. (Printed by wip/sp/gen.py.)
-/
import Derived.Test.YtmjmoogldbejoaaTy
set_option linter.unusedVariables false
set_option linter.unusedSimpArgs false
namespace Go.Proofs.Ytmjmoogldbejoaa
open Go.RowKit
noncomputable def m_assessorref52_time (p0 : Int) : Option Bool :=
  some ((decide (0 ≤ p0)) && (decide (p0 ≤ 1099511627776)))
noncomputable def m_assessorref52_Valid_lp1 (p1 : (List Att)) (lp1_0 : Int) : Option (Step Int (Out Unit Bool)) :=
  if (decide (lp1_0 < (p1.length : Int))) = true then
    (idx p1 lp1_0).bind fun x2 =>
    (inK .i64 (lp1_0 + 1)).bind fun x3 =>
    ((if (!decide (x2.num = x3)) = true then
      some true
    else
      (m_assessorref52_time x2.tick).bind fun x4 =>
      some (!x4)) : Option Bool).bind fun m2 =>
    ((if m2 = true then
      some true
    else
      ((if (decide (0 < lp1_0)) = true then
        (inK .i64 (lp1_0 - 1)).bind fun x5 =>
        (idx p1 x5).bind fun x6 =>
        some (decide (x2.tick < x6.tick))
      else
        some false) : Option Bool).bind fun m4 =>
      some m4) : Option Bool).bind fun m3 =>
    if ((m3 || (decide (x2.pts < 0))) || (decide (100000000 < x2.pts))) = true then
      some (.done (.ret false))
    else
      (inK .i64 (lp1_0 + 1)).bind fun x7 =>
      some (.next x7)
  else
    some (.done (.brk ()))
noncomputable def m_assessorref52_Valid (p0 : Rule) (p1 : (List Att)) : Option Bool :=
  ((if ((((decide (p0.kind < 0)) || (decide (2 < p0.kind))) || (decide (p0.most < 1))) || (decide (16 < p0.most))) = true then
    some true
  else
    (m_assessorref52_time p0.pause).bind fun x1 =>
    some (!x1)) : Option Bool).bind fun m1 =>
  if (m1 || (decide (p0.most < (p1.length : Int)))) = true then
    some false
  else
    if (((decide (p0.kind = 2)) && ((decide (p0.keep < 1)) || (decide (p0.most < p0.keep)))) || ((!decide (p0.kind = 2)) && (!decide (p0.keep = 0)))) = true then
      some false
    else
      (loopM (fun s => m_assessorref52_Valid_lp1 p1 s) 0 : Option (Out Unit Bool)).bind fun b2 =>
      match b2 with
      | .brk b2s =>
        some true
      | .ret r => some r
noncomputable def m_assessorref52_better_lp1 (p0 : (List Att)) (p1 : Int) (lp1_0 : Int) (lp1_1 : Int) : Option (Step (Int × Int) Int) :=
  if (decide (lp1_1 < (p0.length : Int))) = true then
    (idx p0 lp1_1).bind fun x1 =>
    (idx p0 p1).bind fun x2 =>
    ((if (decide (x2.pts < x1.pts)) = true then
      some true
    else
      (idx p0 lp1_1).bind fun x3 =>
      (idx p0 p1).bind fun x4 =>
      some ((decide (x3.pts = x4.pts)) && (decide (lp1_1 < p1)))) : Option Bool).bind fun m1 =>
    if m1 = true then
      (inK .i64 (lp1_0 + 1)).bind fun x5 =>
      (inK .i64 (lp1_1 + 1)).bind fun x6 =>
      some (.next (x5, x6))
    else
      (inK .i64 (lp1_1 + 1)).bind fun x7 =>
      some (.next (lp1_0, x7))
  else
    some (.done lp1_0)
noncomputable def m_assessorref52_better (p0 : (List Att)) (p1 : Int) : Option Int :=
  (loopM (fun s => m_assessorref52_better_lp1 p0 p1 s.1 s.2) (0, 0) : Option Int).bind fun b1 =>
  some b1
noncomputable def m_assessorref52_Counting_lp1 (p0 : Rule) (p1 : (List Att)) (lp1_0 : Int) (lp1_1 : (List Int)) : Option (Step (Int × (List Int)) (List Int)) :=
  if (decide (lp1_0 < (p1.length : Int))) = true then
    ((if (decide (p0.kind = 0)) = true then
      (m_assessorref52_better p1 lp1_0).bind fun x2 =>
      some (decide (x2 = 0))
    else
      some false) : Option Bool).bind fun m1 =>
    ((if m1 = true then
      some true
    else
      ((if (decide (p0.kind = 1)) = true then
        (inK .i64 ((p1.length : Int) - 1)).bind fun x3 =>
        some (decide (lp1_0 = x3))
      else
        some false) : Option Bool).bind fun m3 =>
      some m3) : Option Bool).bind fun m2 =>
    ((if m2 = true then
      some true
    else
      ((if (decide (p0.kind = 2)) = true then
        (m_assessorref52_better p1 lp1_0).bind fun x4 =>
        some (decide (x4 < p0.keep))
      else
        some false) : Option Bool).bind fun m5 =>
      some m5) : Option Bool).bind fun m4 =>
    if m4 = true then
      (inK .i64 (lp1_0 + 1)).bind fun x5 =>
      (app lp1_1 [x5]).bind fun x6 =>
      (inK .i64 (lp1_0 + 1)).bind fun x7 =>
      some (.next (x7, x6))
    else
      (inK .i64 (lp1_0 + 1)).bind fun x8 =>
      some (.next (x8, lp1_1))
  else
    some (.done lp1_1)
noncomputable def m_assessorref52_Counting (p0 : Rule) (p1 : (List Att)) : Option (List Int) :=
  (m_assessorref52_Valid p0 p1).bind fun x1 =>
  if (!x1) = true then
    some ([] : List Int)
  else
    (loopM (fun s => m_assessorref52_Counting_lp1 p0 p1 s.1 s.2) (0, ([] : List Int)) : Option (List Int)).bind fun b3 =>
    some b3
noncomputable def m_assessorref52_Allowed (p0 : Rule) (p1 : (List Att)) (p2 : Int) : Option Int :=
  (m_assessorref52_Valid p0 p1).bind fun x1 =>
  if (!x1) = true then
    some 1
  else
    (m_assessorref52_time p2).bind fun x2 =>
    ((if (!x2) = true then
      some true
    else
      ((if (decide (0 < (p1.length : Int))) = true then
        (inK .i64 ((p1.length : Int) - 1)).bind fun x3 =>
        (idx p1 x3).bind fun x4 =>
        some (decide (p2 < x4.tick))
      else
        some false) : Option Bool).bind fun m2 =>
      some m2) : Option Bool).bind fun m1 =>
    if m1 = true then
      some 2
    else
      if (decide ((p1.length : Int) = p0.most)) = true then
        some 8
      else
        ((if (decide (0 < (p1.length : Int))) = true then
          (inK .i64 ((p1.length : Int) - 1)).bind fun x5 =>
          (idx p1 x5).bind fun x6 =>
          (inK .i64 (x6.tick + p0.pause)).bind fun x7 =>
          some (decide (p2 < x7))
        else
          some false) : Option Bool).bind fun m3 =>
        if m3 = true then
          some 9
        else
          some 0
noncomputable def m_assessorref52_Earliest (p0 : Rule) (p1 : (List Att)) : Option (Int × Bool) :=
  (m_assessorref52_Valid p0 p1).bind fun x1 =>
  if ((!x1) || (decide ((p1.length : Int) = p0.most))) = true then
    some (0, false)
  else
    ((if (decide (0 < (p1.length : Int))) = true then
      (inK .i64 ((p1.length : Int) - 1)).bind fun x2 =>
      (idx p1 x2).bind fun x3 =>
      (inK .i64 (x3.tick + p0.pause)).bind fun x4 =>
      some x4
    else
      some 0) : Option Int).bind fun j1 =>
    (m_assessorref52_time j1).bind fun x5 =>
    if (!x5) = true then
      some (0, false)
    else
      some (j1, true)
noncomputable def m_assessorref52_Final_lp1 (p1 : (List Att)) (x2 : (List Int)) (lp1_0 : Int) (lp1_1 : Int) : Option (Step (Int × Int) Int) :=
  if (decide (lp1_1 < (x2.length : Int))) = true then
    (idx x2 lp1_1).bind fun x3 =>
    (inK .i64 (x3 - 1)).bind fun x4 =>
    (idx p1 x4).bind fun x5 =>
    (inK .i64 (lp1_0 + x5.pts)).bind fun x6 =>
    (inK .i64 (lp1_1 + 1)).bind fun x7 =>
    some (.next (x6, x7))
  else
    some (.done lp1_0)
noncomputable def m_assessorref52_Final (p0 : Rule) (p1 : (List Att)) : Option (Int × Int) :=
  (m_assessorref52_Valid p0 p1).bind fun x1 =>
  if (!x1) = true then
    some (0, 1)
  else
    (m_assessorref52_Counting p0 p1).bind fun x2 =>
    if (decide ((x2.length : Int) = 0)) = true then
      some (0, 0)
    else
      (loopM (fun s => m_assessorref52_Final_lp1 p1 x2 s.1 s.2) (0, 0) : Option Int).bind fun b2 =>
      (inK .i64 (2 * b2)).bind fun x8 =>
      (inK .i64 (x8 + (x2.length : Int))).bind fun x9 =>
      (inK .i64 (2 * (x2.length : Int))).bind fun x10 =>
      (quoK .i64 x9 x10).bind fun x11 =>
      some (x11, 0)
noncomputable def m_assessorref49_Ints_lp1 (p0 : (List Int)) (p1 : (List Int)) (lp1_0 : Int) : Option (Step Int (Out Unit Bool)) :=
  if (decide (lp1_0 < (p0.length : Int))) = true then
    (idx p0 lp1_0).bind fun x1 =>
    (idx p1 lp1_0).bind fun x2 =>
    if (!decide (x1 = x2)) = true then
      some (.done (.ret false))
    else
      (inK .i64 (lp1_0 + 1)).bind fun x3 =>
      some (.next x3)
  else
    some (.done (.brk ()))
noncomputable def m_assessorref49_Ints (p0 : (List Int)) (p1 : (List Int)) : Option Bool :=
  if (!decide ((p0.length : Int) = (p1.length : Int))) = true then
    some false
  else
    (loopM (fun s => m_assessorref49_Ints_lp1 p0 p1 s) 0 : Option (Out Unit Bool)).bind fun b1 =>
    match b1 with
    | .brk b1s =>
      some true
    | .ret r => some r
end Go.Proofs.Ytmjmoogldbejoaa

/- Models of: assessor/assessorref26.Variable, assessor/assessorref26.IsClause, assessor/assessorref26.Valid, assessor/assessorref26.Clauses, assessor/assessorref2 -/
import Derived.Test.YtpkhmndpeipfmaaKUnT
import Derived.Test.YtpkhmndpeipfmaaKUn4
import Derived.Test.YtpkhmndpeipfmaaKUn5
import Derived.Test.YtpkhmndpeipfmaaProg
import Derived.Shelf.SlSortCmp.InsertionK
import Derived.Shelf.Small.Bits
import Derived.Shelf.Small.Wraps
import Derived.Shelf.Strconv.Itoa0
import Derived.Shelf.Slices.Equal
import Derived.Ground.Names2Prog
import Derived.Shelf.Slices.Clone
import Derived.Shelf.Slices.CompactI
import Derived.Shelf.Slices.SearchI
import Derived.Shelf.Slices.Cells
import Derived.Shelf.Slices.Empties2
import Derived.Ground.SlsfProg
import Derived.Shelf.SlSortCmp.Insertion
import Derived.Shelf.SlSortCmp.SiftDown1
import Derived.Shelf.SlSortCmp.HeapSort1
import Derived.Shelf.SlSortCmp.Insertion1
import Derived.Shelf.SlSortCmp.Median1
import Derived.Shelf.SlSortCmp.Pivot1
import Derived.Shelf.SlSortCmp.ReverseRange1
import Derived.Shelf.SlSortCmp.PartialInsertion1
import Derived.Shelf.SlSortCmp.PartitionEqual1
import Derived.Shelf.SlSortCmp.Partition1
import Derived.Shelf.SlSortCmp.Pdq1
import Derived.Shelf.SlSortCmp.Whole1
import Derived.Shelf.SlSortCmp.NoneTotal
import Derived.Shelf.Abstract
set_option linter.unusedVariables false
set_option linter.unusedSimpArgs false
set_option maxRecDepth 100000
set_option maxHeartbeats 4000000
namespace Go.Proofs.Ytpkhmndpeipfmaa
open Go.RowKit
noncomputable def gG (p0:Int):Option Int:=
 if(decide (p0<0))=true then
  (inK .i64 (0-p0)).bind fun x1=>
  some x1
 else
  some p0
noncomputable def jC (p0:(List Int)) (p1:Int) (aW:Int):Option (Step Int (Out Unit Bool)):=
 if(decide (aW<(p0.length:Int)))=true then
  (idx p0 aW).bind fun x1=>
  ((if(decide (x1=0))=true then
   some true
  else
   (idx p0 aW).bind fun x2=>
   (inK .i64 (0-p1)).bind fun x3=>
   some (decide (x2<x3))):Option Bool).bind fun m1=>
  ((if m1=true then
   some true
  else
   (idx p0 aW).bind fun x4=>
   some (decide (p1<x4))):Option Bool).bind fun m2=>
  ((if m2=true then
   some true
  else
   ((if(decide (0<aW))=true then
    (idx p0 aW).bind fun x5=>
    (gG x5).bind fun x6=>
    (inK .i64 (aW-1)).bind fun x7=>
    (idx p0 x7).bind fun x8=>
    (gG x8).bind fun x9=>
    some (decide (x6≤x9))
   else
    some false):Option Bool).bind fun m4=>
   some m4):Option Bool).bind fun m3=>
  if m3=true then
   some (.done (.ret false))
  else
   (inK .i64 (aW+1)).bind fun x10=>
   some (.next x10)
 else
  some (.done (.brk ()))
noncomputable def lG (p0:(List Int)) (p1:Int):Option Bool:=
 (dC (fun s=>jC p0 p1 s) 0:Option (Out Unit Bool)).bind fun b1=>
 match b1 with
 | .brk b1s=>
  some true
 | .ret r=>some r
noncomputable def nD (p0:Formula) (aW:Int):Option (Step Int (Out Unit Bool)):=
 if(decide (aW<(p0.clauses.length:Int)))=true then
  (idx p0.clauses aW).bind fun x1=>
  (lG x1 p0.vars).bind fun x2=>
  if(!x2)=true then
   some (.done (.ret false))
  else
   (inK .i64 (aW+1)).bind fun x3=>
   some (.next x3)
 else
  some (.done (.brk ()))
noncomputable def nJ (p0:Formula):Option Bool:=
 if(((decide (p0.vars<0))||(decide (65536<p0.vars)))||(decide (262144<(p0.clauses.length:Int))))=true then
  some false
 else
  (dC (fun s=>nD p0 s) 0:Option (Out Unit Bool)).bind fun b2=>
  match b2 with
  | .brk b2s=>
   some true
  | .ret r=>some r
noncomputable def nC (p0:Formula) (aW:Int):Option (Step Int (Out Unit Bool)):=
 if(decide (aW<(p0.clauses.length:Int)))=true then
  (idx p0.clauses aW).bind fun x1=>
  if(decide (30<(x1.length:Int)))=true then
   some (.done (.ret false))
  else
   (inK .i64 (aW+1)).bind fun x2=>
   some (.next x2)
 else
  some (.done (.brk ()))
noncomputable def nI (p0:Formula) (p1:Int) (p2:Int):Option Bool:=
 (dC (fun s=>nC p0 s) 0:Option (Out Unit Bool)).bind fun b2=>
 match b2 with
 | .brk b2s=>
  some ((decide (p0.vars≤p1))&&(decide ((p0.clauses.length:Int)≤p2)))
 | .ret r=>some r
noncomputable def jJ (p1:(List Int)) (aW:Int):Option (Step Int (Out Unit Bool)):=
 if(decide (aW<(p1.length:Int)))=true then
  (idx p1 aW).bind fun x1=>
  (inK .i64 (aW+1)).bind fun x2=>
  ((if(!decide (x1=x2))=true then
   (idx p1 aW).bind fun x3=>
   (inK .i64 (aW+1)).bind fun x4=>
   (inK .i64 (0-x4)).bind fun x5=>
   some (!decide (x3=x5))
  else
   some false):Option Bool).bind fun m1=>
  if m1=true then
   some (.done (.ret false))
  else
   (inK .i64 (aW+1)).bind fun x6=>
   some (.next x6)
 else
  some (.done (.brk ()))
noncomputable def lQ (p0:Int) (p1:(List Int)):Option Bool:=
 if(!decide ((p1.length:Int)=p0))=true then
  some false
 else
  (dC (fun s=>jJ p1 s) 0:Option (Out Unit Bool)).bind fun b1=>
  match b1 with
  | .brk b1s=>
   some true
  | .ret r=>some r
noncomputable def kP (p0:Formula) (p1:(List Int)) (aW:Int) (dG:Bool) (fB:Int):Option (Step (Bool×Int) Bool):=
 (idx p0.clauses aW).bind fun x3=>
 if(decide (fB<(x3.length:Int)))=true then
  (idx p0.clauses aW).bind fun x4=>
  (idx x4 fB).bind fun x5=>
  ((if dG=true then
   some true
  else
   (gG x5).bind fun x6=>
   (inK .i64 (x6-1)).bind fun x7=>
   (idx p1 x7).bind fun x8=>
   some (decide (x8=x5))):Option Bool).bind fun m2=>
  (inK .i64 (fB+1)).bind fun x9=>
  some (.next (m2,x9))
 else
  some (.done dG)
noncomputable def mZ (p0:Formula) (p1:(List Int)) (aW:Int):Option (Step Int (Out Unit Bool)):=
 if(decide (aW<(p0.clauses.length:Int)))=true then
  (dC (fun s=>kP p0 p1 aW s.1 s.2) (false,0):Option Bool).bind fun b3=>
  if(!b3)=true then
   some (.done (.ret false))
  else
   (inK .i64 (aW+1)).bind fun x10=>
   some (.next x10)
 else
  some (.done (.brk ()))
noncomputable def nH (p0:Formula) (p1:(List Int)):Option Bool:=
 (nJ p0).bind fun x1=>
 ((if(!x1)=true then
  some true
 else
  (lQ p0.vars p1).bind fun x2=>
  some (!x2)):Option Bool).bind fun m1=>
 if m1=true then
  some false
 else
  (dC (fun s=>mZ p0 p1 s) 0:Option (Out Unit Bool)).bind fun b2=>
  match b2 with
  | .brk b2s=>
   some true
  | .ret r=>some r
noncomputable def lS (p0:Formula) (p1:(List Int)):Option Formula:=
 (app p0.clauses [p1]).bind fun x1=>
 some (Formula.mk p0.vars x1)
noncomputable def iZ (p0:Int) (p1:Int) (aW:Int) (bU:(List Int)):Option (Step (Int×(List Int)) (List Int)):=
 if(decide (aW≤p0))=true then
  (inK .i64 (p0-aW)).bind fun x1=>
  (shrK .i64 p1 x1).bind fun x2=>
  (remK x2 2).bind fun x3=>
  if(decide (x3=1))=true then
   (app bU [aW]).bind fun x4=>
   (inK .i64 (aW+1)).bind fun x5=>
   some (.next (x5,x4))
  else
   (inK .i64 (0-aW)).bind fun x6=>
   (app bU [x6]).bind fun x7=>
   (inK .i64 (aW+1)).bind fun x8=>
   some (.next (x8,x7))
 else
  some (.done bU)
noncomputable def nK (p0:Int) (p1:Int):Option (List Int):=
 (dC (fun s=>iZ p0 p1 s.1 s.2) (1,([]:List Int)):Option (List Int)).bind fun b2=>
 some b2
noncomputable def jU (p0:Formula) (aW:Int) (bU:Int):Option (Step (Int×Int) Int):=
 (shlK .i64 1 p0.vars).bind fun x1=>
 if(decide (bU<x1))=true then
  (nK p0.vars bU).bind fun x2=>
  (nH p0 x2).bind fun x3=>
  if x3=true then
   (inK .i64 (aW+1)).bind fun x4=>
   (inK .i64 (bU+1)).bind fun x5=>
   some (.next (x4,x5))
  else
   (inK .i64 (bU+1)).bind fun x6=>
   some (.next (aW,x6))
 else
  some (.done aW)
noncomputable def mF (p0:Formula):Option Int:=
 (dC (fun s=>jU p0 s.1 s.2) (0,0):Option Int).bind fun b2=>
 some b2
noncomputable def lH (p1:(List Int)) (aW:Int) (bU:Int) (dJ:(List (List Int))):Option (Step (Int×Int×(List (List Int))) (Int×(List (List Int)))):=
 if(decide (aW<(p1.length:Int)))=true then
  (idx p1 aW).bind fun x1=>
  (lS (Formula.mk bU dJ) ([x1]:List Int)).bind fun x2=>
  (inK .i64 (aW+1)).bind fun x3=>
  some (.next (x3,x2.vars,x2.clauses))
 else
  some (.done (bU,dJ))
noncomputable def jV (p0:Formula) (p1:(List Int)):Option Formula:=
 (dC (fun s=>lH p1 s.1 s.2.1 s.2.2) (0,p0.vars,p0.clauses):Option (Int×(List (List Int)))).bind fun b3=>
 some (Formula.mk b3.1 b3.2)
noncomputable def oO (p1:Int) (aW:Int) (dG:Int) (fB:(List Int)):Option (Step (Int×(List Int)) (List Int)):=
 if(decide (dG≤p1))=true then
  (inK .i64 (aW*p1)).bind fun x2=>
  (inK .i64 (x2+dG)).bind fun x3=>
  (app fB [x3]).bind fun x4=>
  (inK .i64 (dG+1)).bind fun x5=>
  some (.next (x5,x4))
 else
  some (.done fB)
noncomputable def jK (p0:Int) (p1:Int) (aW:Int) (bU:(List (List Int))):Option (Step (Int×(List (List Int))) (List (List Int))):=
 if(decide (aW<p0))=true then
  (dC (fun s=>oO p1 aW s.1 s.2) (1,([]:List Int)):Option (List Int)).bind fun b5=>
  (app bU [b5]).bind fun x6=>
  (inK .i64 (aW+1)).bind fun x7=>
  some (.next (x7,x6))
 else
  some (.done bU)
noncomputable def oP (p0:Int) (p1:Int) (lN:Int) (vV:Int) (F7:Int) (lp5_1:(List (List Int))):Option (Step (Int×(List (List Int))) (List (List Int))):=
 if(decide (F7<p0))=true then
  (inK .i64 (vV*p1)).bind fun x9=>
  (inK .i64 (x9+lN)).bind fun x10=>
  (inK .i64 (0-x10)).bind fun x11=>
  (inK .i64 (F7*p1)).bind fun x12=>
  (inK .i64 (x12+lN)).bind fun x13=>
  (inK .i64 (0-x13)).bind fun x14=>
  (app lp5_1 [([x11,x14]:List Int)]).bind fun x15=>
  (inK .i64 (F7+1)).bind fun x16=>
  some (.next (x16,x15))
 else
  some (.done lp5_1)
noncomputable def lW (p0:Int) (p1:Int) (lN:Int) (vV:Int) (sJ:(List (List Int))):Option (Step (Int×(List (List Int))) (List (List Int))):=
 if(decide (vV<p0))=true then
  (inK .i64 (vV+1)).bind fun x8=>
  (dC (fun s=>oP p0 p1 lN vV s.1 s.2) (x8,sJ):Option (List (List Int))).bind fun b10=>
  (inK .i64 (vV+1)).bind fun x17=>
  some (.next (x17,b10))
 else
  some (.done sJ)
noncomputable def jL (p0:Int) (p1:Int) (lN:Int) (F6:(List (List Int))):Option (Step (Int×(List (List Int))) (List (List Int))):=
 if(decide (lN≤p1))=true then
  (dC (fun s=>lW p0 p1 lN s.1 s.2) (0,F6):Option (List (List Int))).bind fun b9=>
  (inK .i64 (lN+1)).bind fun x18=>
  some (.next (x18,b9))
 else
  some (.done F6)
noncomputable def jO (p0:Int) (p1:Int):Option Formula:=
 (inK .i64 (p0*p1)).bind fun x1=>
 (dC (fun s=>jK p0 p1 s.1 s.2) (0,[]):Option (List (List Int))).bind fun b3=>
 (dC (fun s=>jL p0 p1 s.1 s.2) (1,b3):Option (List (List Int))).bind fun b8=>
 some (Formula.mk x1 b8)
noncomputable def kX:Option Bool:=
 (iE (Formula.mk 2 ([([1,2]:List Int),([(-1),2]:List Int)])) ([(-2)]:List Int) 100).bind fun x1=>
 (iE (Formula.mk 2 ([([1,2]:List Int),([(-1),2]:List Int)])) [] 100).bind fun x2=>
 (nV (Formula.mk 2 ([([1,2]:List Int),([(-1),2]:List Int)])) ([1,2]:List Int) 100).bind fun x3=>
 ((if((decide (x1.2=0))&&(decide (x1.1.kind=1)))=true then
  (jV (Formula.mk 2 ([([1,2]:List Int),([(-1),2]:List Int)])) ([(-2)]:List Int)).bind fun x4=>
  (mD x4 x1.1.proof).bind fun x5=>
  some x5
 else
  some false):Option Bool).bind fun m1=>
 ((if(((m1&&(decide (x2.2=0)))&&(decide (x2.1.kind=0)))&&(decide ((x2.1.model.length:Int)=2)))=true then
  (idx x2.1.model 1).bind fun x6=>
  some (decide (x6=2))
 else
  some false):Option Bool).bind fun m2=>
 ((if((m2&&(decide (x3.2=0)))&&(decide (x3.1.kind=0)))=true then
  (lT x3.1.model ([(-1),2]:List Int)).bind fun x7=>
  some x7
 else
  some false):Option Bool).bind fun m3=>
 some m3
noncomputable def fO (x4:(Answer×Int)) (dG:Int) (fB:(List Int)):Option (Step (Int×(List Int)) (List Int)):=
 if(decide (dG<(x4.1.model.length:Int)))=true then
  (idx x4.1.model dG).bind fun x8=>
  (inK .i64 (0-x8)).bind fun x9=>
  (app fB [x9]).bind fun x10=>
  (inK .i64 (dG+1)).bind fun x11=>
  some (.next (x11,x10))
 else
  some (.done fB)
noncomputable def jI (p0:Formula) (aW:Int) (bU:Int) (dJ:(List (List Int))):Option (Step (Int×Int×(List (List Int))) (Out (Int×(List (List Int))) Bool)):=
 if(decide (aW≤32))=true then
  (iE (Formula.mk bU dJ) [] 65536).bind fun x4=>
  if((!decide (x4.2=0))||(decide (x4.1.kind=2)))=true then
   some (.done (.ret false))
  else
   if(decide (x4.1.kind=1))=true then
    (mF p0).bind fun x5=>
    ((if(decide (aW=x5))=true then
     (mD (Formula.mk bU dJ) x4.1.proof).bind fun x6=>
     some x6
    else
     some false):Option Bool).bind fun m2=>
    some (.done (.ret m2))
   else
    (qY p0 x4.1.model).bind fun x7=>
    if(!x7)=true then
     some (.done (.ret false))
    else
     (dC (fun s=>fO x4 s.1 s.2) (0,[]):Option (List Int)).bind fun b6=>
     (inK .i64 (aW+1)).bind fun x12=>
     (lS (Formula.mk bU dJ) b6).bind fun x13=>
     some (.next (x12,x13.vars,x13.clauses))
 else
  some (.done (.brk (bU,dJ)))
noncomputable def lJ (p0:Formula):Option Bool:=
 (kX).bind fun x1=>
 if(!x1)=true then
  some false
 else
  (nI p0 5 12).bind fun x2=>
  ((if(!x2)=true then
   some true
  else
   (qZ p0).bind fun x3=>
   some (!x3)):Option Bool).bind fun m1=>
  if m1=true then
   some true
  else
   (dC (fun s=>jI p0 s.1 s.2.1 s.2.2) (0,p0.vars,p0.clauses):Option (Out (Int×(List (List Int))) Bool)).bind fun b4=>
   match b4 with
   | .brk b4s=>
    some false
   | .ret r=>some r
theorem bC:SlTy Try.prog 25 3 1 8:=SlTy.of (z:= .int .i64 0) (by kernel_rfl) (by kernel_rfl) rfl
theorem bG:VarTy Try.prog 3 false 1:=⟨fun w=>by simp[isAgg,go_sem],fun w=>by simp[sizeOf,go_sem]<;>rfl⟩
theorem oU:qF Try.prog 68 0 0:=fun b o w=>by simp[Instr.fieldAt,go_sem]
theorem bJ:VarTy Try.prog 25 false 1:=⟨fun w=>by simp[isAgg,go_sem],fun w=>by simp[sizeOf,go_sem]<;>rfl⟩
theorem tas20_3 (v:Value) (w:World):(Instr.typeAssert (.iface 3 v) 20 3 false).run Try.prog w= .ok v w:=by kernel_rfl
theorem fldty68_1:qF Try.prog 68 1 1:=fun b o w=>by simp[Instr.fieldAt,go_sem]
theorem varty66:VarTy Try.prog 66 false 1:=⟨fun w=>by simp[isAgg,go_sem],fun w=>by simp[sizeOf,go_sem]<;>rfl⟩
theorem slty66:SlTy Try.prog 66 4 1 1:=SlTy.of (z:= .bool false) (by kernel_rfl) (by kernel_rfl) rfl
theorem sO:VarTy Try.prog 4 false 1:=⟨fun w=>by simp[isAgg,go_sem],fun w=>by simp[sizeOf,go_sem]<;>rfl⟩
theorem mki3 (v:Value) (w:World):(Instr.makeInterface 3 v).run Try.prog w= .ok (.iface 3 v) w:=by kernel_rfl
theorem aD2 (x a0 a1:Value) (w:World):(invoke (.fn (.method "Less") #[]) (.iface 63 x::[a0,a1]).toArray).run Try.prog w= .ok (.enter 119 (x::[a0,a1]).toArray) w:=by kernel_rfl
theorem aD3 (x a0 a1:Value) (w:World):(invoke (.fn (.method "Swap") #[]) (.iface 63 x::[a0,a1]).toArray).run Try.prog w= .ok (.enter 122 (x::[a0,a1]).toArray) w:=by kernel_rfl
theorem inv63_Push (x a0:Value) (w:World):(invoke (.fn (.method "Push") #[]) (.iface 63 x::[a0]).toArray).run Try.prog w= .ok (.enter 121 (x::[a0]).toArray) w:=by kernel_rfl
theorem inv63_Len (x:Value) (w:World):(invoke (.fn (.method "Len") #[]) (.iface 63 x::[]).toArray).run Try.prog w= .ok (.enter 66 (x::[]).toArray) w:=by kernel_rfl
theorem ent63:∀args w,(callFunc 63 args).run Try.prog w= .ok (.enter 63 args) w:=enters Try.func63 (by kernel_rfl) rfl
theorem ent74:∀args w,(callFunc 74 args).run Try.prog w= .ok (.enter 74 args) w:=enters Try.func74 (by kernel_rfl) rfl
theorem inv63_Pop (x:Value) (w:World):(invoke (.fn (.method "Pop") #[]) (.iface 63 x::[]).toArray).run Try.prog w= .ok (.enter 120 (x::[]).toArray) w:=by kernel_rfl
theorem E8:qF Try.prog 65 0 0:=fun b o w=>by simp[Instr.fieldAt,go_sem]
theorem E5:∀args w,(callFunc 38 args).run Try.prog w= .ok (.enter 38 args) w:=enters Try.func38 (by kernel_rfl) rfl
theorem yG:qF Try.prog 65 1 1:=fun b o w=>by simp[Instr.fieldAt,go_sem]
theorem yH:qF Try.prog 65 2 2:=fun b o w=>by simp[Instr.fieldAt,go_sem]
theorem nG:VarTy Try.prog 61 false 1:=⟨fun w=>by simp[isAgg,go_sem],fun w=>by simp[sizeOf,go_sem]<;>rfl⟩
theorem pU:qF Try.prog 65 6 6:=fun b o w=>by simp[Instr.fieldAt,go_sem]
theorem pR:SlTy Try.prog 61 71 1 8:=SlTy.of (z:= .pointer none) (by kernel_rfl) (by kernel_rfl) rfl
theorem N8:VarTy Try.prog 71 false 1:=⟨fun w=>by simp[isAgg,go_sem],fun w=>by simp[sizeOf,go_sem]<;>rfl⟩
theorem oD:qF Try.prog 65 5 5:=fun b o w=>by simp[Instr.fieldAt,go_sem]
theorem jE:qF Try.prog 78 0 0:=fun b o w=>by simp[Instr.fieldAt,go_sem]
theorem vY:qF Try.prog 65 4 4:=fun b o w=>by simp[Instr.fieldAt,go_sem]
theorem N7:VarTy Try.prog 62 false 1:=⟨fun w=>by simp[isAgg,go_sem],fun w=>by simp[sizeOf,go_sem]<;>rfl⟩
theorem zJ:∀args w,(callFunc 65 args).run Try.prog w= .ok (.enter 65 args) w:=enters Try.func65 (by kernel_rfl) rfl
theorem tX:SlTy Try.prog 62 61 1 24:=SlTy.of (z:= .slice none 0 0) (by kernel_rfl) (by kernel_rfl) rfl
theorem J4:qF Try.prog 65 11 11:=fun b o w=>by simp[Instr.fieldAt,go_sem]
theorem ent64:∀args w,(callFunc 64 args).run Try.prog w= .ok (.enter 64 args) w:=enters Try.func64 (by kernel_rfl) rfl
theorem ent56:∀args w,(callFunc 56 args).run Try.prog w= .ok (.enter 56 args) w:=enters Try.func56 (by kernel_rfl) rfl
theorem ent39:∀args w,(callFunc 39 args).run Try.prog w= .ok (.enter 39 args) w:=enters Try.func39 (by kernel_rfl) rfl
theorem ent55:∀args w,(callFunc 55 args).run Try.prog w= .ok (.enter 55 args) w:=enters Try.func55 (by kernel_rfl) rfl
theorem vZ:qF Try.prog 65 7 7:=fun b o w=>by simp[Instr.fieldAt,go_sem]
theorem fldty65_3:qF Try.prog 65 3 3:=fun b o w=>by simp[Instr.fieldAt,go_sem]
theorem yI:qF Try.prog 65 8 8:=fun b o w=>by simp[Instr.fieldAt,go_sem]
theorem aB1:VarTy Try.prog 63 false 1:=⟨fun w=>by simp[isAgg,go_sem],fun w=>by simp[sizeOf,go_sem]<;>rfl⟩
theorem mki63 (v:Value) (w:World):(Instr.makeInterface 63 v).run Try.prog w= .ok (.iface 63 v) w:=by kernel_rfl
theorem ent48:∀args w,(callFunc 48 args).run Try.prog w= .ok (.enter 48 args) w:=enters Try.func48 (by kernel_rfl) rfl
theorem ent66:∀args w,(callFunc 66 args).run Try.prog w= .ok (.enter 66 args) w:=enters Try.func66 (by kernel_rfl) rfl
theorem ent67:∀args w,(callFunc 67 args).run Try.prog w= .ok (.enter 67 args) w:=enters Try.func67 (by kernel_rfl) rfl
theorem ent46:∀args w,(callFunc 46 args).run Try.prog w= .ok (.enter 46 args) w:=enters Try.func46 (by kernel_rfl) rfl
theorem lM:qF Try.prog 24 0 0:=fun b o w=>by simp[Instr.fieldAt,go_sem]
theorem iL:qF Try.prog 24 1 1:=fun b o w=>by simp[Instr.fieldAt,go_sem]
theorem jD:VarTy Try.prog 22 false 1:=⟨fun w=>by simp[isAgg,go_sem],fun w=>by simp[sizeOf,go_sem]<;>rfl⟩
theorem kU:SlTy Try.prog 22 25 1 24:=SlTy.of (z:= .slice none 0 0) (by kernel_rfl) (by kernel_rfl) rfl
theorem ent41:∀args w,(callFunc 41 args).run Try.prog w= .ok (.enter 41 args) w:=enters Try.func41 (by kernel_rfl) rfl
theorem ent45:∀args w,(callFunc 45 args).run Try.prog w= .ok (.enter 45 args) w:=enters Try.func45 (by kernel_rfl) rfl
theorem ent62:∀args w,(callFunc 62 args).run Try.prog w= .ok (.enter 62 args) w:=enters Try.func62 (by kernel_rfl) rfl
theorem fC:VarTy Try.prog 24 true 2:=⟨fun w=>by simp[isAgg,go_sem],fun w=>by simp[sizeOf,go_sem]<;>rfl⟩
theorem ent19:∀args w,(callFunc 19 args).run Try.prog w= .ok (.enter 19 args) w:=enters Try.func19 (by kernel_rfl) rfl
theorem ent44:∀args w,(callFunc 44 args).run Try.prog w= .ok (.enter 44 args) w:=enters Try.func44 (by kernel_rfl) rfl
theorem ent75:∀args w,(callFunc 75 args).run Try.prog w= .ok (.enter 75 args) w:=enters Try.func75 (by kernel_rfl) rfl
theorem ent79:∀args w,(callFunc 79 args).run Try.prog w= .ok (.enter 79 args) w:=enters Try.func79 (by kernel_rfl) rfl
theorem ent68:∀args w,(callFunc 68 args).run Try.prog w= .ok (.enter 68 args) w:=enters Try.func68 (by kernel_rfl) rfl
theorem fldty65_9:qF Try.prog 65 9 9:=fun b o w=>by simp[Instr.fieldAt,go_sem]
theorem aD0:qF Try.prog 65 10 10:=fun b o w=>by simp[Instr.fieldAt,go_sem]
theorem kt3:KT Try.prog 3 Int:=kt_int (by kernel_rfl)
theorem aA4:Try.prog.underlying 93=some (.map 3 4):=by kernel_rfl
theorem zero4:∀w,(zeroValue 4).run Try.prog w= .ok (.bool false) w:=fun w=>by simp[go_sem]<;>rfl
theorem pty71:Try.prog.underlying 71=some (.pointer (Try.prog.pointee 71)):=by kernel_rfl
theorem ent50:∀args w,(callFunc 50 args).run Try.prog w= .ok (.enter 50 args) w:=enters Try.func50 (by kernel_rfl) rfl
theorem ent51:∀args w,(callFunc 51 args).run Try.prog w= .ok (.enter 51 args) w:=enters Try.func51 (by kernel_rfl) rfl
theorem fE:VarTy Try.prog 29 true 4:=⟨fun w=>by simp[isAgg,go_sem],fun w=>by simp[sizeOf,go_sem]<;>rfl⟩
theorem ent52:∀args w,(callFunc 52 args).run Try.prog w= .ok (.enter 52 args) w:=enters Try.func52 (by kernel_rfl) rfl
theorem ent53:∀args w,(callFunc 53 args).run Try.prog w= .ok (.enter 53 args) w:=enters Try.func53 (by kernel_rfl) rfl
theorem ent54:∀args w,(callFunc 54 args).run Try.prog w= .ok (.enter 54 args) w:=enters Try.func54 (by kernel_rfl) rfl
theorem ent49:∀args w,(callFunc 49 args).run Try.prog w= .ok (.enter 49 args) w:=enters Try.func49 (by kernel_rfl) rfl
theorem ent47:∀args w,(callFunc 47 args).run Try.prog w= .ok (.enter 47 args) w:=enters Try.func47 (by kernel_rfl) rfl
theorem ent28:∀args w,(callFunc 28 args).run Try.prog w= .ok (.enter 28 args) w:=enters Try.func28 (by kernel_rfl) rfl
theorem P9:∀args w,(callFunc 29 args).run Try.prog w= .ok (.enter 29 args) w:=enters Try.func29 (by kernel_rfl) rfl
theorem zI:∀args w,(callFunc 30 args).run Try.prog w= .ok (.enter 30 args) w:=enters Try.func30 (by kernel_rfl) rfl
theorem sU:qF Try.prog 29 0 0:=fun b o w=>by simp[Instr.fieldAt,go_sem]
theorem fldty29_3:qF Try.prog 29 3 3:=fun b o w=>by simp[Instr.fieldAt,go_sem]
theorem vX:qF Try.prog 29 1 1:=fun b o w=>by simp[Instr.fieldAt,go_sem]
theorem ent25:∀args w,(callFunc 25 args).run Try.prog w= .ok (.enter 25 args) w:=enters Try.func25 (by kernel_rfl) rfl
theorem ent32:∀args w,(callFunc 32 args).run Try.prog w= .ok (.enter 32 args) w:=enters Try.func32 (by kernel_rfl) rfl
theorem ent31:∀args w,(callFunc 31 args).run Try.prog w= .ok (.enter 31 args) w:=enters Try.func31 (by kernel_rfl) rfl
theorem ent57:∀args w,(callFunc 57 args).run Try.prog w= .ok (.enter 57 args) w:=enters Try.func57 (by kernel_rfl) rfl
theorem ent23:∀args w,(callFunc 23 args).run Try.prog w= .ok (.enter 23 args) w:=enters Try.func23 (by kernel_rfl) rfl
theorem ent37:∀args w,(callFunc 37 args).run Try.prog w= .ok (.enter 37 args) w:=enters Try.func37 (by kernel_rfl) rfl
theorem ent34:∀args w,(callFunc 34 args).run Try.prog w= .ok (.enter 34 args) w:=enters Try.func34 (by kernel_rfl) rfl
theorem ent60:∀args w,(callFunc 60 args).run Try.prog w= .ok (.enter 60 args) w:=enters Try.func60 (by kernel_rfl) rfl
theorem aC9:qF Try.prog 107 0 0:=fun b o w=>by simp[Instr.fieldAt,go_sem]
theorem sF:qF Try.prog 107 1 1:=fun b o w=>by simp[Instr.fieldAt,go_sem]
theorem yP:qF Try.prog 107 2 2:=fun b o w=>by simp[Instr.fieldAt,go_sem]
theorem uP:qF Try.prog 107 3 3:=fun b o w=>by simp[Instr.fieldAt,go_sem]
theorem yY:VarTy Try.prog 105 false 1:=⟨fun w=>by simp[isAgg,go_sem],fun w=>by simp[sizeOf,go_sem]<;>rfl⟩
theorem zK:∀args w,(callFunc 83 args).run Try.prog w= .ok (.enter 83 args) w:=enters Try.func83 (by kernel_rfl) rfl
theorem qL:SlTy Try.prog 105 108 1 24:=SlTy.of (z:= .slice none 0 0) (by kernel_rfl) (by kernel_rfl) rfl
theorem oL:VarTy Try.prog 108 false 1:=⟨fun w=>by simp[isAgg,go_sem],fun w=>by simp[sizeOf,go_sem]<;>rfl⟩
theorem rG:SlTy Try.prog 108 110 1 24:=SlTy.of (z:= .agg #[.slice none 0 0]) (by kernel_rfl) (by kernel_rfl) rfl
theorem X4:VarTy Try.prog 110 true 1:=⟨fun w=>by simp[isAgg,go_sem],fun w=>by simp[sizeOf,go_sem]<;>rfl⟩
theorem fldty110_0:qF Try.prog 110 0 0:=fun b o w=>by simp[Instr.fieldAt,go_sem]
theorem ent80:∀args w,(callFunc 80 args).run Try.prog w= .ok (.enter 80 args) w:=enters Try.func80 (by kernel_rfl) rfl
theorem ent81:∀args w,(callFunc 81 args).run Try.prog w= .ok (.enter 81 args) w:=enters Try.func81 (by kernel_rfl) rfl
theorem J3:qF Try.prog 107 4 4:=fun b o w=>by simp[Instr.fieldAt,go_sem]
theorem ent82:∀args w,(callFunc 82 args).run Try.prog w= .ok (.enter 82 args) w:=enters Try.func82 (by kernel_rfl) rfl
theorem ent73:∀args w,(callFunc 73 args).run Try.prog w= .ok (.enter 73 args) w:=enters Try.func73 (by kernel_rfl) rfl
theorem ent71:∀args w,(callFunc 71 args).run Try.prog w= .ok (.enter 71 args) w:=enters Try.func71 (by kernel_rfl) rfl
theorem ent72:∀args w,(callFunc 72 args).run Try.prog w= .ok (.enter 72 args) w:=enters Try.func72 (by kernel_rfl) rfl
theorem ent61:∀args w,(callFunc 61 args).run Try.prog w= .ok (.enter 61 args) w:=enters Try.func61 (by kernel_rfl) rfl
theorem ent70:∀args w,(callFunc 70 args).run Try.prog w= .ok (.enter 70 args) w:=enters Try.func70 (by kernel_rfl) rfl
theorem ent42:∀args w,(callFunc 42 args).run Try.prog w= .ok (.enter 42 args) w:=enters Try.func42 (by kernel_rfl) rfl
theorem ent43:∀args w,(callFunc 43 args).run Try.prog w= .ok (.enter 43 args) w:=enters Try.func43 (by kernel_rfl) rfl
theorem fldty29_2:qF Try.prog 29 2 2:=fun b o w=>by simp[Instr.fieldAt,go_sem]
theorem ent26:∀args w,(callFunc 26 args).run Try.prog w= .ok (.enter 26 args) w:=enters Try.func26 (by kernel_rfl) rfl
theorem ent12:∀args w,(callFunc 12 args).run Try.prog w= .ok (.enter 12 args) w:=enters Try.func12 (by kernel_rfl) rfl
theorem ent17:∀args w,(callFunc 17 args).run Try.prog w= .ok (.enter 17 args) w:=enters Try.func17 (by kernel_rfl) rfl
theorem ent21:∀args w,(callFunc 21 args).run Try.prog w= .ok (.enter 21 args) w:=enters Try.func21 (by kernel_rfl) rfl
theorem ent27:∀args w,(callFunc 27 args).run Try.prog w= .ok (.enter 27 args) w:=enters Try.func27 (by kernel_rfl) rfl
theorem ent10:∀args w,(callFunc 10 args).run Try.prog w= .ok (.enter 10 args) w:=enters Try.func10 (by kernel_rfl) rfl
theorem ent11:∀args w,(callFunc 11 args).run Try.prog w= .ok (.enter 11 args) w:=enters Try.func11 (by kernel_rfl) rfl
theorem ent20:∀args w,(callFunc 20 args).run Try.prog w= .ok (.enter 20 args) w:=enters Try.func20 (by kernel_rfl) rfl
theorem ent22:∀args w,(callFunc 22 args).run Try.prog w= .ok (.enter 22 args) w:=enters Try.func22 (by kernel_rfl) rfl
theorem ent24:∀args w,(callFunc 24 args).run Try.prog w= .ok (.enter 24 args) w:=enters Try.func24 (by kernel_rfl) rfl
open Go.RowKit Go.Sort
section
variable {β:Type} [Inhabited β] {Z:World} {ρ:PH} {L:List bZ} {w:World} {T:TypeId} {sz g off cap n:Nat} {xs xs':List Value}
theorem putCells_seg (enc:β→Value) (off:Nat) (d:Array β) (cur:Array Value) (h:off+d.size≤cur.size):((putCells enc off d cur).toList.drop off).take d.size=d.toList.map enc:=by
 apply List.ext_getElem?
 intro q
 rw[List.getElem?_take]
 by_cases hq:q<d.size
 ·rw[if_pos hq,List.getElem?_drop,Array.getElem?_toList]
  unfold putCells
  rw[Array.getElem?_mapIdx,Array.getElem?_eq_getElem (by omega)]
  simp[hq]
 rw[if_neg hq,List.getElem?_eq_none (by simpa using hq)]
theorem Hp.holdsO (enc:β→Value) {d:Array β} (h:Hp Z ρ (Row T sz (.slice (some ⟨g,off,none⟩) n cap) n xs::L) w) (hn:0<n) (hd:d.toList.map enc=xs):Holds enc w g off d∧g<w.heap.size:=by
 obtain⟨hxl,hr⟩:=h.row
 rcases hr with⟨A,_,hn0⟩|⟨g',off',cap',cur,e,hpt,h1,h2,h3,h4⟩
 ·omega
 simp only[Value.slice.injEq,Option.some.injEq,Addr.mk.injEq,and_true,true_and] at e
 obtain⟨⟨rfl,rfl⟩,rfl⟩:=e
 have hg:=hpt.look 0 rfl
 refine⟨fun j hj=>?_,(Array.getElem?_eq_some_iff.1 hg).1⟩
 have e1:xs[j]?=some (enc d[j]!):=by
  rw[←hd,List.getElem?_map,Array.getElem?_toList,Array.getElem?_eq_getElem hj]
  simp[hj]
 have hjx:j<n*sz:=by rw[←hxl];exact(List.getElem?_eq_some_iff.1 e1).1
 rw[←h4,List.getElem?_take,if_pos hjx,List.getElem?_drop,Array.getElem?_toList] at e1
 refine⟨?_,by simp[World.frozen?,hg]⟩
 rw[cell_of_row w g _ cur T (0,0) hg]
 exact e1
theorem Hp.putO (enc:β→Value) {m:Nat} {d:Array β} {os:Array Obj} (h:Hp Z ρ (Row T sz (.slice (some ⟨g,off,none⟩) n cap) n xs::L) w) (hn:0<n) (hd:d.toList.map enc=xs') (hl:xs'.length=n*sz):Hp Z ρ (Row T sz (.slice (some ⟨g,off,none⟩) n cap) n xs'::L) (grow (putRow enc (Sort.ahead w m) g off d) os):=by
 rcases h.row.2 with⟨A,_,hn0⟩|⟨g',off',cap',cur,e,hpt,h1,h2,h3,h4⟩
 ·omega
 simp only[Value.slice.injEq,Option.some.injEq,Addr.mk.injEq,and_true,true_and] at e
 obtain⟨⟨rfl,rfl⟩,rfl⟩:=e
 have hg:=hpt.look 0 rfl
 have hds:d.size=n*sz:=by rw[←hl,←hd];simp
 have hle:n*sz≤cap*sz:=Nat.mul_le_mul_right _ h1
 have hnew:(putRow enc (Sort.ahead w m) g off d).heap[g]?=some (.cells (putCells enc off d cur) T (0,0)):=by
  unfold putRow mapBlock
  simp only[Array.getElem?_modify,if_true,heap_ahead,hg,Option.map_some]
  rfl
 have b:=(Hp.set (w':=putRow enc (Sort.ahead w m) g off d) hpt rfl rfl rfl hnew (fun k hk=>by
  unfold putRow mapBlock
  simp only[Array.getElem?_modify,heap_ahead]
  rw[if_neg (fun e=>hk e.symm)])).shutO (off:=off) (n:=n) (cap:=cap) (sz:=sz) (xs:=xs') h1 h2 (by simp[putCells,h3]) (by
   rw[←hds,putCells_seg enc off d cur (by omega),hd])
 refine b.with_ (w':=grow (putRow enc (Sort.ahead w m) g off d) os) rfl rfl rfl (b.sep.mono fun c o e=>?_)
 have hlt:c<(putRow enc (Sort.ahead w m) g off d).heap.size:=(Array.getElem?_eq_some_iff.1 e).1
 show(grow (putRow enc (Sort.ahead w m) g off d) os).heap[c]?=some o
 rw[heap_grow_old _ _ hlt];exact e
end
section
variable {α:Type} [Inhabited α] [Enc α] {Z:World} {ρ:PH} {L:List bZ} {w:World}
end
end Go.Proofs.Ytpkhmndpeipfmaa
namespace Go.Proofs
open Go.Shelf
def Try.lays122_ren:Go.Shelf.Ren:=⟨fun|122=>78|215=>86|n=>n,fun|3=>3|4=>4|n=>n,fun|n=>n⟩
theorem Try.lays122:Go.Proofs.Lays.n122 Try.prog Try.lays122_ren:={
 mixed:=by kernel_rfl
 f122:=Try.func78.trans (congrArg some (by kernel_rfl))
 f215:=Try.func86.trans (congrArg some (by kernel_rfl))
 t3:=Try.underlying3
 a3:=Try.isAgg3
 z3:=Try.sizeOf3
 v3:=Try.zeroValue3
 t4:=Try.underlying4
 a4:=Try.isAgg4
 z4:=Try.sizeOf4
 v4:=Try.zeroValue4}
open Go.RowKit in
theorem Try.cmp_Compare_int (x y:Int) (w:World):
  Calls Try.prog 78 #[.int .i64 x,.int .i64 y] w fun e w'=>e= .returned (.int .i64 (Lib.compareInt x y))∧w'=w:=Any.cmp_Compare_int Try.lays122 x y w
def Try.laysNm220_ren:Go.Shelf.Ren:=⟨fun|20=>79|n=>n,fun|22=>25|3=>3|4=>4|0=>0|n=>n,fun|n=>n⟩
theorem Try.laysNm220:Go.Proofs.Lays2.n20 Try.prog Try.laysNm220_ren:={
 mixed:=by kernel_rfl
 f20:=Try.func79.trans (congrArg some (by kernel_rfl))
 t0:=Try.underlying0
 a0:=Try.isAgg0
 z0:=Try.sizeOf0
 v0:=Try.zeroValue0
 t3:=Try.underlying3
 a3:=Try.isAgg3
 z3:=Try.sizeOf3
 v3:=Try.zeroValue3
 t4:=Try.underlying4
 a4:=Try.isAgg4
 z4:=Try.sizeOf4
 v4:=Try.zeroValue4
 t22:=Try.underlying25
 a22:=Try.isAgg25
 z22:=Try.sizeOf25
 v22:=Try.zeroValue25
 i3:=by kernel_rfl}
open Go.RowKit Go.Lib Go.Sort in
theorem Try.slices_Compact_int (blk off cap:Nat) (zs:List Int) (w:World) (hH:Holds (Value.int .i64) w blk off zs.toArray) (hsz:zs.length≤9223372036854775807) (hcap:zs.length≤cap):
  Calls Try.prog 79 #[.slice (some ⟨blk,off,none⟩) zs.length cap] w fun e w'=>e= .returned (.slice (some ⟨blk,off,none⟩) (Lib.compact zs).length cap)∧∃q,w'=putRow (Value.int .i64) (Sort.ahead w q) blk off (Lib.compact zs++List.replicate (zs.length-(Lib.compact zs).length) 0).toArray:=Any.slices_Compact_int Try.laysNm220 blk off cap zs w hH hsz hcap
open Go.RowKit Go.Lib Go.Sort in
theorem Try.slices_Compact_int_empty (a:Option Addr) (cap:Nat) (w:World):
  Calls Try.prog 79 #[.slice a 0 cap] w fun e w'=>e= .returned (.slice a 0 cap)∧w'=w:=Any.slices_Compact_int_empty Try.laysNm220 a cap w
def Try.laysSlF6_f75_ren:Go.Shelf.Ren:=⟨fun|6=>75|15=>85|14=>84|28=>95|29=>96|20=>87|21=>88|22=>89|23=>90|24=>91|25=>92|26=>93|27=>94|46=>97|47=>98|48=>99|49=>100|50=>101|57=>102|n=>n,fun|22=>25|24=>3|25=>104|3=>3|39=>113|0=>0|53=>46|55=>124|4=>4|46=>116|45=>115|50=>120|5=>5|9=>9|66=>125|70=>129|76=>131|77=>132|n=>n,fun|n=>n⟩
theorem Try.laysSlF6_f75:Go.Proofs.SlLaysF.n6 Try.prog Try.laysSlF6_f75_ren:={
 mixed:=by kernel_rfl
 f6:=⟨Try.f75.name,by decide,Try.func75.trans (congrArg some (by kernel_rfl))⟩
 f14:=⟨Try.f84.name,by decide,Try.func84.trans (congrArg some (by kernel_rfl))⟩
 f15:=Try.func85.trans (congrArg some (by kernel_rfl))
 f20:=⟨Try.f87.name,by decide,Try.func87.trans (congrArg some (by kernel_rfl))⟩
 f21:=⟨Try.f88.name,by decide,Try.func88.trans (congrArg some (by kernel_rfl))⟩
 f22:=⟨Try.f89.name,by decide,Try.func89.trans (congrArg some (by kernel_rfl))⟩
 f23:=⟨Try.f90.name,by decide,Try.func90.trans (congrArg some (by kernel_rfl))⟩
 f24:=⟨Try.f91.name,by decide,Try.func91.trans (congrArg some (by kernel_rfl))⟩
 f25:=⟨Try.f92.name,by decide,Try.func92.trans (congrArg some (by kernel_rfl))⟩
 f26:=⟨Try.f93.name,by decide,Try.func93.trans (congrArg some (by kernel_rfl))⟩
 f27:=⟨Try.f94.name,by decide,Try.func94.trans (congrArg some (by kernel_rfl))⟩
 f28:=Try.func95.trans (congrArg some (by kernel_rfl))
 f29:=Try.func96.trans (congrArg some (by kernel_rfl))
 f46:=⟨Try.f97.name,by decide,Try.func97.trans (congrArg some (by kernel_rfl))⟩
 f47:=Try.func98.trans (congrArg some (by kernel_rfl))
 f48:=Try.func99.trans (congrArg some (by kernel_rfl))
 f49:=⟨Try.f100.name,by decide,Try.func100.trans (congrArg some (by kernel_rfl))⟩
 f50:=⟨Try.f101.name,by decide,Try.func101.trans (congrArg some (by kernel_rfl))⟩
 f57:=⟨Try.f102.name,by decide,Try.func102.trans (congrArg some (by kernel_rfl))⟩
 t0:=Try.underlying0
 a0:=Try.isAgg0
 z0:=Try.sizeOf0
 v0:=Try.zeroValue0
 t3:=Try.underlying3
 a3:=Try.isAgg3
 z3:=Try.sizeOf3
 v3:=Try.zeroValue3
 t4:=Try.underlying4
 a4:=Try.isAgg4
 z4:=Try.sizeOf4
 v4:=Try.zeroValue4
 t5:=Try.underlying5
 a5:=Try.isAgg5
 z5:=Try.sizeOf5
 v5:=Try.zeroValue5
 t9:=Try.underlying9
 a9:=Try.isAgg9
 z9:=Try.sizeOf9
 v9:=Try.zeroValue9
 t22:=Try.underlying25
 a22:=Try.isAgg25
 z22:=Try.sizeOf25
 v22:=Try.zeroValue25
 a24:=Try.isAgg3
 z24:=Try.sizeOf3
 t25:=Try.underlying104
 a25:=Try.isAgg104
 z25:=Try.sizeOf104
 v25:=Try.zeroValue104
 t39:=Try.underlying113
 a39:=Try.isAgg113
 z39:=Try.sizeOf113
 v39:=Try.zeroValue113
 t45:=Try.underlying115
 a45:=Try.isAgg115
 z45:=Try.sizeOf115
 v45:=Try.zeroValue115
 t46:=Try.underlying116
 a46:=Try.isAgg116
 z46:=Try.sizeOf116
 v46:=Try.zeroValue116
 t50:=Try.underlying120
 a50:=Try.isAgg120
 z50:=Try.sizeOf120
 v50:=Try.zeroValue120
 t53:=Try.underlying46
 a53:=Try.isAgg46
 z53:=Try.sizeOf46
 v53:=Try.zeroValue46
 t55:=Try.underlying124
 a55:=Try.isAgg124
 z55:=Try.sizeOf124
 v55:=Try.zeroValue124
 t66:=Try.underlying125
 a66:=Try.isAgg125
 z66:=Try.sizeOf125
 v66:=Try.zeroValue125
 t70:=Try.underlying129
 a70:=Try.isAgg129
 z70:=Try.sizeOf129
 v70:=Try.zeroValue129
 t76:=Try.underlying131
 a76:=Try.isAgg131
 z76:=Try.sizeOf131
 v76:=Try.zeroValue131
 t77:=Try.underlying132
 a77:=Try.isAgg132
 z77:=Try.sizeOf132
 v77:=Try.zeroValue132}
def Try.laysSlF06_f75_ren:Go.Shelf.Ren:=⟨fun|6=>75|15=>85|14=>84|28=>95|29=>96|20=>87|21=>88|22=>89|23=>90|24=>91|25=>92|26=>93|27=>94|46=>97|47=>98|48=>99|49=>100|50=>101|57=>102|n=>n,fun|22=>25|24=>3|25=>104|3=>3|39=>113|0=>0|53=>46|55=>124|4=>4|46=>116|45=>115|50=>120|5=>5|9=>9|66=>125|70=>129|76=>131|77=>132|n=>n,fun|n=>n⟩
theorem Try.laysSlF06_f75:Go.Proofs.SlLaysF0.n6 Try.prog Try.laysSlF06_f75_ren:={
 mixed:=by kernel_rfl
 f6:=⟨Try.f75.name,by decide,Try.func75.trans (congrArg some (by kernel_rfl))⟩
 f14:=⟨Try.f84.name,by decide,Try.func84.trans (congrArg some (by kernel_rfl))⟩
 f15:=Try.func85.trans (congrArg some (by kernel_rfl))
 f20:=⟨Try.f87.name,by decide,Try.func87.trans (congrArg some (by kernel_rfl))⟩
 f21:=⟨Try.f88.name,by decide,Try.func88.trans (congrArg some (by kernel_rfl))⟩
 f22:=⟨Try.f89.name,by decide,Try.func89.trans (congrArg some (by kernel_rfl))⟩
 f23:=⟨Try.f90.name,by decide,Try.func90.trans (congrArg some (by kernel_rfl))⟩
 f24:=⟨Try.f91.name,by decide,Try.func91.trans (congrArg some (by kernel_rfl))⟩
 f25:=⟨Try.f92.name,by decide,Try.func92.trans (congrArg some (by kernel_rfl))⟩
 f26:=⟨Try.f93.name,by decide,Try.func93.trans (congrArg some (by kernel_rfl))⟩
 f27:=⟨Try.f94.name,by decide,Try.func94.trans (congrArg some (by kernel_rfl))⟩
 f28:=Try.func95.trans (congrArg some (by kernel_rfl))
 f29:=Try.func96.trans (congrArg some (by kernel_rfl))
 f46:=⟨Try.f97.name,by decide,Try.func97.trans (congrArg some (by kernel_rfl))⟩
 f47:=Try.func98.trans (congrArg some (by kernel_rfl))
 f48:=Try.func99.trans (congrArg some (by kernel_rfl))
 f49:=⟨Try.f100.name,by decide,Try.func100.trans (congrArg some (by kernel_rfl))⟩
 f50:=⟨Try.f101.name,by decide,Try.func101.trans (congrArg some (by kernel_rfl))⟩
 f57:=⟨Try.f102.name,by decide,Try.func102.trans (congrArg some (by kernel_rfl))⟩
 t0:=Try.underlying0
 a0:=Try.isAgg0
 z0:=Try.sizeOf0
 v0:=Try.zeroValue0
 t3:=Try.underlying3
 a3:=Try.isAgg3
 z3:=Try.sizeOf3
 v3:=Try.zeroValue3
 t4:=Try.underlying4
 a4:=Try.isAgg4
 z4:=Try.sizeOf4
 v4:=Try.zeroValue4
 t5:=Try.underlying5
 a5:=Try.isAgg5
 z5:=Try.sizeOf5
 v5:=Try.zeroValue5
 t9:=Try.underlying9
 a9:=Try.isAgg9
 z9:=Try.sizeOf9
 v9:=Try.zeroValue9
 t22:=Try.underlying25
 a22:=Try.isAgg25
 z22:=Try.sizeOf25
 v22:=Try.zeroValue25
 t25:=Try.underlying104
 a25:=Try.isAgg104
 z25:=Try.sizeOf104
 v25:=Try.zeroValue104
 t39:=Try.underlying113
 a39:=Try.isAgg113
 z39:=Try.sizeOf113
 v39:=Try.zeroValue113
 t45:=Try.underlying115
 a45:=Try.isAgg115
 z45:=Try.sizeOf115
 v45:=Try.zeroValue115
 t46:=Try.underlying116
 a46:=Try.isAgg116
 z46:=Try.sizeOf116
 v46:=Try.zeroValue116
 t50:=Try.underlying120
 a50:=Try.isAgg120
 z50:=Try.sizeOf120
 v50:=Try.zeroValue120
 t53:=Try.underlying46
 a53:=Try.isAgg46
 z53:=Try.sizeOf46
 v53:=Try.zeroValue46
 t55:=Try.underlying124
 a55:=Try.isAgg124
 z55:=Try.sizeOf124
 v55:=Try.zeroValue124
 t66:=Try.underlying125
 a66:=Try.isAgg125
 z66:=Try.sizeOf125
 v66:=Try.zeroValue125
 t70:=Try.underlying129
 a70:=Try.isAgg129
 z70:=Try.sizeOf129
 v70:=Try.zeroValue129
 t76:=Try.underlying131
 a76:=Try.isAgg131
 z76:=Try.sizeOf131
 v76:=Try.zeroValue131
 t77:=Try.underlying132
 a77:=Try.isAgg132
 z77:=Try.sizeOf132
 v77:=Try.zeroValue132}
open Go.RowKit Go.Lib Go.Sort in
theorem Try.slices_SortFunc_none {α:Type} [Inhabited α] (p:Option Addr) (cap:Nat) (fv:Value) (w:World):
  Calls Try.prog 75 #[.slice p 0 cap,fv] w fun e w'=>e= .returned (.tuple #[])∧w'=w:=AnyF.slices_SortFunc_none Try.laysSlF06_f75 p cap fv w
open Go.RowKit Go.Lib Go.Sort in
theorem Try.slices_SortFunc_total {α:Type} [Inhabited α] (enc:α→Value) (h1:OneCell enc) (cf:α→α→Int) (hO:SWO (ltOf cf)) (g:Nat) (cb:Array Value) (blk off cap:Nat) (d:Array α) (w:World) (eg:∀args w,(callFunc g args).run Try.prog w= .ok (.enter g args) w) (hcmp:CmpLays1 Try.prog g cb enc cf blk off d.size w) (hH:Holds enc w blk off d) (hblk:blk<w.heap.size) (hsz:d.size<4611686018427387904) (hT:∀x y,(ltOf cf) x y=false→(ltOf cf) y x=false→x=y):
  Calls Try.prog 75 #[.slice (some ⟨blk,off,none⟩) d.size cap,.func (.func g) #[] cb] w fun e w'=>
   e= .returned (.tuple #[])∧∃n os,w'=sortWorld enc w blk off n (d.toList.mergeSort fun x y=> !(ltOf cf) y x).toArray os:=Any.slices_SortFunc_total Try.laysSlF6_f75 enc h1 cf hO g cb blk off cap d w eg hcmp hH hblk hsz hT
end Go.Proofs
namespace Go.Proofs.Ytpkhmndpeipfmaa
open Go.RowKit Go.Sort
def or2 (a b:Int):Int:=if a≠0 then a else b
theorem or_any (c1 c2:Int) (g:Nat) (W:World) (h1:W.cell? ⟨g,0,none⟩=some (Iv c1)) (h2:W.cell? ⟨g,1,none⟩=some (Iv c2)):
  Calls Try.prog 77 #[.slice (some ⟨g,0,none⟩) 2 2] W fun e w'=>e= .returned (Iv (or2 c1 c2))∧w'=W:=by
 unfold or2
 go_enter Try.func77,Try.ntmps77
 go_wp2_with fail
 refine wp_loop_rounds 3 ?_
 rw[rounds_succ]
 go_wp2_with fail
 all_goals try (rw[rounds_succ];go_wp2_with fail)
 all_goals try (rw[rounds_succ];go_wp2_with fail)
 all_goals try (go_ret;simp_all)
theorem var_any (n:Int) (h: -4611686018427387904≤n∧n≤4611686018427387904) (W:World):
  Calls Try.prog 46 #[.int .i64 n] W fun e w'=>e= .returned (Iv (vr n))∧w'=W:=by
 unfold vr
 have hw:IntKind.wrap .i64 (-n)=0-n:=by rw[IntKind.wrap_i64];omega
 go_enter Try.func46,Try.ntmps46
 go_wp2_with fail
 all_goals try (go_ret;simp_all)
def Tr (W w:World):Prop:=∃q os,w=grow (W.drewN q) os
theorem Tr.refl (W:World):Tr W W:=⟨0,#[],by simp[grow,World.drewN]⟩
theorem Tr.drew {W w:World} (h:Tr W w):Tr W w.drew:=by
 obtain⟨q,os,rfl⟩:=h
 exact⟨q+1,os,rfl⟩
theorem Tr.alloc {W w:World} (h:Tr W w) (o:Obj):Tr W (w.alloc o):=by
 obtain⟨q,os,rfl⟩:=h
 exact⟨q,os++ #[o],by rw[alloc_eq_grow,grow_grow]⟩
section
variable {Z:World} {ρ:PH} {L:List bZ} {w W:World}
theorem c_cmpIT (a b:Int) (hp:Hp Z ρ L w) (hT:Tr W w):Calls Try.prog 78 #[.int .i64 a,.int .i64 b] w (Ret fun v w'=>v= .int .i64 (Lib.compareInt a b)∧Hp Z ρ L w'∧Tr W w'):=by
 refine(Try.cmp_Compare_int a b w).mono ?_
 rintro e w' ⟨rfl,rfl⟩
 exact⟨_,rfl,rfl,hp,hT⟩
theorem c_varT (a:Int) (h: -4611686018427387904≤a∧a≤4611686018427387904) (hp:Hp Z ρ L w) (hT:Tr W w):Calls Try.prog 46 #[.int .i64 a] w (Ret fun v w'=>v= .int .i64 (vr a)∧Hp Z ρ L w'∧Tr W w'):=by
 refine(var_any a h w).mono ?_
 rintro e w' ⟨rfl,rfl⟩
 exact⟨_,rfl,rfl,hp,hT⟩
theorem c_orT (c1 c2:Int) (b:Nat) (hp:Hp Z ρ (Pt b (.cells #[.int .i64 c1,.int .i64 c2] 3 (0,0))::L) w) (hT:Tr W w):Calls Try.prog 77 #[.slice (some ⟨b,0,none⟩) 2 2] w (Ret fun v w'=>v= .int .i64 (or2 c1 c2)∧Hp Z ρ (Pt b (.cells #[.int .i64 c1,.int .i64 c2] 3 (0,0))::L) w'∧Tr W w'):=by
 have h:=hp.look 0 rfl
 refine(or_any c1 c2 b w (by simp[World.cell?,h]) (by simp[World.cell?,h])).mono ?_
 rintro e w' ⟨rfl,rfl⟩
 exact⟨_,rfl,rfl,hp,hT⟩
end
section
variable {Rn:Option Nat} {P:Program} {ops:Array Oper} {Q:Exit→Act→World→Prop} {rest:List Oper} {o:Oper} {a:Act} {w W:World} {N:Nat} {E:Ent} {d:Nat} {Z:World} {ρ:PH} {L:List bZ}
theorem s_litT (hT:Tr W w) (wk:Region.wanted o (yielded ops a.tmps)=true) (hd:o.dst=some d) (hN:Nat.blt d N=true) (hE:Env N E a) (hp:Hp Z ρ L w) {T:TypeId} {n:Nat} {ps:List (Nat×Operand)} (ho:o.op= .buildSlice T n ps.toArray) (vs:List (Nat×Value)) (hx:evP E ps vs)
  (cs:List Value) (El:TypeId) (hr:∀w,(Instr.buildSlice T n vs.toArray).run P w= .ok (.slice (some ⟨w.heap.size,0,none⟩) n n) (w.alloc (.cells cs.toArray El)))
  (K:∀a w b,Env N ((d,.slice (some ⟨b,0,none⟩) n n)::E) a→Hp Z ρ (Pt b (.cells cs.toArray El (0,0))::L) w→Tr W w→wpL Rn P ops Q rest a w):wpL Rn P ops Q (o::rest) a w:=by
 have hps:ps.toArray.map (fun p=>(p.1,a.eval p.2))=vs.toArray:=by rw[List.map_toArray,evP_map hE hx]
 refine G8 wk hd hN hE (v:= .slice (some ⟨w.heap.size,0,none⟩) n n) (w':=w.alloc (.cells cs.toArray El)) ?_ fun a' hE'=>K a' _ _ hE' (hp.alloc _) (hT.alloc _)
 simp only[execOp,ho,hps,Sem.run_bind,hr w]
 rfl
end
theorem entOr:∀args w,(callFunc 77 args).run Try.prog w= .ok (.enter 77 args) w:=enters Try.func77 (by kernel_rfl) rfl
theorem entCmp:∀args w,(callFunc 78 args).run Try.prog w= .ok (.enter 78 args) w:=enters Try.func78 (by kernel_rfl) rfl
def liOk (x:Int):Prop:= -4611686018427387904≤x∧x≤4611686018427387904
instance (x:Int):Decidable (liOk x):=by unfold liOk;infer_instance
theorem closureN_ {Z:World} {ρ:PH} {L:List bZ} {w W:World} (p0 p1:Int) (h0:liOk p0) (h1:liOk p1) (hp:Hp Z ρ (L) w) (hT:Tr W w):
  Calls Try.prog 76 #[(Iv p0),(Iv p1)] w (Ret fun v w'=>v=(Iv (or2 (Lib.compareInt (vr p0) (vr p1)) (Lib.compareInt p0 p1)))∧Tr W w'):=by
 refine enter (N:=15) Try.func76 rfl rfl [(0,(Iv p0)),(1,(Iv p1))] rfl (bM ⟨rfl,rfl,trivial⟩) fun a hE=>?_
 refine aG (aB ?_)
 refine S hE 1 rfl fun a hE=>aC (aG ?_)
 refine aB (S hE 1 rfl fun a hE=>?_)
 refine Cl hE rfl rfl ent46 (c_varT p0 h0 hp hT) ⟨rfl,trivial⟩ fun v a w hR hE=>?_
 obtain⟨rfl,hp,hT⟩:=hR
 refine S hE 1 rfl fun a hE=>?_
 refine Cl hE rfl rfl ent46 (c_varT p1 h1 hp hT) ⟨rfl,trivial⟩ fun v a w hR hE=>?_
 obtain⟨rfl,hp,hT⟩:=hR
 refine Cl hE rfl rfl entCmp (c_cmpIT (vr p0) (vr p1) hp hT) ⟨rfl,rfl,trivial⟩ fun v a w hR hE=>?_
 obtain⟨rfl,hp,hT⟩:=hR
 refine S hE 2 rfl fun a hE=>?_
 refine Cl hE rfl rfl entCmp (c_cmpIT p0 p1 hp hT) ⟨rfl,rfl,trivial⟩ fun v a w hR hE=>?_
 obtain⟨rfl,hp,hT⟩:=hR
 refine s_litT hT (wk0 rfl) rfl rfl hE hp rfl [(0,(Iv (Lib.compareInt (vr p0) (vr p1)))),(1,(Iv (Lib.compareInt p0 p1)))] ⟨⟨rfl,rfl⟩,⟨rfl,rfl⟩,trivial⟩ [(Iv (Lib.compareInt (vr p0) (vr p1))),(Iv (Lib.compareInt p0 p1))] 3 (fun w=>by simp[Instr.buildSlice,Instr.fill,Value.cells,go_sem]) ?_
 intro a w b1 hE hp hT
 refine Cl hE rfl rfl entOr (c_orT (Lib.compareInt (vr p0) (vr p1)) (Lib.compareInt p0 p1) b1 hp hT) ⟨rfl,trivial⟩ fun v a w hR hE=>?_
 obtain⟨rfl,hp,hT⟩:=hR
 refine S hE 1 rfl fun a hE=>aC (dE ?_)
 exact iH hE rfl rfl ⟨_,rfl,rfl,hT⟩
structure LitI where
 val:Int
 ok:liOk val
instance:Inhabited LitI:=⟨⟨0,by decide⟩⟩
def encL (x:LitI):Value:= .int .i64 x.1
theorem encL1:OneCell encL:=fun _=>rfl
def cfN (x y:LitI):Int:=or2 (Lib.compareInt (vr x.1) (vr y.1)) (Lib.compareInt x.1 y.1)
theorem hp_whole0 (W:World):Hp W (hp W) [] W:=⟨rfl,rfl,rfl,PH.le.rf _⟩
theorem closureN (x y:LitI) (W:World):Calls Try.prog 76 (#[encL x,encL y]++ #[]) W fun e w'=>e= .returned (Iv (cfN x y))∧∃q os',w'=grow (W.drewN q) os':=by
 refine(closureN_ (Z:=W) (ρ:=hp W) (L:=[]) x.1 y.1 x.2 y.2 (hp_whole0 W) (Tr.refl W)).mono ?_
 rintro e w' ⟨v,rfl,rfl,q,os,rfl⟩
 exact⟨rfl,q,os,rfl⟩
theorem cmpI_neg {a b:Int}:Lib.compareInt a b<0↔a<b:=by
 unfold Lib.compareInt
 by_cases h1:a<b
 ·simp[h1]
 by_cases h2:b<a<;>simp[h1,h2]
theorem cmpI_zero {a b:Int}:Lib.compareInt a b=0↔a=b:=by
 unfold Lib.compareInt
 by_cases h1:a<b
 ·simp[h1];omega
 by_cases h2:b<a
 ·simp[h1,h2];omega
 simp[h1,h2];omega
theorem or2_neg {a b:Int}:or2 a b<0↔a<0∨a=0∧b<0:=by
 unfold or2
 split<;>omega
theorem cfN_lt (x y:LitI):ltOf cfN x y=ltN x.1 y.1:=by
 unfold ltOf cfN ltN
 rw[decide_eq_decide,or2_neg,cmpI_neg,cmpI_neg,cmpI_zero]
theorem swoN:SWO (ltOf cfN) where
 irrefl x:=by rw[cfN_lt];unfold ltN;simp
 trans x y z h1 h2:=by rw[cfN_lt] at*;unfold ltN at*;simp only[decide_eq_true_eq] at*;omega
 ntrans x y z h1 h2:=by rw[cfN_lt] at*;unfold ltN at*;simp only[decide_eq_false_iff_not] at*;omega
theorem totN (x y:LitI) (h1:ltOf cfN x y=false) (h2:ltOf cfN y x=false):x=y:=by
 rw[cfN_lt] at*
 unfold ltN at*
 simp only[decide_eq_false_iff_not] at*
 obtain⟨a,_⟩:=x
 obtain⟨b,_⟩:=y
 simp only[LitI.mk.injEq] at*
 omega
theorem lift_li:∀(l:List Int),litOk l=true→∃ls:List LitI,ls.map LitI.val=l
 | [],_=>⟨[],rfl⟩
 |p::l,h=>by
  unfold litOk at h
  rw[List.all_cons,Bool.and_eq_true] at h
  obtain⟨ls,e⟩:=lift_li l h.2
  exact⟨⟨p,of_decide_eq_true h.1⟩::ls,by rw[List.map_cons,e]⟩
theorem flat_li (ls:List LitI):ls.toArray.toList.map encL=flat (ls.map LitI.val):=by
 rw[flat_int,List.map_map];rfl
theorem map_sortN (ls:List LitI):(ls.mergeSort fun x y=> !(ltOf cfN) y x).map LitI.val=(ls.map LitI.val).mergeSort fun x y=> !ltN y x:=by
 have e2:(fun x y:LitI=> !(ltOf cfN) y x)=fun x y=> !ltN y.1 x.1:=by funext x y;rw[cfN_lt]
 rw[e2]
 exact(List.map_mergeSort (fun a _ b _=>rfl))
section
variable {Z:World} {ρ:PH} {L:List bZ} {w:World}
theorem c_sortN (l:List Int) (v:Value) (hp:Hp Z ρ (aA 3 v l::L) w) (r:List Int) (hm:aA3 l=some r):
  Calls Try.prog 75 #[v,.func (.func 76) #[] #[]] w (Ret fun u w'=>u= .tuple #[]∧Hp Z ρ (aA 3 v r::L) w'):=by
 unfold aA3 at hm
 split at hm
 ·rename_i hh
  obtain⟨hlen,hall⟩:=hh
  simp only[Option.some.injEq] at hm
  subst hm
  obtain⟨ls,rfl⟩:=lift_li l hall
  have none_:∀A c,v= .slice A 0 c→ls=[]→Calls Try.prog 75 #[v,.func (.func 76) #[] #[]] w (Ret fun u w'=>u= .tuple #[]∧Hp Z ρ (aA 3 v ((ls.map LitI.val).mergeSort fun x y=> !ltN y x)::L) w'):=by
   rintro A c rfl rfl
   have h0:Calls Try.prog 75 #[.slice A 0 c,.func (.func 76) #[] #[]] w (fun e w'=>e= .returned (.tuple #[])∧w'=w):=Try.slices_SortFunc_none (α:=Int) A c _ w
   refine h0.mono ?_
   rintro e w' ⟨rfl,rfl⟩
   exact⟨_,rfl,rfl,by simpa using hp⟩
  rcases hp.row.2 with⟨A,hv,hn⟩|⟨g,off,cap,cur,hv,_⟩
  ·exact none_ A 0 hv (by simpa using hn)
  rcases Nat.eq_zero_or_pos ls.length with h0|h0
  ·exact none_ _ cap (by rw[hv,List.length_map,h0]) (List.eq_nil_of_length_eq_zero h0)
  subst hv
  rw[List.length_map] at hlen
  obtain⟨hH,hg⟩:=Hp.holdsO encL hp (by simpa using h0) (d:=ls.toArray) (flat_li ls)
  have eg:∀args w,(callFunc 76 args).run Try.prog w= .ok (.enter 76 args) w:=enters Try.func76 (by kernel_rfl) rfl
  have hcon:Calls Try.prog 75 #[.slice (some ⟨g,off,none⟩) ls.toArray.size cap,.func (.func 76) #[] #[]] w (fun e w'=>
    e= .returned (.tuple #[])∧∃n os,w'=sortWorld encL w g off n (ls.toArray.toList.mergeSort fun x y=> !(ltOf cfN) y x).toArray os):=
   Try.slices_SortFunc_total encL encL1 cfN swoN 76 #[] g off cap ls.toArray w eg (fun _ _ _ _ x y=>closureN x y _) hH hg (by simp;omega) totN
  rw[List.size_toArray] at hcon
  rw[List.length_map]
  refine hcon.mono ?_
  rintro e w' ⟨rfl,m,os,rfl⟩
  have:=Hp.putO (m:=m) (os:=os) (xs':=flat ((ls.map LitI.val).mergeSort fun x y=> !ltN y x)) encL hp (by simpa using h0) (d:=(ls.mergeSort fun x y=> !(ltOf cfN) y x).toArray) (by rw[flat_li,map_sortN]) (by rw[sD];simp)
  refine⟨_,rfl,rfl,?_⟩
  unfold aA
  rw[List.length_mergeSort]
  rw[List.length_map] at this⊢
  exact this
 cases hm
theorem compact_le (l:List Int):(Lib.compact l).length≤l.length:=by
 unfold Lib.compact Lib.compactUpTo
 rw[List.length_map]
 exact Nat.le_trans (List.length_filter_le _ _) (by simp)
theorem c_compactI_own (l:List Int) (v:Value) (hp:Hp Z ρ (aA 3 v l::L) w) (r:List Int) (hm:wH l=some r):
  Calls Try.prog 79 #[v] w (Ret fun u w'=>∃v1,u=v1∧Hp Z ρ (aA 3 v1 r::L) w'):=by
 unfold wH at hm
 split at hm
 ·rename_i hlen
  simp only[Option.some.injEq] at hm
  subst hm
  have none_:∀A c,v= .slice A 0 c→l=[]→Calls Try.prog 79 #[v] w (Ret fun u w'=>∃v1,u=v1∧Hp Z ρ (aA 3 v1 (Lib.compact l)::L) w'):=by
   rintro A c rfl rfl
   refine(Try.slices_Compact_int_empty A c w).mono ?_
   rintro e w' ⟨rfl,rfl⟩
   exact⟨_,rfl,_,rfl,hp⟩
  rcases hp.row.2 with⟨A,hv,hn⟩|⟨g,off,cap,cur,hv,_,hnc,hcm,_⟩
  ·exact none_ A 0 hv (List.eq_nil_of_length_eq_zero hn)
  rcases Nat.eq_zero_or_pos l.length with h0|h0
  ·exact none_ _ cap (by rw[hv,h0]) (List.eq_nil_of_length_eq_zero h0)
  subst hv
  obtain⟨hH,hg⟩:=Hp.holdsO (Value.int .i64) hp h0 (d:=l.toArray) (by rw[flat_int])
  refine(Try.slices_Compact_int g off cap l w hH (by omega) hnc).mono ?_
  rintro e w' ⟨rfl,q,rfl⟩
  have hle:=compact_le l
  have h1:=Hp.putO (m:=q) (os:= #[]) (xs':=flat (Lib.compact l++List.replicate (l.length-(Lib.compact l).length) 0)) (Value.int .i64) hp h0 (d:=(Lib.compact l++List.replicate (l.length-(Lib.compact l).length) 0).toArray) (by rw[flat_int]) (by rw[sD,List.length_append,List.length_replicate,Nat.add_sub_cancel' hle])
  rw[grow_empty] at h1
  refine⟨_,rfl,_,rfl,?_⟩
  rcases h1.row.2 with⟨A,_,hn0⟩|⟨g',off',cap',cur',e',hpt,k1,k2,k3,k4⟩
  ·omega
  simp only[Value.slice.injEq,Option.some.injEq,Addr.mk.injEq,and_true,true_and] at e'
  obtain⟨⟨rfl,rfl⟩,rfl⟩:=e'
  refine Hp.shutO hpt (by omega) k2 k3 ?_
  have k5:=congrArg (List.take ((Lib.compact l).length*Enc.sz Int)) k4
  rw[List.take_take,Nat.min_eq_left (Nat.mul_le_mul_right _ hle)] at k5
  rw[k5,flat_app,List.take_left' (by rw[sD])]
 cases hm
end
section
variable {P:Program} {Z:World} {ρ:PH} {L:List bZ} {w:World}
end
open Go.RowKit
theorem D9 {Z:World} {ρ:PH} {L:List bZ} {w:World} (p0:(List Int)) (vp0:Value) (hp0:bW ρ vp0 p0) (p1:(List Int)) (vp1:Value) (hp1:bW ρ vp1 p1) (hp:Hp Z ρ (L) w) (r:Bool) (hm:lT p0 p1=some r):
  Calls Try.prog 27 #[vp0,vp1] w (Ret fun v w'=>v=(.bool r)∧Hp Z ρ (L) w'):=by
 refine enter (N:=26) Try.func27 rfl rfl [(0,vp0),(1,vp1)] rfl (bM ⟨rfl,rfl,trivial⟩) fun a hE=>?_
 unfold lT at hm
 refine aG (aB ?_)
 refine S hE 1 rfl fun a hE=>aC (aG ?_)
 refine aG (aB ?_)
 refine S hE 1 rfl fun a hE=>V hE hp rfl (dL rfl hE rfl (bW.len hp0 bC)) fun a hE=>S hE 1 rfl fun a hE=>V hE hp rfl (dL rfl hE rfl (bW.len hp1 bC)) fun a hE=>S hE 1 rfl fun a hE=>aC ?_
 refine dK hE rfl (fun hc1=>?_) (fun hc1=>?_)
 ·replace hm:=(it hc1).symm.trans hm
  refine aG (aB ?_)
  refine S hE 1 rfl fun a hE=>aC (dE ?_)
  obtain rfl:=oj hm
  exact iH hE rfl rfl ⟨_,rfl,rfl,hp⟩
 replace hm:=(ie hc1).symm.trans hm
 refine bP (aG ?_)
 refine aG (aB ?_)
 refine S hE 1 rfl fun a hE=>V hE hp rfl (dL rfl hE rfl (bW.len hp0 bC)) fun a hE=>S hE 1 rfl fun a hE=>aC ?_
 obtain⟨b1,hc2,hm⟩:=bnd hm
 refine dH (fun a w=>∃s:Unit,b1= .brk s∧(Env 26 [] a∧Hp Z ρ (L) w)) ?_ ?_
 ·refine eU hc2 (fun s a w=>Env 26 [(0,vp0),(1,vp1),(12,(Iv (p0.length:Int))),(13,(Iv s))] a∧Hp Z ρ (L) w) ?_ ?_
  ·exact⟨hE.cut ⟨rfl,rfl,rfl,rfl,trivial⟩,hp⟩
  rintro aW st a w ⟨hE,hp⟩ hl1
  unfold lX at hl1
  refine aG (aB ?_)
  refine S hE 1 rfl fun a hE=>aC (aG ?_)
  refine dK hE rfl (fun hc3=>?_) (fun hc3=>?_)
  ·replace hl1:=(it hc3).symm.trans hl1
   refine bP (aG ?_)
   refine dF (aG ?_)
   refine aB (S hE 2 rfl fun a hE=>?_)
   refine aC (aG ?_)
   refine oN (by kernel_rfl) (by kernel_rfl) hp ?_
   refine Sq hE 2 rfl fun a hE=>?_
   obtain⟨x1,ex1,hl1⟩:=bnd hl1
   obtain⟨b2,b2o,b2c,b2r,b2k,b2f⟩:=bW.at hp0 bC ex1
   obtain rfl:b2c=Enc.enc x1:=b2k
   have b2f:AtP ρ b2 b2o [(Iv x1)]:=b2f
   refine Vq hE rfl (aU rfl hE rfl rfl b2r) fun a hE=>Vq hE rfl (bD rfl hE rfl (fun w hw=>bH bG (b2f.c 0 rfl w hw))) fun a hE=>Sq hE 2 rfl fun a hE=>?_
   obtain⟨x2,ex2,hl1⟩:=bnd hl1
   obtain⟨b3,b3o,b3c,b3r,b3k,b3f⟩:=bW.at hp1 bC ex2
   obtain rfl:b3c=Enc.enc x2:=b3k
   have b3f:AtP ρ b3 b3o [(Iv x2)]:=b3f
   refine Vq hE rfl (aU rfl hE rfl rfl b3r) fun a hE=>Vq hE rfl (bD rfl hE rfl (fun w hw=>bH bG (b3f.c 0 rfl w hw))) fun a hE=>Sq hE 1 rfl fun a hE=>?_
   refine qR fun w hp=>?_
   have hp:=r0 hp
   refine dK hE rfl (fun hc4=>?_) (fun hc4=>?_)
   ·replace hl1:=(it hc4).symm.trans hl1
    refine aG (aB ?_)
    refine S hE 1 rfl fun a hE=>aC (dE ?_)
    refine⟨_,(oj hl1).symm,fun hb=>?_⟩
    subst hb
    obtain rfl:=oj hm
    exact iH hE rfl rfl ⟨_,rfl,rfl,hp⟩
   replace hl1:=(ie hc4).symm.trans hl1
   refine bP (aB ?_)
   obtain⟨x3,ex3,hl1⟩:=bnd hl1
   refine V hE hp rfl (dD rfl hE rfl rfl (aZ ex3)) fun a hE=>S hE 1 rfl fun a hE=>aC ?_
   exact⟨_,(oj hl1).symm,hE.cut ⟨rfl,rfl,rfl,rfl,trivial⟩,hp⟩
  replace hl1:=(ie hc3).symm.trans hl1
  refine dR ?_
  refine⟨_,(oj hl1).symm,fun hbb=>?_⟩
  exact⟨_,hbb.symm,hE.cut trivial,hp⟩
 rintro a w ⟨b1s,rfl,hE,hp⟩
 dsimp only at hm
 refine aG (aB ?_)
 refine S hE 1 rfl fun a hE=>aC (dE ?_)
 obtain rfl:=oj hm
 exact iH hE rfl rfl ⟨_,rfl,rfl,hp⟩
theorem uS {Z:World} {ρ:PH} {L:List bZ} {w:World} (p0:List Int) (vp0:Value) (hp0:bW ρ vp0 p0) (hp:Hp Z ρ L w) (r:List Int) (hm:app [] p0=some r):
  Calls Try.prog 39 #[vp0] w (Ret fun v w'=>∃v1,v=v1∧Hp Z ρ (aA 3 v1 r::L) w'):=by
 refine enter (N:=8) Try.func39 rfl rfl [(0,vp0)] rfl (bM ⟨rfl,trivial⟩) fun a hE=>?_
 obtain⟨b,hb1,hb2⟩:=bW.nilq (P:=Try.prog) hp0 bC
 refine aG (aB ?_)
 refine S hE 1 rfl fun a hE=>aC (aG ?_)
 refine aG (aB ?_)
 refine S hE 1 rfl fun a hE=>V hE hp rfl (v:= .bool b) (tV rfl hE rfl rfl fun w _=>hb1 w _ _) fun a hE=>aC ?_
 refine dK hE rfl (fun hb=>?_) (fun hb=>?_)
 ·obtain rfl:=hb2 hb
  obtain rfl:=(vC hm).2
  refine aG (aB ?_)
  refine S hE 1 rfl fun a hE=>aC (dE ?_)
  exact iH hE rfl rfl ⟨_,rfl,_,rfl,hp.emp (aA.nil (α:=Int) 3)⟩
 refine bP (aG ?_)
 refine aB ?_
 refine iP (wk0 rfl) rfl rfl hE hp rfl [] trivial [] 3 (fun w=>by simp[Instr.buildSlice,Instr.fill,Value.cells,go_sem]) ?_
 intro a w b1 hE hp
 have hp:=(hp.get 0 rfl).imp (oH (l:=([]:List Int)) (n:=0) rfl (by decide) rfl)
 have hp:=r1 hp
 refine S hE 1 rfl fun a hE=>?_
 refine s_apps (wk0 rfl) rfl rfl hE hp rfl bC rfl rfl 0 rfl rfl hp0 hm ?_
 intro v1 a w hE hp
 have hp:=r1 hp
 refine S hE 1 rfl fun a hE=>aC (dE ?_)
 exact iH hE rfl rfl ⟨_,rfl,_,rfl,hp⟩
end Go.Proofs.Ytpkhmndpeipfmaa

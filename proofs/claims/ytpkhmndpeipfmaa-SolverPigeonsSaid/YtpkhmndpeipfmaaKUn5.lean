/- Models of: assessor/cnf.variable, assessor/cnf.normal, assessor/cnf.Valid, assessor/cnf.Holds$1, slices.IndexFunc[[]int,int]@assessor/cnf.Holds$1, slices.Contai -/
import Derived.Test.YtpkhmndpeipfmaaKUn4
import Derived.Test.YtpkhmndpeipfmaaKUn3
import Derived.RangeFuncIn
import Derived.RangeFuncLeaves
import Derived.RangeFuncRecord
import Derived.RangeFuncSeq
set_option linter.unusedVariables false
set_option linter.unusedSimpArgs false
namespace Go.Proofs.Ytpkhmndpeipfmaa
open Go.RowKit
noncomputable def pG (p0:Int):Option Int:=
 (inK .i64 (0-p0)).bind fun x1=>
 some (max p0 x1)
noncomputable def qP (p0:(List Int)) (p1:Int) (aW:Int) (bU:Int):Option (Step (Int×Int) (Out Unit Bool)):=
 if(decide (bU<(p0.length:Int)))=true then
  (idx p0 bU).bind fun x1=>
  (inK .i64 (0-p1)).bind fun x2=>
  ((if((decide (x1<x2))||(decide (p1<x1)))=true then
   some true
  else
   (pG x1).bind fun x3=>
   some (decide (x3≤aW))):Option Bool).bind fun m1=>
  if m1=true then
   some (.done (.ret false))
  else
   (pG x1).bind fun x4=>
   (inK .i64 (bU+1)).bind fun x5=>
   some (.next (x4,x5))
 else
  some (.done (.brk ()))
noncomputable def vK (p0:(List Int)) (p1:Int):Option Bool:=
 (dC (fun s=>qP p0 p1 s.1 s.2) (0,0):Option (Out Unit Bool)).bind fun b1=>
 match b1 with
 | .brk b1s=>
  some true
 | .ret r=>some r
noncomputable def uH (p0:Formula) (aW:Int):Option (Step Int (Out Unit Bool)):=
 if(decide (aW<(p0.clauses.length:Int)))=true then
  (idx p0.clauses aW).bind fun x1=>
  (vK x1 p0.vars).bind fun x2=>
  if(!x2)=true then
   some (.done (.ret false))
  else
   (inK .i64 (aW+1)).bind fun x3=>
   some (.next x3)
 else
  some (.done (.brk ()))
noncomputable def qZ (p0:Formula):Option Bool:=
 if(((decide (p0.vars<0))||(decide (65536<p0.vars)))||(decide (262144<(p0.clauses.length:Int))))=true then
  some false
 else
  (dC (fun s=>uH p0 s) 0:Option (Out Unit Bool)).bind fun b2=>
  match b2 with
  | .brk b2s=>
   some true
  | .ret r=>some r
noncomputable def uB (p0:Int) (cp0:(List Int)):Option Bool:=
 (pG p0).bind fun x1=>
 (inK .i64 (x1-1)).bind fun x2=>
 (idx cp0 x2).bind fun x3=>
 some (decide (x3=p0))
noncomputable def gK (p0:(List Int)) (p1c0:(List Int)) (aW:Int):Option (Step Int (Out Unit Int)):=
 if(decide (aW<(p0.length:Int)))=true then
  (idx p0 aW).bind fun x1=>
  (uB x1 p1c0).bind fun x2=>
  if x2=true then
   some (.done (.ret aW))
  else
   (inK .i64 (aW+1)).bind fun x3=>
   some (.next x3)
 else
  some (.done (.brk ()))
noncomputable def kG (p0:(List Int)) (p1c0:(List Int)):Option Int:=
 (dC (fun s=>gK p0 p1c0 s) 0:Option (Out Unit Int)).bind fun b1=>
 match b1 with
 | .brk b1s=>
  some (-1)
 | .ret r=>some r
noncomputable def gV (p0:(List Int)) (p1c0:(List Int)):Option Bool:=
 (kG p0 p1c0).bind fun x1=>
 some (decide (0≤x1))
noncomputable def rJ (p1:(List Int)) (aW:Int):Option (Step Int (Out Unit Bool)):=
 if(decide (aW<(p1.length:Int)))=true then
  (idx p1 aW).bind fun x2=>
  (inK .i64 (aW+1)).bind fun x3=>
  ((if(!decide (x2=x3))=true then
   (inK .i64 (0-aW)).bind fun x4=>
   (inK .i64 (x4-1)).bind fun x5=>
   some (!decide (x2=x5))
  else
   some false):Option Bool).bind fun m1=>
  if m1=true then
   some (.done (.ret false))
  else
   (inK .i64 (aW+1)).bind fun x6=>
   some (.next x6)
 else
  some (.done (.brk ()))
noncomputable def uG (p0:Formula) (p1:(List Int)) (dG:Int):Option (Step Int (Out Unit Bool)):=
 if(decide (dG<(p0.clauses.length:Int)))=true then
  (idx p0.clauses dG).bind fun x7=>
  (gV x7 p1).bind fun x8=>
  if(!x8)=true then
   some (.done (.ret false))
  else
   (inK .i64 (dG+1)).bind fun x9=>
   some (.next x9)
 else
  some (.done (.brk ()))
noncomputable def qY (p0:Formula) (p1:(List Int)):Option Bool:=
 (qZ p0).bind fun x1=>
 if((!x1)||(!decide ((p1.length:Int)=p0.vars)))=true then
  some false
 else
  (dC (fun s=>rJ p1 s) 0:Option (Out Unit Bool)).bind fun b3=>
  match b3 with
  | .brk b3s=>
   (dC (fun s=>uG p0 p1 s) 0:Option (Out Unit Bool)).bind fun b5=>
   match b5 with
   | .brk b5s=>
    some true
   | .ret r=>some r
  | .ret r=>some r
noncomputable def sZ (p0:(List Int)) (aW:Int):Option (Step Int (Out Unit ((List Int)×Bool))):=
 if(decide (aW<(p0.length:Int)))=true then
  (idx p0 aW).bind fun x1=>
  if(((decide (x1=0))||(decide (x1<(-1073741824))))||(decide (1073741824<x1)))=true then
   some (.done (.ret ([],false)))
  else
   (inK .i64 (aW+1)).bind fun x2=>
   some (.next x2)
 else
  some (.done (.brk ()))
noncomputable def nN (x5:(List Int)) (dG:Int):Option (Step Int (Out Unit ((List Int)×Bool))):=
 if(decide (dG<(x5.length:Int)))=true then
  (inK .i64 (dG-1)).bind fun x6=>
  (idx x5 x6).bind fun x7=>
  (idx x5 dG).bind fun x8=>
  (inK .i64 (0-x8)).bind fun x9=>
  if(decide (x7=x9))=true then
   some (.done (.ret ([],false)))
  else
   (inK .i64 (dG+1)).bind fun x10=>
   some (.next x10)
 else
  some (.done (.brk ()))
noncomputable def vJ (p0:(List Int)):Option ((List Int)×Bool):=
 (dC (fun s=>sZ p0 s) 0:Option (Out Unit ((List Int)×Bool))).bind fun b1=>
 match b1 with
 | .brk b1s=>
  (app [] p0).bind fun x3=>
  (aA3 x3).bind fun x4=>
  (wH x4).bind fun x5=>
  (dC (fun s=>nN x5 s) 1:Option (Out Unit ((List Int)×Bool))).bind fun b3=>
  match b3 with
  | .brk b3s=>
   some (x5,true)
  | .ret r=>some r
 | .ret r=>some r
noncomputable def jX (p0:Que):Option Int:=
 some (p0.list.length:Int)
noncomputable def jG (p0:Que) (p1:Int) (p2:Int):Option Bool:=
 (idx p0.list p1).bind fun x1=>
 (idx p0.list p2).bind fun x2=>
 some (decide (x1<x2))
noncomputable def iJ (p0:Que) (p1:Int) (p2:Int):Option Que:=
 (idx p0.list p2).bind fun x1=>
 (idx p0.list p1).bind fun x2=>
 (idx p0.list p1).bind fun x3=>
 (idx (p0.list.set p1.toNat x1) p2).bind fun x4=>
 some (Que.mk ((p0.list.set p1.toNat x1).set p2.toNat x2) p0.isin)
noncomputable def qJ (p0:Que) (p1:Int):Option Que:=
 (idx p0.isin p1).bind fun x1=>
 (app p0.list [p1]).bind fun x2=>
 some (Que.mk x2 (p0.isin.set p1.toNat true))
noncomputable def rF (p0:Que):Option (Int×Que):=
 (inK .i64 ((p0.list.length:Int)-1)).bind fun x1=>
 (idx p0.list x1).bind fun x2=>
 (sub p0.list 0 x1).bind fun x3=>
 (idx p0.isin x2).bind fun x4=>
 some (x2,(Que.mk x3 (p0.isin.set x2.toNat false)))
noncomputable def wJ (aW:Int) (bU:(List Int)) (dJ:(List Bool)):Option (Step (Int×(List Int)×(List Bool)) ((List Int)×(List Bool))):=
 (inK .i64 (aW-1)).bind fun x1=>
 (quoK .i64 x1 2).bind fun x2=>
 ((if(decide (x2=aW))=true then
  some true
 else
  (jG (Que.mk bU dJ) aW x2).bind fun x3=>
  some (!x3)):Option Bool).bind fun m1=>
 if m1=true then
  some (.done (bU,dJ))
 else
  (iJ (Que.mk bU dJ) x2 aW).bind fun x4=>
  some (.next (x2,x4.list,x4.isin))
noncomputable def F8 (p0:Que) (p1:Int):Option Que:=
 (dC (fun s=>wJ s.1 s.2.1 s.2.2) (p1,p0.list,p0.isin):Option ((List Int)×(List Bool))).bind fun b1=>
 some (Que.mk b1.1 b1.2)
noncomputable def uI (p2:Int) (aW:Int) (bU:(List Int)) (dJ:(List Bool)):Option (Step (Int×(List Int)×(List Bool)) (Int×(List Int)×(List Bool))):=
 (inK .i64 (2*aW)).bind fun x1=>
 (inK .i64 (x1+1)).bind fun x2=>
 if((decide (p2≤x2))||(decide (x2<0)))=true then
  some (.done (aW,bU,dJ))
 else
  (inK .i64 (x2+1)).bind fun x3=>
  ((if(decide (x3<p2))=true then
   (jG (Que.mk bU dJ) x3 x2).bind fun x4=>
   some x4
  else
   some false):Option Bool).bind fun m1=>
  ((if m1=true then
   some x3
  else
   some x2):Option Int).bind fun j1=>
  (jG (Que.mk bU dJ) j1 aW).bind fun x5=>
  if(!x5)=true then
   some (.done (aW,bU,dJ))
  else
   (iJ (Que.mk bU dJ) aW j1).bind fun x6=>
   some (.next (j1,x6.list,x6.isin))
noncomputable def wX (p0:Que) (p1:Int) (p2:Int):Option (Bool×Que):=
 (dC (fun s=>uI p2 s.1 s.2.1 s.2.2) (p1,p0.list,p0.isin):Option (Int×(List Int)×(List Bool))).bind fun b1=>
 some (decide (p1<b1.1),(Que.mk b1.2.1 b1.2.2))
noncomputable def uT (p0:Que) (p1:Int):Option Que:=
 (qJ p0 p1).bind fun x1=>
 (jX x1).bind fun x2=>
 (inK .i64 (x2-1)).bind fun x3=>
 (F8 x1 x3).bind fun x4=>
 some x4
noncomputable def yQ (p0:Que):Option (Int×Que):=
 (jX p0).bind fun x1=>
 (inK .i64 (x1-1)).bind fun x2=>
 (iJ p0 0 x2).bind fun x3=>
 (wX x3 0 x2).bind fun x4=>
 (rF x4.2).bind fun x5=>
 some (x5.1,x5.2)
noncomputable def lX (p0:(List Int)) (p1:(List Int)) (aW:Int):Option (Step Int (Out Unit Bool)):=
 if(decide (aW<(p0.length:Int)))=true then
  (idx p0 aW).bind fun x1=>
  (idx p1 aW).bind fun x2=>
  if(!decide (x1=x2))=true then
   some (.done (.ret false))
  else
   (inK .i64 (aW+1)).bind fun x3=>
   some (.next x3)
 else
  some (.done (.brk ()))
noncomputable def lT (p0:(List Int)) (p1:(List Int)):Option Bool:=
 if(!decide ((p0.length:Int)=(p1.length:Int)))=true then
  some false
 else
  (dC (fun s=>lX p0 p1 s) 0:Option (Out Unit Bool)).bind fun b1=>
  match b1 with
  | .brk b1s=>
   some true
  | .ret r=>some r
noncomputable def dN (p0:Int):Option Int:=
 (inK .i64 (0-p0)).bind fun x1=>
 some (max p0 x1)
noncomputable def jW (p0:Int):Option Int:=
 if(decide (p0<0))=true then
  (inK .i64 ((-2)*p0)).bind fun x1=>
  (inK .i64 (x1+1)).bind fun x2=>
  some x2
 else
  (inK .i64 (2*p0)).bind fun x3=>
  some x3
noncomputable def jY (p0:Sol) (p1:Int):Option Int:=
 (dN p1).bind fun x1=>
 (idx p0.value x1).bind fun x2=>
 if(decide (x2=0))=true then
  some 0
 else
  if(decide (x2=p1))=true then
   some 1
  else
   some (-1)
noncomputable def iF (p0:Sol) (p1:Int) (p2:(Option Nat)):Option Sol:=
 (dN p1).bind fun x1=>
 (idx p0.value x1).bind fun x2=>
 (idx p0.level x1).bind fun x3=>
 (idx p0.reason x1).bind fun x4=>
 (app p0.trail [p1]).bind fun x5=>
 some (Sol.mk (p0.value.set x1.toNat p1) (p0.level.set x1.toNat (p0.starts.length:Int)) (p0.reason.set x1.toNat p2) p0.saved p0.watches x5 p0.starts p0.head p0.queue p0.proof p0.literals p0.broken)
noncomputable def kS (x1:Nat) (x3:List Int) (aW:Int) (bU:(List (List Nat)×List (List Int))):Option (Step (Int×(List (List Nat)×List (List Int))) (List (List Nat)×List (List Int))):=
 if(decide (aW<(x3.length:Int)))=true then
  (idx x3 aW).bind fun x4=>
  (jW x4).bind fun x5=>
  (jW x4).bind fun x6=>
  (idx bU.1 x6).bind fun x7=>
  (app x7 [x1]).bind fun x8=>
  (uF x5 x6).bind fun x9=>
  (inK .i64 (aW+1)).bind fun x10=>
  some (.next (x10,(bU.1.set x6.toNat x8,bU.2)))
 else
  some (.done bU)
noncomputable def kZ (p0:Sol) (p1:(Option Nat)):Option Sol:=
 (p1).bind fun x1=>
 (p0.watches.2[x1]?).bind fun x2=>
 (sub x2 0 2).bind fun x3=>
 (dC (fun s=>kS x1 x3 s.1 s.2) (0,p0.watches):Option (List (List Nat)×List (List Int))).bind fun b1=>
 some (Sol.mk p0.value p0.level p0.reason p0.saved (b1.1,b1.2.set x1 x2) p0.trail p0.starts p0.head p0.queue p0.proof p0.literals p0.broken)
noncomputable def mO (p0:Sol) (p1:(List Int)):Option Sol:=
 if(decide ((p1.length:Int)=0))=true then
  some (Sol.mk p0.value p0.level p0.reason p0.saved p0.watches p0.trail p0.starts p0.head p0.queue p0.proof p0.literals true)
 else
  if(decide ((p1.length:Int)=1))=true then
   (idx p1 0).bind fun x1=>
   (jY p0 x1).bind fun x2=>
   if(decide (x2=(-1)))=true then
    some (Sol.mk p0.value p0.level p0.reason p0.saved p0.watches p0.trail p0.starts p0.head p0.queue p0.proof p0.literals true)
   else
    if(decide (x2=0))=true then
     (idx p1 0).bind fun x3=>
     (iF p0 x3 none).bind fun x4=>
     some (Sol.mk x4.value x4.level x4.reason p0.saved p0.watches x4.trail p0.starts x4.head p0.queue p0.proof x4.literals x4.broken)
    else
     some p0
  else
   (app [] p1).bind fun x5=>
   (arPut p0.watches.2 p0.watches.1 x5).bind fun x6=>
   (guardQ p0.watches.2.length p0.reason).bind fun x7=>
   (kZ (Sol.mk p0.value p0.level p0.reason p0.saved ((p0.watches.1,x6).1,(p0.watches.1,x6).2.set p0.watches.2.length x5) p0.trail p0.starts p0.head p0.queue p0.proof p0.literals p0.broken) (some p0.watches.2.length)).bind fun x8=>
   some (Sol.mk p0.value p0.level p0.reason p0.saved x8.watches p0.trail p0.starts x8.head p0.queue p0.proof x8.literals x8.broken)
noncomputable def lU (p0:Sol) (p1:(List Int)):Option (Bool×Sol):=
 (vJ p1).bind fun x1=>
 (app p0.proof [x1.1]).bind fun x2=>
 (inK .i64 (p0.literals+(x1.1.length:Int))).bind fun x3=>
 some (decide (x3≤1048576),(Sol.mk p0.value p0.level p0.reason p0.saved p0.watches p0.trail p0.starts p0.head p0.queue x2 x3 p0.broken))
noncomputable def fU (p0:Sol) (x2:List Int) (aW:Int) (bU:(List Int)) (dJ:(List (Int×Bool))):Option (Step (Int×(List Int)×(List (Int×Bool))) ((List Int)×(List (Int×Bool)))):=
 if(decide (aW<(x2.length:Int)))=true then
  (((idx x2 aW).bind fun x3=>
  (dN x3).bind fun x4=>
  ((if((nR (dJ:List (Int×Bool)) x4).getD false)=true then
   some true
  else
   (idx p0.level x4).bind fun x5=>
   some (decide (x5=0))):Option Bool).bind fun m1=>
  if m1=true then
   some (bU,dJ)
  else
   (idx p0.level x4).bind fun x6=>
   if(!decide (x6=(p0.starts.length:Int)))=true then
    (app bU [x3]).bind fun x7=>
    some (x7,vM dJ x4 true)
   else
    some (bU,vM dJ x4 true)):Option ((List Int)×(List (Int×Bool)))).bind fun j2=>
  (inK .i64 (aW+1)).bind fun x8=>
  some (.next (x8,j2.1,j2.2))
 else
  some (.done (bU,dJ))
noncomputable def gX (p0:Sol) (b3:((List Int)×(List (Int×Bool)))) (dG:Int):Option (Step Int Int):=
 (idx p0.trail dG).bind fun x10=>
 (dN x10).bind fun x11=>
 if(!((nR (b3.2:List (Int×Bool)) x11).getD false))=true then
  (inK .i64 (dG-1)).bind fun x12=>
  some (.next x12)
 else
  some (.done dG)
noncomputable def gY (x13:Int) (x21:List Int) (lN:Int) (F6:(List Int)):Option (Step (Int×(List Int)) (List Int)):=
 if(decide (lN<(x21.length:Int)))=true then
  (idx x21 lN).bind fun x22=>
  if(!decide (x22=x13))=true then
   (app F6 [x22]).bind fun x23=>
   (inK .i64 (lN+1)).bind fun x24=>
   some (.next (x24,x23))
  else
   (inK .i64 (lN+1)).bind fun x25=>
   some (.next (x25,F6))
 else
  some (.done F6)
noncomputable def pK (p0:Sol) (sJ:(List Int)) (F7:Int) (lp5_1:(List Int)) (lp5_2:(List (Int×Bool))):Option (Step (Int×(List Int)×(List (Int×Bool))) ((List Int)×(List (Int×Bool)))):=
 if(decide (F7<(sJ.length:Int)))=true then
  (((idx sJ F7).bind fun x26=>
  (dN x26).bind fun x27=>
  ((if((nR (lp5_2:List (Int×Bool)) x27).getD false)=true then
   some true
  else
   (idx p0.level x27).bind fun x28=>
   some (decide (x28=0))):Option Bool).bind fun m2=>
  if m2=true then
   some (lp5_1,lp5_2)
  else
   (idx p0.level x27).bind fun x29=>
   if(!decide (x29=(p0.starts.length:Int)))=true then
    (app lp5_1 [x26]).bind fun x30=>
    some (x30,vM lp5_2 x27 true)
   else
    some (lp5_1,vM lp5_2 x27 true)):Option ((List Int)×(List (Int×Bool)))).bind fun j3=>
  (inK .i64 (F7+1)).bind fun x31=>
  some (.next (x31,j3.1,j3.2))
 else
  some (.done (lp5_1,lp5_2))
noncomputable def pM (p0:Sol) (b19:((List Int)×(List (Int×Bool)))) (lp6_0:Int):Option (Step Int Int):=
 (idx p0.trail lp6_0).bind fun x33=>
 (dN x33).bind fun x34=>
 if(!((nR (b19.2:List (Int×Bool)) x34).getD false))=true then
  (inK .i64 (lp6_0-1)).bind fun x35=>
  some (.next x35)
 else
  some (.done lp6_0)
noncomputable def pO (x36:Int) (x44:List Int) (lp7_0:Int) (lp7_1:(List Int)):Option (Step (Int×(List Int)) (List Int)):=
 if(decide (lp7_0<(x44.length:Int)))=true then
  (idx x44 lp7_0).bind fun x45=>
  if(!decide (x45=x36))=true then
   (app lp7_1 [x45]).bind fun x46=>
   (inK .i64 (lp7_0+1)).bind fun x47=>
   some (.next (x47,x46))
  else
   (inK .i64 (lp7_0+1)).bind fun x48=>
   some (.next (x48,lp7_1))
 else
  some (.done lp7_1)
noncomputable def gZ (p0:Sol) (vV:Int) (sJ:(List Int)) (lp4_2:(List Int)) (lp4_3:(List (Int×Bool))):Option (Step (Int×(List Int)×(List Int)×(List (Int×Bool))) ((List Int)×(List Int)×(List (Int×Bool)))):=
 (dC (fun s=>pK p0 sJ s.1 s.2.1 s.2.2) (0,lp4_2,lp4_3):Option ((List Int)×(List (Int×Bool)))).bind fun b19=>
 (inK .i64 (vV-1)).bind fun x32=>
 (dC (fun s=>pM p0 b19 s) x32:Option Int).bind fun b24=>
 (idx p0.trail b24).bind fun x36=>
 (dN x36).bind fun x37=>
 (idx p0.reason x37).bind fun x38=>
 if x38.isNone=true then
  (inK .i64 (0-x36)).bind fun x39=>
  (idx b19.1 0).bind fun x40=>
  some (.done (sJ,b19.1.set (0:Int).toNat x39,b19.2))
 else
  (dN x36).bind fun x41=>
  (idx p0.reason x41).bind fun x42=>
  (x42).bind fun x43=>
  (p0.watches.2[x43]?).bind fun x44=>
  (dC (fun s=>pO x36 x44 s.1 s.2) (0,[]):Option (List Int)).bind fun b31=>
  some (.next (b24,b31,b19.1,b19.2))
noncomputable def iC (p0:Sol) (lp8_0:Int) (V5:Int) (Q4:(List Int)):Option (Step (Int×Int×(List Int)) (Int×(List Int))):=
 if(decide (V5<(Q4.length:Int)))=true then
  (idx Q4 V5).bind fun x49=>
  (dN x49).bind fun x50=>
  (idx p0.level x50).bind fun x51=>
  if(decide (lp8_0<x51))=true then
   (idx Q4 V5).bind fun x52=>
   (idx Q4 1).bind fun x53=>
   (idx Q4 1).bind fun x54=>
   (idx (Q4.set (1:Int).toNat x52) V5).bind fun x55=>
   (inK .i64 (V5+1)).bind fun x56=>
   some (.next (x51,x56,(Q4.set (1:Int).toNat x52).set V5.toNat x53))
  else
   (inK .i64 (V5+1)).bind fun x57=>
   some (.next (lp8_0,x57,Q4))
 else
  some (.done (lp8_0,Q4))
noncomputable def kY (p0:Sol) (p1:(Option Nat)):Option ((List Int)×Int):=
 (p1).bind fun x1=>
 (p0.watches.2[x1]?).bind fun x2=>
 (((dC (fun s=>fU p0 x2 s.1 s.2.1 s.2.2) (0,([0]:List Int),[]):Option ((List Int)×(List (Int×Bool)))).bind fun b3=>
 (inK .i64 ((p0.trail.length:Int)-1)).bind fun x9=>
 (dC (fun s=>gX p0 b3 s) x9:Option Int).bind fun b8=>
 (idx p0.trail b8).bind fun x13=>
 (dN x13).bind fun x14=>
 (idx p0.reason x14).bind fun x15=>
 if x15.isNone=true then
  (inK .i64 (0-x13)).bind fun x16=>
  (idx b3.1 0).bind fun x17=>
  some (b3.1.set (0:Int).toNat x16,b3.2)
 else
  (dN x13).bind fun x18=>
  (idx p0.reason x18).bind fun x19=>
  (x19).bind fun x20=>
  (p0.watches.2[x20]?).bind fun x21=>
  (dC (fun s=>gY x13 x21 s.1 s.2) (0,[]):Option (List Int)).bind fun b15=>
  (dC (fun s=>gZ p0 s.1 s.2.1 s.2.2.1 s.2.2.2) (b8,b15,b3.1,b3.2):Option ((List Int)×(List Int)×(List (Int×Bool)))).bind fun b18=>
  some (b18.2.1,b18.2.2)):Option ((List Int)×(List (Int×Bool)))).bind fun j1=>
 (dC (fun s=>iC p0 s.1 s.2.1 s.2.2) (0,1,j1.1):Option (Int×(List Int))).bind fun b34=>
 some (b34.2,b34.1)
noncomputable def fG (p0:Sol) (fM:(List (List Nat)×List (List Int))) (iI:Int) (iR:Int) (iT:Bool) (qG:(List Int)) (qH:(List Int)) (sH:(List (Option Nat))) (pF:(List Int)) (j2:(List Int)) (lN:Int):Option (Step Int Int):=
 ((if(decide (lN<(j2.length:Int)))=true then
  (idx j2 lN).bind fun x17=>
  (jY (Sol.mk qG qH sH p0.saved fM pF p0.starts iI p0.queue p0.proof iR iT) x17).bind fun x18=>
  some (decide (x18<0))
 else
  some false):Option Bool).bind fun m1=>
 if m1=true then
  (inK .i64 (lN+1)).bind fun x19=>
  some (.next x19)
 else
  some (.done lN)
noncomputable def eH (p0:Sol) (x2:Int) (x4:Int) (x5:List Nat) (dG:Nat) (fB:Int) (gU:(List Nat)) (fM:(List (List Nat)×List (List Int))) (iI:Int) (iR:Int) (iT:Bool) (qG:(List Int)) (qH:(List Int)) (sH:(List (Option Nat))) (pF:(List Int)):Option (Step (Nat×Int×(List Nat)×(List (List Nat)×List (List Int))×Int×Int×Bool×(List Int)×(List Int)×(List (Option Nat))×(List Int)) (Out (Nat×(List Nat)×(List (List Nat)×List (List Int))×Int×Int×Bool×(List Int)×(List Int)×(List (Option Nat))×(List Int)) ((Option Nat)×Sol))):=
 if(decide (fB<(x5.length:Int)))=true then
  (((idx gU fB).bind fun x7=>
  (fM.2[x7]?).bind fun x8=>
  (idx x8 0).bind fun x9=>
  ((if(decide (x9=x2))=true then
   (idx x8 1).bind fun x10=>
   (idx x8 0).bind fun x11=>
   (idx x8 0).bind fun x12=>
   (idx (x8.set (0:Int).toNat x10) 1).bind fun x13=>
   some ((x8.set (0:Int).toNat x10).set (1:Int).toNat x11)
  else
   some x8):Option (List Int)).bind fun j2=>
  (idx j2 0).bind fun x14=>
  (jY (Sol.mk qG qH sH p0.saved fM pF p0.starts iI p0.queue p0.proof iR iT) x14).bind fun x15=>
  if(decide (0<x15))=true then
   (J5 dG gU.length).bind fun x16=>
   some (.brk ((dG+1),(gU.set dG x7),(fM.1,fM.2.set x7 j2),iI,iR,iT,qG,qH,sH,pF))
  else
   (dC (fun s=>fG p0 fM iI iR iT qG qH sH pF j2 s) 2:Option Int).bind fun b17=>
   if(decide (b17<(j2.length:Int)))=true then
    (idx j2 b17).bind fun x20=>
    (idx j2 1).bind fun x21=>
    (idx j2 1).bind fun x22=>
    (idx (j2.set (1:Int).toNat x20) b17).bind fun x23=>
    (idx ((j2.set (1:Int).toNat x20).set b17.toNat x21) 1).bind fun x24=>
    (jW x24).bind fun x25=>
    (idx ((j2.set (1:Int).toNat x20).set b17.toNat x21) 1).bind fun x26=>
    (jW x26).bind fun x27=>
    (idx fM.1 x27).bind fun x28=>
    (aA2 x27 x4).bind fun x29=>
    (app x28 [x7]).bind fun x30=>
    (uF x25 x27).bind fun x31=>
    some (.brk (dG,gU,((fM.1.set x27.toNat x30,fM.2).1,(fM.1.set x27.toNat x30,fM.2).2.set x7 ((j2.set (1:Int).toNat x20).set b17.toNat x21)),iI,iR,iT,qG,qH,sH,pF))
   else
    (J5 dG gU.length).bind fun x32=>
    (idx j2 0).bind fun x33=>
    (jY (Sol.mk qG qH sH p0.saved fM pF p0.starts iI p0.queue p0.proof iR iT) x33).bind fun x34=>
    if(decide (x34<0))=true then
     (jW x2).bind fun x35=>
     (inK .i64 (fB+1)).bind fun x36=>
     (sub (gU.set dG x7) x36 ((gU.set dG x7).length:Int)).bind fun x37=>
     (kappF (gU.set dG x7) (dG+1) x36.toNat).bind fun x38=>
     (idx fM.1 x35).bind fun x39=>
     (uF x35 x4).bind fun x40=>
     some (.ret ((some x7),(Sol.mk qG qH sH p0.saved ((fM.1.set x4.toNat x38,fM.2).1,(fM.1.set x4.toNat x38,fM.2).2.set x7 j2) pF p0.starts iI p0.queue p0.proof iR iT)))
    else
     (idx j2 0).bind fun x41=>
     (iF (Sol.mk qG qH sH p0.saved fM pF p0.starts iI p0.queue p0.proof iR iT) x41 (some x7)).bind fun x42=>
     some (.brk ((dG+1),(gU.set dG x7),(fM.1,fM.2.set x7 j2),x42.head,x42.literals,x42.broken,x42.value,x42.level,x42.reason,x42.trail))):Option (Out (Nat×(List Nat)×(List (List Nat)×List (List Int))×Int×Int×Bool×(List Int)×(List Int)×(List (Option Nat))×(List Int)) ((Option Nat)×Sol))).bind fun j1=>
  match j1 with
  | .brk j1s=>
   (inK .i64 (fB+1)).bind fun x43=>
   some (.next (j1s.1,x43,j1s.2.1,j1s.2.2.1,j1s.2.2.2.1,j1s.2.2.2.2.1,j1s.2.2.2.2.2.1,j1s.2.2.2.2.2.2.1,j1s.2.2.2.2.2.2.2.1,j1s.2.2.2.2.2.2.2.2.1,j1s.2.2.2.2.2.2.2.2.2))
  | .ret r=>some (.done (.ret r))
 else
  some (.done (.brk (dG,gU,fM,iI,iR,iT,qG,qH,sH,pF)))
noncomputable def kW (p0:Sol) (aW:Int) (bU:Int) (dJ:Bool) (jB:(List Int)) (kD:(List Int)) (lF:(List (Option Nat))) (vU:(List (List Nat)×List (List Int))) (vI:(List Int)):Option (Step (Int×Int×Bool×(List Int)×(List Int)×(List (Option Nat))×(List (List Nat)×List (List Int))×(List Int)) (Out (Int×Int×Bool×(List Int)×(List Int)×(List (Option Nat))×(List (List Nat)×List (List Int))×(List Int)) ((Option Nat)×Sol))):=
 if(decide (aW<(vI.length:Int)))=true then
  (idx vI aW).bind fun x1=>
  (inK .i64 (0-x1)).bind fun x2=>
  (inK .i64 (aW+1)).bind fun x3=>
  (jW x2).bind fun x4=>
  (idx vU.1 x4).bind fun x5=>
  (dC (fun s=>eH p0 x2 x4 x5 s.1 s.2.1 s.2.2.1 s.2.2.2.1 s.2.2.2.2.1 s.2.2.2.2.2.1 s.2.2.2.2.2.2.1 s.2.2.2.2.2.2.2.1 s.2.2.2.2.2.2.2.2.1 s.2.2.2.2.2.2.2.2.2.1 s.2.2.2.2.2.2.2.2.2.2) (0,0,x5,vU,x3,bU,dJ,jB,kD,lF,vI):Option (Out (Nat×(List Nat)×(List (List Nat)×List (List Int))×Int×Int×Bool×(List Int)×(List Int)×(List (Option Nat))×(List Int)) ((Option Nat)×Sol))).bind fun b4=>
  match b4 with
  | .brk b4s=>
   (jW x2).bind fun x44=>
   (idx b4s.2.2.1.1 x44).bind fun x45=>
   (J5 b4s.1 (b4s.2.1.length+1)).bind fun x46=>
   (uF x44 x4).bind fun x47=>
   some (.next (b4s.2.2.2.1,b4s.2.2.2.2.1,b4s.2.2.2.2.2.1,b4s.2.2.2.2.2.2.1,b4s.2.2.2.2.2.2.2.1,b4s.2.2.2.2.2.2.2.2.1,(b4s.2.2.1.1.set x4.toNat (b4s.2.1.take b4s.1),b4s.2.2.1.2),b4s.2.2.2.2.2.2.2.2.2))
  | .ret r=>some (.done (.ret r))
 else
  some (.done (.brk (aW,bU,dJ,jB,kD,lF,vU,vI)))
noncomputable def kR (p0:Sol):Option ((Option Nat)×Sol):=
 (dC (fun s=>kW p0 s.1 s.2.1 s.2.2.1 s.2.2.2.1 s.2.2.2.2.1 s.2.2.2.2.2.1 s.2.2.2.2.2.2.1 s.2.2.2.2.2.2.2) (p0.head,p0.literals,p0.broken,p0.value,p0.level,p0.reason,p0.watches,p0.trail):Option (Out (Int×Int×Bool×(List Int)×(List Int)×(List (Option Nat))×(List (List Nat)×List (List Int))×(List Int)) ((Option Nat)×Sol))).bind fun b1=>
 match b1 with
 | .brk b1s=>
  some (none,(Sol.mk b1s.2.2.2.1 b1s.2.2.2.2.1 b1s.2.2.2.2.2.1 p0.saved b1s.2.2.2.2.2.2.1 b1s.2.2.2.2.2.2.2 p0.starts b1s.1 p0.queue p0.proof b1s.2.1 b1s.2.2.1))
 | .ret r=>some r
noncomputable def jF (x2:List Int) (aW:Int) (bU:(List Int)) (dJ:(List (Option Nat))) (jB:(List Int)) (kD:(List Int)) (lF:(List Bool)):Option (Step (Int×(List Int)×(List (Option Nat))×(List Int)×(List Int)×(List Bool)) ((List Int)×(List (Option Nat))×(List Int)×(List Int)×(List Bool))):=
 if(decide (aW<(x2.length:Int)))=true then
  (idx x2 aW).bind fun x3=>
  (dN x3).bind fun x4=>
  (idx bU x4).bind fun x5=>
  (idx dJ x4).bind fun x6=>
  (idx jB x4).bind fun x7=>
  (idx lF x4).bind fun x8=>
  if(!x8)=true then
   (uT (Que.mk kD lF) x4).bind fun x9=>
   (inK .i64 (aW+1)).bind fun x10=>
   some (.next (x10,bU.set x4.toNat 0,dJ.set x4.toNat none,jB.set x4.toNat x3,x9.list,x9.isin))
  else
   (inK .i64 (aW+1)).bind fun x11=>
   some (.next (x11,bU.set x4.toNat 0,dJ.set x4.toNat none,jB.set x4.toNat x3,kD,lF))
 else
  some (.done (bU,dJ,jB,kD,lF))
noncomputable def nX (p0:Sol) (p1:Int):Option Sol:=
 if(decide ((p0.starts.length:Int)≤p1))=true then
  some p0
 else
  (idx p0.starts p1).bind fun x1=>
  (sub p0.trail x1 (p0.trail.length:Int)).bind fun x2=>
  (dC (fun s=>jF x2 s.1 s.2.1 s.2.2.1 s.2.2.2.1 s.2.2.2.2.1 s.2.2.2.2.2) (0,p0.value,p0.reason,p0.saved,p0.queue.list,p0.queue.isin):Option ((List Int)×(List (Option Nat))×(List Int)×(List Int)×(List Bool))).bind fun b2=>
  (sub p0.trail 0 x1).bind fun x12=>
  (sub p0.starts 0 p1).bind fun x13=>
  some (Sol.mk b2.1 p0.level b2.2.1 b2.2.2.1 p0.watches x12 x13 x1 (Que.mk b2.2.2.2.1 b2.2.2.2.2) p0.proof p0.literals p0.broken)
noncomputable def mM (p0:Sol) (aW:(List Int)) (bU:(List Bool)):Option (Step ((List Int)×(List Bool)) (Out ((List Int)×(List Bool)) (Bool×Sol))):=
 (jX (Que.mk aW bU)).bind fun x1=>
 if(decide (0<x1))=true then
  (yQ (Que.mk aW bU)).bind fun x2=>
  (idx p0.value x2.1).bind fun x3=>
  if(decide (x3=0))=true then
   (app p0.starts [(p0.trail.length:Int)]).bind fun x4=>
   (idx p0.saved x2.1).bind fun x5=>
   (iF (Sol.mk p0.value p0.level p0.reason p0.saved p0.watches p0.trail x4 p0.head x2.2 p0.proof p0.literals p0.broken) x5 none).bind fun x6=>
   some (.done (.ret (true,(Sol.mk x6.value x6.level x6.reason p0.saved p0.watches x6.trail x4 x6.head x2.2 p0.proof x6.literals x6.broken))))
  else
   some (.next (x2.2.list,x2.2.isin))
 else
  some (.done (.brk (aW,bU)))
noncomputable def kH (p0:Sol):Option (Bool×Sol):=
 (dC (fun s=>mM p0 s.1 s.2) (p0.queue.list,p0.queue.isin):Option (Out ((List Int)×(List Bool)) (Bool×Sol))).bind fun b1=>
 match b1 with
 | .brk b1s=>
  some (false,(Sol.mk p0.value p0.level p0.reason p0.saved p0.watches p0.trail p0.starts p0.head (Que.mk b1s.1 b1s.2) p0.proof p0.literals p0.broken))
 | .ret r=>some r
noncomputable def fP (p1:Int) (aW:Int) (bU:Int) (dJ:Int) (jB:Bool) (kD:(List Int)) (lF:(List Int)) (vU:(List (Option Nat))) (vI:(List Int)) (lp1_8:(List (List Nat)×List (List Int))) (lp1_9:(List Int)) (sG:(List Int)) (wE:(List Int)) (wF:(List Bool)) (wG:(List (List Int))):Option (Step (Int×Int×Int×Bool×(List Int)×(List Int)×(List (Option Nat))×(List Int)×(List (List Nat)×List (List Int))×(List Int)×(List Int)×(List Int)×(List Bool)×(List (List Int))) (Out (Int×Int×Bool×(List Int)×(List Int)×(List (Option Nat))×(List Int)×(List (List Nat)×List (List Int))×(List Int)×(List Int)×(List Int)×(List Bool)×(List (List Int))) Answer)):=
 (((kR (Sol.mk kD lF vU vI lp1_8 lp1_9 sG bU (Que.mk wE wF) wG dJ jB)).bind fun x1=>
 if(x1.1.isNone&&(!x1.2.broken))=true then
  (kH (Sol.mk x1.2.value x1.2.level x1.2.reason vI x1.2.watches x1.2.trail sG x1.2.head (Que.mk wE wF) wG x1.2.literals x1.2.broken)).bind fun x2=>
  if x2.1=true then
   some (.brk (aW,x2.2.head,x2.2.literals,x2.2.broken,x2.2.value,x2.2.level,x2.2.reason,x2.2.saved,x2.2.watches,x2.2.trail,x2.2.starts,x2.2.queue.list,x2.2.queue.isin,x2.2.proof))
  else
   (sub x2.2.value 1 (x2.2.value.length:Int)).bind fun x3=>
   (app [] x3).bind fun x4=>
   some (.ret (Answer.mk 0 x4 ([]) aW))
 else
  if(decide (aW=p1))=true then
   some (.ret (Answer.mk 2 ([]) ([]) aW))
  else
   (inK .i64 (aW+1)).bind fun x5=>
   if(x1.2.broken||(decide ((sG.length:Int)=0)))=true then
    (lU (Sol.mk x1.2.value x1.2.level x1.2.reason vI x1.2.watches x1.2.trail sG x1.2.head (Que.mk wE wF) wG x1.2.literals x1.2.broken) []).bind fun x6=>
    some (.ret (Answer.mk 1 ([]) x6.2.proof x5))
   else
    (kY (Sol.mk x1.2.value x1.2.level x1.2.reason vI x1.2.watches x1.2.trail sG x1.2.head (Que.mk wE wF) wG x1.2.literals x1.2.broken) x1.1).bind fun x7=>
    (lU (Sol.mk x1.2.value x1.2.level x1.2.reason vI x1.2.watches x1.2.trail sG x1.2.head (Que.mk wE wF) wG x1.2.literals x1.2.broken) x7.1).bind fun x8=>
    if(!x8.1)=true then
     some (.ret (Answer.mk 2 ([]) ([]) x5))
    else
     (nX x8.2 x7.2).bind fun x9=>
     if(decide (1<(x7.1.length:Int)))=true then
      (arPut x9.watches.2 x9.watches.1 x7.1).bind fun x10=>
      (guardQ x9.watches.2.length x9.reason).bind fun x11=>
      (kZ (Sol.mk x9.value x9.level x9.reason x9.saved ((x9.watches.1,x10).1,(x9.watches.1,x10).2.set x9.watches.2.length x7.1) x9.trail x9.starts x9.head x9.queue x9.proof x9.literals x9.broken) (some x9.watches.2.length)).bind fun x12=>
      (x12.watches.2[x9.watches.2.length]?).bind fun x13=>
      (idx x13 0).bind fun x14=>
      (iF (Sol.mk x9.value x9.level x9.reason x9.saved x12.watches x9.trail x9.starts x12.head x9.queue x9.proof x12.literals x12.broken) x14 (some x9.watches.2.length)).bind fun x15=>
      some (.brk (x5,x15.head,x15.literals,x15.broken,x15.value,x15.level,x15.reason,x9.saved,x12.watches,x15.trail,x9.starts,x9.queue.list,x9.queue.isin,x9.proof))
     else
      (idx x7.1 0).bind fun x16=>
      (iF x9 x16 none).bind fun x17=>
      some (.brk (x5,x17.head,x17.literals,x17.broken,x17.value,x17.level,x17.reason,x9.saved,x9.watches,x17.trail,x9.starts,x9.queue.list,x9.queue.isin,x9.proof))):Option (Out (Int×Int×Int×Bool×(List Int)×(List Int)×(List (Option Nat))×(List Int)×(List (List Nat)×List (List Int))×(List Int)×(List Int)×(List Int)×(List Bool)×(List (List Int))) Answer)).bind fun j1=>
 match j1 with
 | .brk j1s=>
  some (.next (j1s.1,j1s.2.1,j1s.2.2.1,j1s.2.2.2.1,j1s.2.2.2.2.1,j1s.2.2.2.2.2.1,j1s.2.2.2.2.2.2.1,j1s.2.2.2.2.2.2.2.1,j1s.2.2.2.2.2.2.2.2.1,j1s.2.2.2.2.2.2.2.2.2.1,j1s.2.2.2.2.2.2.2.2.2.2.1,j1s.2.2.2.2.2.2.2.2.2.2.2.1,j1s.2.2.2.2.2.2.2.2.2.2.2.2.1,j1s.2.2.2.2.2.2.2.2.2.2.2.2.2))
 | .ret r=>some (.done (.ret r))
noncomputable def fZ (p0:Sol) (p1:Int):Option Answer:=
 (dC (fun s=>fP p1 s.1 s.2.1 s.2.2.1 s.2.2.2.1 s.2.2.2.2.1 s.2.2.2.2.2.1 s.2.2.2.2.2.2.1 s.2.2.2.2.2.2.2.1 s.2.2.2.2.2.2.2.2.1 s.2.2.2.2.2.2.2.2.2.1 s.2.2.2.2.2.2.2.2.2.2.1 s.2.2.2.2.2.2.2.2.2.2.2.1 s.2.2.2.2.2.2.2.2.2.2.2.2.1 s.2.2.2.2.2.2.2.2.2.2.2.2.2) (0,p0.head,p0.literals,p0.broken,p0.value,p0.level,p0.reason,p0.saved,p0.watches,p0.trail,p0.starts,p0.queue.list,p0.queue.isin,p0.proof):Option (Out (Int×Int×Bool×(List Int)×(List Int)×(List (Option Nat))×(List Int)×(List (List Nat)×List (List Int))×(List Int)×(List Int)×(List Int)×(List Bool)×(List (List Int))) Answer)).bind fun b2=>
 match b2 with
 | .brk b2s=>
  some (Answer.mk 0 ([]) ([]) 0)
 | .ret r=>some r
noncomputable def oG (x1:Int) (aW:Int) (bU:(List Int)) (dJ:(List Bool)) (jB:(List Int)):Option (Step (Int×(List Int)×(List Bool)×(List Int)) ((List Int)×(List Bool)×(List Int))):=
 if(decide (aW<x1))=true then
  (inK .i64 (0-aW)).bind fun x9=>
  (idx jB aW).bind fun x10=>
  (uT (Que.mk bU dJ) aW).bind fun x11=>
  (inK .i64 (aW+1)).bind fun x12=>
  some (.next (x12,x11.list,x11.isin,jB.set aW.toNat x9))
 else
  some (.done (bU,dJ,jB))
noncomputable def pY (p0:Formula) (b5:((List Int)×(List Bool)×(List Int))) (dG:Int) (fB:(List Int)) (gU:Int) (fM:Int) (iI:Bool) (iR:(List (List Nat)×List (List Int))) (iT:(List (Option Nat))) (qG:(List Int)) (qH:(List Int)):Option (Step (Int×(List Int)×Int×Int×Bool×(List (List Nat)×List (List Int))×(List (Option Nat))×(List Int)×(List Int)) ((List Int)×Int×Int×Bool×(List (List Nat)×List (List Int))×(List (Option Nat))×(List Int)×(List Int))):=
 if(decide (dG<(p0.clauses.length:Int)))=true then
  (idx p0.clauses dG).bind fun x13=>
  (mO (Sol.mk qH qG iT b5.2.2 iR fB ([]) gU (Que.mk b5.1 b5.2.1) ([]) fM iI) x13).bind fun x14=>
  (inK .i64 (dG+1)).bind fun x15=>
  some (.next (x15,x14.trail,x14.head,x14.literals,x14.broken,x14.watches,x14.reason,x14.level,x14.value))
 else
  some (.done (fB,gU,fM,iI,iR,iT,qG,qH))
noncomputable def qA (p1:(List Int)) (b5:((List Int)×(List Bool)×(List Int))) (lN:Int) (F6:(List Int)) (lp3_2:Int) (lp3_3:Int) (lp3_4:Bool) (lp3_5:(List (List Nat)×List (List Int))) (lp3_6:(List (Option Nat))) (lp3_7:(List Int)) (lp3_8:(List Int)):Option (Step (Int×(List Int)×Int×Int×Bool×(List (List Nat)×List (List Int))×(List (Option Nat))×(List Int)×(List Int)) ((List Int)×Int×Int×Bool×(List (List Nat)×List (List Int))×(List (Option Nat))×(List Int)×(List Int))):=
 if(decide (lN<(p1.length:Int)))=true then
  (idx p1 lN).bind fun x16=>
  (mO (Sol.mk lp3_8 lp3_7 lp3_6 b5.2.2 lp3_5 F6 ([]) lp3_2 (Que.mk b5.1 b5.2.1) ([]) lp3_3 lp3_4) ([x16]:List Int)).bind fun x17=>
  (inK .i64 (lN+1)).bind fun x18=>
  some (.next (x18,x17.trail,x17.head,x17.literals,x17.broken,x17.watches,x17.reason,x17.level,x17.value))
 else
  some (.done (F6,lp3_2,lp3_3,lp3_4,lp3_5,lp3_6,lp3_7,lp3_8))
noncomputable def oQ (p0:Formula) (p1:(List Int)):Option Sol:=
 (inK .i64 (p0.vars+1)).bind fun x1=>
 (mkc x1 x1 (0:Int)).bind fun x2=>
 (mkc x1 x1 (0:Int)).bind fun x3=>
 (mkc x1 x1 (none:Option Nat)).bind fun x4=>
 (mkc x1 x1 (0:Int)).bind fun x5=>
 (inK .i64 (2*x1)).bind fun x6=>
 (mkc x6 x6 ([]:List Nat)).bind fun x7=>
 (mkc x1 x1 (false:Bool)).bind fun x8=>
 (dC (fun s=>oG x1 s.1 s.2.1 s.2.2.1 s.2.2.2) (1,[],x8,x5):Option ((List Int)×(List Bool)×(List Int))).bind fun b5=>
 (dC (fun s=>pY p0 b5 s.1 s.2.1 s.2.2.1 s.2.2.2.1 s.2.2.2.2.1 s.2.2.2.2.2.1 s.2.2.2.2.2.2.1 s.2.2.2.2.2.2.2.1 s.2.2.2.2.2.2.2.2) (0,[],0,0,false,(x7,[]),x4,x3,x2):Option ((List Int)×Int×Int×Bool×(List (List Nat)×List (List Int))×(List (Option Nat))×(List Int)×(List Int))).bind fun b7=>
 (dC (fun s=>qA p1 b5 s.1 s.2.1 s.2.2.1 s.2.2.2.1 s.2.2.2.2.1 s.2.2.2.2.2.1 s.2.2.2.2.2.2.1 s.2.2.2.2.2.2.2.1 s.2.2.2.2.2.2.2.2) (0,b7.1,b7.2.1,b7.2.2.1,b7.2.2.2.1,b7.2.2.2.2.1,b7.2.2.2.2.2.1,b7.2.2.2.2.2.2.1,b7.2.2.2.2.2.2.2):Option ((List Int)×Int×Int×Bool×(List (List Nat)×List (List Int))×(List (Option Nat))×(List Int)×(List Int))).bind fun b9=>
 some (Sol.mk b9.2.2.2.2.2.2.2 b9.2.2.2.2.2.2.1 b9.2.2.2.2.2.1 b5.2.2 b9.2.2.2.2.1 b9.1 ([]) b9.2.1 (Que.mk b5.1 b5.2.1) ([]) b9.2.2.1 b9.2.2.2.1)
noncomputable def rM (p0:Int) (cp0:Formula):Option Bool:=
 ((if(decide (p0=0))=true then
  some true
 else
  (inK .i64 (0-cp0.vars)).bind fun x1=>
  some (decide (p0<x1))):Option Bool).bind fun m1=>
 some (m1||(decide (cp0.vars<p0)))
noncomputable def fV (p0:(List Int)) (p1c0:Formula) (aW:Int):Option (Step Int (Out Unit Int)):=
 if(decide (aW<(p0.length:Int)))=true then
  (idx p0 aW).bind fun x1=>
  (rM x1 p1c0).bind fun x2=>
  if x2=true then
   some (.done (.ret aW))
  else
   (inK .i64 (aW+1)).bind fun x3=>
   some (.next x3)
 else
  some (.done (.brk ()))
noncomputable def jM (p0:(List Int)) (p1c0:Formula):Option Int:=
 (dC (fun s=>fV p0 p1c0 s) 0:Option (Out Unit Int)).bind fun b1=>
 match b1 with
 | .brk b1s=>
  some (-1)
 | .ret r=>some r
noncomputable def gI (p0:(List Int)) (p1c0:Formula):Option Bool:=
 (jM p0 p1c0).bind fun x1=>
 some (decide (0≤x1))
noncomputable def rU (p0:Formula) (p1:(List Int)) (p2:Int):Option Bool:=
 ((if((decide (0≤p2))&&(decide (p2≤65536)))=true then
  (qZ p0).bind fun x1=>
  some x1
 else
  some false):Option Bool).bind fun m1=>
 ((if m1=true then
  (gI p1 p0).bind fun x2=>
  some (!x2)
 else
  some false):Option Bool).bind fun m2=>
 some m2
noncomputable def iE (p0:Formula) (p1:(List Int)) (p2:Int):Option (Answer×Int):=
 (rU p0 p1 p2).bind fun x1=>
 if(!x1)=true then
  some ((Answer.mk 0 ([]) ([]) 0),1)
 else
  (oQ p0 p1).bind fun x2=>
  (fZ x2 p2).bind fun x3=>
  some (x3,0)
noncomputable def nP (p0:Formula) (p1:(List Int)) (p2:Int) (aW:Int) (bU:Int) (dJ:(List Int)) (jB:Int) (kD:Int) (lF:(List Int)) (vU:(List (List Int))):Option (Step (Int×Int×(List Int)×Int×Int×(List Int)×(List (List Int))) (Out (Int×(List Int)×Int×Int×(List Int)×(List (List Int))) (Answer×Int))):=
 if(decide (bU<(p1.length:Int)))=true then
  (((idx p1 bU).bind fun x4=>
  (dN x4).bind fun x5=>
  (inK .i64 (x5-1)).bind fun x6=>
  (idx lF x6).bind fun x7=>
  if(!decide (x7=x4))=true then
   (inK .i64 (0-x4)).bind fun x8=>
   (app dJ [x8]).bind fun x9=>
   some (.brk (aW,x9,jB,kD,lF,vU))
  else
   (app [] dJ).bind fun x10=>
   (inK .i64 (0-x4)).bind fun x11=>
   (app x10 [x11]).bind fun x12=>
   (oQ p0 x12).bind fun x13=>
   (inK .i64 (p2-aW)).bind fun x14=>
   (fZ x13 x14).bind fun x15=>
   (inK .i64 (aW+x15.conflicts)).bind fun x16=>
   if(decide (x15.kind=2))=true then
    some (.ret ((Answer.mk 2 ([]) ([]) x16),0))
   else
    if(decide (x15.kind=0))=true then
     (inK .i64 (0-x4)).bind fun x17=>
     (app dJ [x17]).bind fun x18=>
     some (.brk (x16,x18,x15.kind,x15.conflicts,x15.model,x15.proof))
    else
     (app dJ [x4]).bind fun x19=>
     some (.brk (x16,x19,jB,kD,lF,vU))):Option (Out (Int×(List Int)×Int×Int×(List Int)×(List (List Int))) (Answer×Int))).bind fun j1=>
  match j1 with
  | .brk j1s=>
   (inK .i64 (bU+1)).bind fun x20=>
   some (.next (j1s.1,x20,j1s.2.1,j1s.2.2.1,j1s.2.2.2.1,j1s.2.2.2.2.1,j1s.2.2.2.2.2))
  | .ret r=>some (.done (.ret r))
 else
  some (.done (.brk (aW,dJ,jB,kD,lF,vU)))
noncomputable def nV (p0:Formula) (p1:(List Int)) (p2:Int):Option (Answer×Int):=
 (rU p0 p1 p2).bind fun x1=>
 if(!x1)=true then
  some ((Answer.mk 0 ([]) ([]) 0),1)
 else
  (oQ p0 []).bind fun x2=>
  (fZ x2 p2).bind fun x3=>
  if(!decide (x3.kind=0))=true then
   some (x3,0)
  else
   (dC (fun s=>nP p0 p1 p2 s.1 s.2.1 s.2.2.1 s.2.2.2.1 s.2.2.2.2.1 s.2.2.2.2.2.1 s.2.2.2.2.2.2) (x3.conflicts,0,[],x3.kind,x3.conflicts,x3.model,x3.proof):Option (Out (Int×(List Int)×Int×Int×(List Int)×(List (List Int))) (Answer×Int))).bind fun b4=>
   match b4 with
   | .brk b4s=>
    some ((Answer.mk b4s.2.2.1 b4s.2.2.2.2.1 b4s.2.2.2.2.2 b4s.1),0)
   | .ret r=>some r
noncomputable def lI (p0:Int):Option Int:=
 if(decide (p0<0))=true then
  (inK .i64 ((-2)*p0)).bind fun x1=>
  (inK .i64 (x1+1)).bind fun x2=>
  some x2
 else
  (inK .i64 (2*p0)).bind fun x3=>
  some x3
noncomputable def pI (p0:(List Int)) (p1:Int) (aW:Int) (bU:Int):Option (Step (Int×Int) (Out Unit Bool)):=
 if(decide (bU<(p0.length:Int)))=true then
  (idx p0 bU).bind fun x1=>
  if(((decide (x1<(IntKind.wrap .i64 (0-p1))))||(decide (p1<x1)))||(decide ((max x1 (IntKind.wrap .i64 (0-x1)))≤aW)))=true then
   some (.done (.ret false))
  else
   (inK .i64 (bU+1)).bind fun x2=>
   some (.next (max x1 (IntKind.wrap .i64 (0-x1)),x2))
 else
  some (.done (.brk ()))
noncomputable def sK (p0:(List Int)) (p1:Int):Option Bool:=
 (dC (fun s=>pI p0 p1 s.1 s.2) (0,0):Option (Out Unit Bool)).bind fun b1=>
 match b1 with
 | .brk b1s=>
  some true
 | .ret r=>some r
noncomputable def pX (p0:(List (List Int))) (p1:Int) (aW:Int) (bU:Int):Option (Step (Int×Int) (Out Unit Bool)):=
 if(decide (bU<(p0.length:Int)))=true then
  (idx p0 bU).bind fun x1=>
  (inK .i64 (aW+(x1.length:Int))).bind fun x2=>
  (sK x1 p1).bind fun x3=>
  if((!x3)||(decide (1048576<x2)))=true then
   some (.done (.ret false))
  else
   (inK .i64 (bU+1)).bind fun x4=>
   some (.next (x2,x4))
 else
  some (.done (.brk ()))
noncomputable def uC (p0:(List (List Int))) (p1:Int):Option Bool:=
 (dC (fun s=>pX p0 p1 s.1 s.2) (0,0):Option (Out Unit Bool)).bind fun b1=>
 match b1 with
 | .brk b1s=>
  some true
 | .ret r=>some r
def Stars:List bZ→bZ
 | []=>fun k=>k=PH.emp
 |A::l=>fun k=>∃k1 k2,A k1∧Stars l k2∧k1.dj k2∧k=k1.un k2
theorem un_emp (ρ:PH):ρ.un PH.emp=ρ:=by funext b;unfold PH.un PH.emp;cases ρ b<;>rfl
theorem Sep.stars:∀(l:List bZ) {L:List bZ} {ρ h:PH},Sep ρ (Stars l::L) h↔Sep ρ (l++L) h
 | [],L,ρ,h=>⟨fun⟨k,e,_,s⟩=>by
   have e:k=PH.emp:=e
   rw[e,un_emp] at s;exact s,fun s=>⟨PH.emp,rfl,PH.dj_emp _,by rw[un_emp];exact s⟩⟩
 |A::l,L,ρ,h=>⟨fun⟨k,⟨k1,k2,a,b,d,e⟩,d',s⟩=>by
   subst e
   have d1:=PH.dj_un.1 d'.symm
   exact⟨k1,a,d1.1.symm,(Sep.stars l).1 ⟨k2,b,PH.dj_un.2 ⟨d1.2.symm,d⟩,by rw[PH.un_assoc];exact s⟩⟩,
  fun⟨k1,a,d1,s⟩=>by
   obtain⟨k2,b,d2,s⟩:=(Sep.stars l).2 s
   have d3:=PH.dj_un.1 d2
   exact⟨k1.un k2,⟨k1,k2,a,b,d3.2,rfl⟩,(PH.dj_un.2 ⟨d1.symm,d3.1.symm⟩).symm,by rw[←PH.un_assoc];exact s⟩⟩
section
variable {Z:World} {ρ:PH} {L:List bZ} {w:World}
theorem Hp.stars {l:List bZ} (h:Hp Z ρ (l++L) w):Hp Z ρ (Stars l::L) w:=h.to (Sep.stars l).2
theorem Hp.unstar {l:List bZ} (h:Hp Z ρ (Stars l::L) w):Hp Z ρ (l++L) w:=h.to (Sep.stars l).1
end
def Step.more {σ ε:Type}:Step σ ε→Bool
 | .next _=>true
 | .done _=>false
def yieldM {α σ ε:Type} (f:α→σ→Option (Step σ ε)) (x:α):Step σ ε→Option (Step σ ε)
 | .next s=>f x s
 | .done _=>none
theorem yieldM_some {α σ ε:Type} {f:α→σ→Option (Step σ ε)} {x:α} {S t:Step σ ε} (h:yieldM f x S=some t):∃s,S= .next s∧f x s=some t:=by
 cases S with
 |next s=>exact⟨s,rfl,h⟩
 |done r=>cases h
abbrev YieldOk {α σ ε:Type} (P:Program) (Z:World) (ρ:PH) (l:Nat) (vs:α→List Value) (f:α→σ→Option (Step σ ε)) (Y:Step σ ε→bZ):Prop:=
 ∀(x:α) (s:σ) (st:Step σ ε) (L:List bZ) (W:World),f x s=some st→Hp Z ρ (Y (.next s)::L) W→YieldAt Fence.wide 0 P l (vs x).toArray W (Ret fun v W'=>v= .bool st.more∧Hp Z ρ (Y st::L) W')
theorem YieldOk.at {α σ ε:Type} {P:Program} {Z:World} {ρ:PH} {l:Nat} {vs:α→List Value} {f:α→σ→Option (Step σ ε)} {Y:Step σ ε→bZ} (h:YieldOk P Z ρ l vs f Y) {x:α} {S t:Step σ ε} (hy:yieldM f x S=some t) {L:List bZ} {W:World} (hp:Hp Z ρ (Y S::L) W):
  YieldAt Fence.wide 0 P l (vs x).toArray W (Ret fun v W'=>v= .bool t.more∧Hp Z ρ (Y t::L) W'):=by
 obtain⟨s,rfl,hf⟩:=yieldM_some hy
 exact h x s t L W hf hp
section
variable {R:Option Nat} {P:Program} {ops:Array Oper} {Q:Exit→Act→World→Prop} {rest:List Oper} {o:Oper} {a:Act} {w:World} {Df:List Deferred} {N:Nat} {E:Ent} {d:Nat} {cs:List Code}
theorem k_regionY {id:Nat} {l:List Oper} (h:wpListIn (fR R) 0 P l.toArray (fun e a w=>match e with| .normal=>wpK R P Q cs a w|e=>Q e a w) l a w):wpK R P Q (.region id l.toArray false::cs) a w:=by
 have e:(fun e a w=>match e with| .normal=>wpK R P Q cs a w|e=>Q e a w)=Exit.then (wpK R P Q cs) Q:=by
  funext e a w;cases e<;>rfl
 rw[e] at h
 exact wpIn_region_lit h
theorem y_val {C:World→Prop} (wk:Region.wanted o (yielded ops a.tmps)=true) (hd:o.dst=some d) (hN:Nat.blt d N=true) (hE:EnvD Df N E a) (hC:C w) {v:Value} (hx:Ex P C a o v) (K:∀a,EnvD Df N ((d,v)::E) a→wpListIn (fR R) 0 P ops Q rest a w):wpListIn (fR R) 0 P ops Q (o::rest) a w:=by
 unfold wpListIn
 rw[if_pos wk]
 refine⟨fun f _=>fR_fn R f,?_⟩
 rw[Oper.semAt_eq _ _ _ (nd_of (hx w hC) (fun d h=>by cases h)),hx w hC]
 show wpListIn _ _ _ _ _ _ (a.put o.dst v) _
 rw[hd]
 exact K _ (hE.put hN v)
theorem y_skip (wk:Region.wanted o (yielded ops a.tmps)=false) (hd:o.dst=some d) (hN:Nat.blt d N=true) (hE:EnvD Df N E a) (K:∀a,EnvD Df N ((d,undef)::E) a→wpListIn (fR R) 0 P ops Q rest a w):wpListIn (fR R) 0 P ops Q (o::rest) a w:=by
 unfold wpListIn
 rw[if_neg (by rw[wk];decide)]
 exact⟨fun f _=>fR_fn R f,by rw[hd];exact K _ (hE.put hN undef)⟩
theorem y_nil (h:Q .normal a w):wpListIn (fR R) 0 P ops Q [] a w:=h
theorem yieldAt_in {l n:Nat} {args:Array Value} {W:World} {T:Ending→World→Prop} (h:YieldAt Fence.wide n P l args W T):∃fn tmps assign body,(Instr.yield l args).run P W= .ok (.round l fn tmps assign body) W∧RoundIn (fR R) n P l fn tmps assign body W T:=by
 obtain⟨fn,tmps,assign,body,h1,h2⟩:=h
 refine⟨fn,tmps,assign,body,h1,?_⟩
 cases R<;>exact h2
theorem y_yield {l:Nat} (wk:Region.wanted o (yielded ops a.tmps)=true) (hd:o.dst=some d) (hN:Nat.blt d N=true) (hE:EnvD Df N E a) {x:Operand} {xs:List Operand} {ts:Array TypeId} (ho:o.op= .call {callee:= .value x,args:=xs.toArray,argTypes:=ts})
  (hf:evo E x=some (.func (.yield l) #[] #[])) (vs:List Value) (hx:evA E xs vs) {T:Value→World→Prop} (hY:YieldAt Fence.wide 0 P l vs.toArray w (Ret T)) (K:∀v a w,T v w→EnvD Df N ((d,v)::E) a→wpListIn (fR R) 0 P ops Q rest a w):wpListIn (fR R) 0 P ops Q (o::rest) a w:=by
 obtain⟨fn,tmps,assign,body,hy,hR⟩:=yieldAt_in (R:=R) hY
 have hxs:xs.toArray.map a.eval=vs.toArray:=by rw[List.map_toArray,I9 hE hx]
 have hex:(execOp a.eval o).run P w= .ok (.round l fn tmps assign body) w:=by
  simp only[execOp,ho,resolve,hE.eval hf,hxs,Deferred.ofValue,invoke,Sem.run_bind,Sem.run_pure,Result.andThen_ok]
  simp[hy]
 unfold wpListIn
 rw[if_pos wk]
 refine⟨fun f _=>fR_fn R f,?_⟩
 rw[Oper.semAt_eq _ _ _ (nd_of hex (fun d h=>by cases h)),hex,Oper.uponIn_round]
 refine⟨fR_depth R,hR.mono fun e w' he=>?_⟩
 obtain⟨v,rfl,hr⟩:=he
 rw[hd]
 exact K v _ w' hr (hE.put hN v)
end
def V8:Ent→List (Nat×Value)→Ent
 |E,[]=>E
 |E,p::r=>V8 (p::E) r
theorem env_round {N:Nat} {Df:List Deferred}:∀(l:List (Nat×Value)) {E:Ent} {t:Array Value},(∀p∈l,Nat.blt p.1 N=true)→EnvD Df N E ⟨t,Df⟩→EnvD Df N (V8 E l) ⟨l.foldl (fun t p=>t.setIfInBounds p.1 p.2) t,Df⟩
 | [],E,t,_,h=>h
 |p::r,E,t,hb,h=>by
  have:=h.put (hb p (List.mem_cons_self ..)) p.2
  exact env_round r (E:=p::E) (t:=t.setIfInBounds p.1 p.2) (fun q hq=>hb q (List.mem_cons_of_mem _ hq)) this
def markOf (dd:Nat):Deferred:={target:= .collected dd,args:= #[] }
section
variable {P:Program} {Q:Exit→Act→World→Prop} {a:Act} {w:World} {N:Nat} {E:Ent} {cs:List Code} {Z:World} {ρ:PH} {L:List bZ}
theorem enterM {f:FuncId} {fn:Func} {c:Code} {args:Array Value} {R:Ending→World→Prop} (hf:P.funcs[f]?=some fn) (hb:fn.body=some c) (hN:fn.ntmps=N) (E:Ent) (h1:Nat.ble args.size N=true) (hE:∀p∈E,args[p.1]?=some p.2)
  (h:∀a,Env N E a→wpK none P (bodyPostM Fence.wide 0 P fn R) [c] a w):Calls P f args w R:=
 (callsIn_wide (n:=0)).1 (callsIn_of_wp_marks hf hb trivial (by rw[hN];exact k_one (h _ (Env.start N args E (by simpa using h1) hE))) rfl)
theorem retM0 {fn:Func} {R:Ending→World→Prop} {e:Exit} (he:e= .ret∨e= .normal) (hE:Env N E a) (hp:Hp Z ρ L w) (h:∀a w,Env N E a→Hp Z ρ L w→bodyPost P fn R .ret a w):bodyPostM Fence.wide 0 P fn R e a w:=by
 obtain⟨v,hv⟩:=(h a w hE hp).2
 rcases he with rfl|rfl<;>
 ·show LeavesInM _ _ _ _ _ _ _ _ _
  rw[hE.defers]
  exact⟨v,hv⟩
theorem retM {fn:Func} {R:Ending→World→Prop} {e:Exit} (he:e= .ret∨e= .normal) {dd:Nat} (hE:EnvD [markOf dd] N E a) (hp:Hp Z ρ (Pt dd (.deferred (some []))::L) w) (h:∀a w,Env N E a→Hp Z ρ L w→bodyPost P fn R .ret a w):bodyPostM Fence.wide 0 P fn R e a w:=by
 have hl:=hp.look 0 rfl
 have hlt:=(Array.getElem?_eq_some_iff.1 hl).1
 have hq:=Hp.set (w':=World.putObj w dd (.deferred none)) hp rfl rfl rfl (World.putObj_heap_same hlt) (fun k hk=>World.putObj_heap_other hk)
 have hE':Env N E ⟨a.tmps,[]⟩:=⟨hE.size,rfl,hE.val⟩
 obtain⟨v,hv⟩:=(h _ _ hE' hq.drop).2
 rcases he with rfl|rfl<;>
 ·show LeavesInM _ _ _ _ _ _ _ _ _
  rw[hE.defers]
  refine⟨by simp,.inl ⟨dd,_,rfl,run_takeDeferred hl,?_⟩⟩
  exact⟨v,hv⟩
def recOf (fn dd:Nat) (tmps:Array Value) (ps:Array Tmp) (assign body:Code):Loop:={state:= .ready,pending:=none,fn:=fn,tmps:=tmps,params:=ps,assign:=assign,body:=body,defers:=dd}
def LoopAt {σ ε:Type} (J:σ→bZ) (K:ε→bZ) (l dd:Nat) (rec:Loop):Step σ ε→bZ
 | .next s=>Stars [J s,Pt l (.loop rec),Pt dd (.deferred (some []))]
 | .done r=>Stars [K r,Pt l (.loop {rec with state:= .done,pending:=some .ret}),Pt dd (.deferred (some []))]
theorem round_of {σ ε α:Type} {J:σ→bZ} {K:ε→bZ} {l dd fn:Nat} {t0:Array Value} {ps:Array Tmp} {assign body:Code} {E2:α→Ent} (hE:Env N E ⟨t0,[]⟩) (vs:α→List Value) {f:α→σ→Option (Step σ ε)}
  (hps:∀x,(vs x).length=ps.size) (hpN:∀p∈ps,Nat.blt p N=true)
  (ha:∀(x:α) (a:Act) (L:List bZ) (w:World),Env N (V8 E (ps.toList.zip (vs x))) a→Hp Z ρ L w→wpK (some l) P (fun e a w=>match e with| .normal=>Env N (E2 x++V8 E (ps.toList.zip (vs x))) a∧Hp Z ρ L w|_=>False) [assign] a w)
  (hb:∀(x:α) (s:σ) (st:Step σ ε) (a:Act) (L:List bZ) (w:World),f x s=some st→Env N (E2 x++V8 E (ps.toList.zip (vs x))) a→Hp Z ρ (J s::L) w→wpK (some l) P (fun e a w=>match e with| .normal=>∃s',st= .next s'∧Hp Z ρ (J s'::L) w| .ret=>∃r,st= .done r∧Hp Z ρ (K r::L) w|_=>False) [body] a w)
  (x:α) (s:σ) (st:Step σ ε) (L:List bZ) (W:World) (hs:f x s=some st) (hp:Hp Z ρ (LoopAt J K l dd (recOf fn dd t0 ps assign body) (.next s)::L) W):
  YieldAt Fence.wide 0 P l (vs x).toArray W (Ret fun v W'=>v= .bool st.more∧Hp Z ρ (LoopAt J K l dd (recOf fn dd t0 ps assign body) st::L) W'):=by
 have hp1:Hp Z ρ (J s::Pt l (.loop (recOf fn dd t0 ps assign body))::Pt dd (.deferred (some []))::L) W:=hp.unstar
 have hl:=hp1.look 1 rfl
 have hy:=run_yield (P:=P) (args:=(vs x).toArray) hl (by simpa[recOf] using hps x)
 refine⟨fn,_,_,_,hy,roundIn_of_wpIn trivial ?_⟩
 have hE1:=env_round (ps.toList.zip (vs x)) (fun p hp=>hpN p.1 (by simpa using(List.of_mem_zip hp).1)) hE
 have e1:(ps.toList.zip (vs x)).foldl (fun t p=>t.setIfInBounds p.1 p.2) t0=(ps.zip (vs x).toArray).foldl (fun tmps (p:Tmp×Value)=>tmps.setIfInBounds p.1 p.2) t0:=by
  obtain⟨q⟩:=ps
  simp
 rw[e1] at hE1
 have h1:=k_one (ha x _ _ _ hE1 hp1)
 refine wpIn_mono h1 fun e a2 w2 q=>?_
 cases e with
 |normal=>
  obtain⟨hE2,hp2⟩:=q
  have hl2:=hp2.look 1 rfl
  have hlt:=(Array.getElem?_eq_some_iff.1 hl2).1
  refine⟨_,run_beginRound hl2 rfl,?_⟩
  have hp3:Hp Z ρ (Pt l (.loop {recOf fn dd t0 ps assign body with state:= .busy})::J s::Pt dd (.deferred (some []))::L) (w2.putObj l (.loop {recOf fn dd t0 ps assign body with state:= .busy})):=
   Hp.set (w':=World.putObj _ _ _) (hp2.get 1 rfl) rfl rfl rfl (World.putObj_heap_same hlt) (fun k hk=>World.putObj_heap_other hk)
  have hp3:=hp3.get 1 rfl
  refine wpIn_mono (k_one (hb x s st a2 _ _ hs hE2 hp3)) fun e a4 w4 q=>?_
  cases e with
  |normal=>
   obtain⟨s',rfl,hq⟩:=q
   have hl4:=hq.look 1 rfl
   have hlt4:=(Array.getElem?_eq_some_iff.1 hl4).1
   have h5:=Hp.set (w':=World.putObj w4 l (.loop (recOf fn dd t0 ps assign body))) (hq.get 1 rfl) rfl rfl rfl (World.putObj_heap_same hlt4) (fun k hk=>World.putObj_heap_other hk)
   exact⟨_,_,run_endRound none hl4,_,rfl,rfl,Hp.stars (l:=[J s',_,_]) (h5.get 1 rfl)⟩
  |ret=>
   obtain⟨r,rfl,hq⟩:=q
   have hl4:=hq.look 1 rfl
   have hlt4:=(Array.getElem?_eq_some_iff.1 hl4).1
   have h5:=Hp.set (w':=World.putObj w4 l (.loop {recOf fn dd t0 ps assign body with state:= .done,pending:=some .ret})) (hq.get 1 rfl) rfl rfl rfl (World.putObj_heap_same hlt4) (fun k hk=>World.putObj_heap_other hk)
   exact⟨_,_,run_endRound (some .ret) hl4,_,rfl,rfl,Hp.stars (l:=[K r,_,_]) (h5.get 1 rfl)⟩
  |exit i=>exact q.elim
  |goto t=>exact q.elim
  |panic c=>exact q.elim
  |outgrown=>exact q.elim
 |exit i=>exact q.elim
 |goto t=>exact q.elim
 |ret=>exact q.elim
 |panic c=>exact q.elim
 |outgrown=>exact q.elim
theorem k_rangeF {σ ε α:Type} {g:Operand} {ps:Array Tmp} {assign body:Code} {gf:FuncId} {lb:List Value} {s0:σ} {b:Step σ ε} {L L':List bZ} {E2:α→Ent} (J:σ→bZ) (K:ε→bZ) (vs:α→List Value) (f:α→σ→Option (Step σ ε))
  (hE:Env N E a) (hg:evo E g=some (.func (.func gf) #[] lb.toArray)) (eg:∀args w,(callFunc gf args).run P w= .ok (.enter gf args) w) (hp:Hp Z ρ (J s0::L) w)
  (hps:∀x,(vs x).length=ps.size) (hpN:∀p∈ps,Nat.blt p N=true)
  (hc:∀(l:Nat) (Y:Step σ ε→bZ) (w:World),YieldOk P Z ρ l vs f Y→
   Hp Z ρ (Y (.next s0)::L) w→Calls P gf (#[.func (.yield l) #[] #[]]++lb.toArray) w (Ret fun _ W'=>Hp Z ρ (Y b::L') W'))
  (ha:∀(l:Nat) (x:α) (a:Act) (L:List bZ) (w:World),Env N (V8 E (ps.toList.zip (vs x))) a→Hp Z ρ L w→wpK (some l) P (fun e a w=>match e with| .normal=>Env N (E2 x++V8 E (ps.toList.zip (vs x))) a∧Hp Z ρ L w|_=>False) [assign] a w)
  (hb:∀(l:Nat) (x:α) (s:σ) (st:Step σ ε) (a:Act) (L:List bZ) (w:World),f x s=some st→Env N (E2 x++V8 E (ps.toList.zip (vs x))) a→Hp Z ρ (J s::L) w→wpK (some l) P (fun e a w=>match e with| .normal=>∃s',st= .next s'∧Hp Z ρ (J s'::L) w| .ret=>∃r,st= .done r∧Hp Z ρ (K r::L) w|_=>False) [body] a w)
  (hn:∀s,b= .next s→∀dd a w,EnvD [markOf dd] N E a→Hp Z ρ (J s::Pt dd (.deferred (some []))::L') w→wpK none P Q cs a w)
  (hr:∀r,b= .done r→∀dd a w,EnvD [markOf dd] N E a→Hp Z ρ (K r::Pt dd (.deferred (some []))::L') w→Q .ret a w):wpK none P Q (.rangeFunc g ps assign body::cs) a w:=by
 show(Code.rangeFunc g ps assign body).wpIn Fence.wide 0 P (Exit.then (wpK none P Q cs) Q) a w
 refine wpIn_rangeFunc fun fn _=>?_
 obtain⟨rec,hrec⟩:∃rec:Loop,rec=recOf fn w.heap.size a.tmps ps assign body:=⟨_,rfl⟩
 obtain⟨W1,hW1⟩:∃W1,(w.alloc (.deferred (some []))).alloc (.loop rec)=W1:=⟨_,rfl⟩
 have hp1:Hp Z ρ (Pt (w.heap.size+1) (.loop rec)::Pt w.heap.size (.deferred (some []))::J s0::L) W1:=by
  have:=(hp.alloc (.deferred (some []))).alloc (.loop rec)
  rwa [World.size_alloc,hW1] at this
 have hE0:Env N E ⟨a.tmps,[]⟩:=⟨hE.size,rfl,hE.val⟩
 have hp2:Hp Z ρ (LoopAt (ε:=ε) J K (w.heap.size+1) w.heap.size rec (.next s0)::L) W1:=Hp.stars (l:=[J s0,_,_]) (hp1.get 2 rfl)
 refine⟨w.heap.size+1,[{target:= .collected w.heap.size,args:= #[] }],W1,{target:= .fn (.func gf) lb.toArray,args:= #[.func (.yield (w.heap.size+1)) #[] #[]] },W1,gf,#[.func (.yield (w.heap.size+1)) #[] #[]]++lb.toArray,W1,?_,?_,?_,?_,?_,?_⟩
 ·rw[←hW1,hrec];exact run_enterLoop_outer _ _ _ _ _
 ·simp only[resolve,hE.eval hg]
  simp[go_sem]
 ·exact fun _ _=>trivial
 ·simp[invoke,go_sem,eg]
 ·intro h;simp[Fence.wide] at h
 refine callsIn_wide.2 (Calls.mono (hc (w.heap.size+1) (LoopAt J K (w.heap.size+1) w.heap.size rec) W1 (fun x s st L W hs h=>by
  rw[hrec] at h⊢
  exact round_of hE0 vs hps hpN (ha _) (hb _) x s st L W hs h) hp2) fun e W' he=>?_)
 obtain⟨v,rfl,hp'⟩:=he
 have hE':EnvD [markOf w.heap.size] N E {a with defers:=[{target:= .collected w.heap.size,args:= #[] }]++a.defers}:=⟨hE.size,by simp[hE.defers,markOf],hE.val⟩
 cases b with
 |next s=>
  have hp':Hp Z ρ (J s::Pt (w.heap.size+1) (.loop rec)::Pt w.heap.size (.deferred (some []))::L') W':=hp'.unstar
  have hl:=hp'.look 1 rfl
  have hlt:=(Array.getElem?_eq_some_iff.1 hl).1
  have hrun:=run_endLoop (P:=P) hl (by rw[hrec];simp[recOf])
  rw[show rec.pending=none by rw[hrec];rfl] at hrun
  refine⟨none,_,hrun,?_⟩
  exact hn s rfl _ _ _ hE' (Hp.set (w':=World.putObj _ _ _) (hp'.get 1 rfl) rfl rfl rfl (World.putObj_heap_same hlt) (fun k hk=>World.putObj_heap_other hk)).drop
 |done r=>
  have hp':Hp Z ρ (K r::Pt (w.heap.size+1) (.loop {rec with state:= .done,pending:=some .ret})::Pt w.heap.size (.deferred (some []))::L') W':=hp'.unstar
  have hl:=hp'.look 1 rfl
  have hlt:=(Array.getElem?_eq_some_iff.1 hl).1
  have hrun:=run_endLoop (P:=P) hl (by simp)
  refine⟨some .ret,_,hrun,?_⟩
  exact wpIn_ret (hr r rfl _ _ _ hE' (Hp.set (w':=World.putObj _ _ _) (hp'.get 1 rfl) rfl rfl rfl (World.putObj_heap_same hlt) (fun k hk=>World.putObj_heap_other hk)).drop)
end
noncomputable def iU (p0:PEng) (p1:Int):Option Int:=
 (inK .i64 (0-p1)).bind fun x1=>
 (idx p0.value (max p1 x1)).bind fun x2=>
 if(decide (x2=0))=true then
  some 0
 else
  if(decide (x2=p1))=true then
   some 1
  else
   some (-1)
noncomputable def kT (p0:PEng) (p1:Int):Option PEng:=
 (inK .i64 (0-p1)).bind fun x1=>
 (idx p0.value (max p1 x1)).bind fun x2=>
 (app p0.trail [p1]).bind fun x3=>
 some (PEng.mk (p0.value.set (max p1 x1).toNat p1) x3 p0.head p0.watches p0.fails)
noncomputable def fQ (gU:(List (List Nat)×List (List Int))) (fM:Int) (iI:Bool) (iR:(List Int)) (iT:(List Int)) (j1:(List Int)) (lN:Int):Option (Step Int Int):=
 ((if(decide (lN<(j1.length:Int)))=true then
  (idx j1 lN).bind fun x13=>
  (iU (PEng.mk iR iT fM gU iI) x13).bind fun x14=>
  some (decide (x14<0))
 else
  some false):Option Bool).bind fun m1=>
 if m1=true then
  (inK .i64 (lN+1)).bind fun x15=>
  some (.next x15)
 else
  some (.done lN)
noncomputable def eX (x2:Int) (x4:Int) (x5:List Nat) (dG:Int) (fB:(List Nat)) (gU:(List (List Nat)×List (List Int))) (fM:Int) (iI:Bool) (iR:(List Int)) (iT:(List Int)):Option (Step (Int×(List Nat)×(List (List Nat)×List (List Int))×Int×Bool×(List Int)×(List Int)) (Out ((List Nat)×(List (List Nat)×List (List Int))×Int×Bool×(List Int)×(List Int)) (Bool×PEng))):=
 if(decide (dG<(x5.length:Int)))=true then
  (idx x5 dG).bind fun x6=>
  (gU.2[x6]?).bind fun x7=>
  (idx x7 0).bind fun x8=>
  ((if(decide (x8=x2))=true then
   (idx x7 1).bind fun x9=>
   (idx x7 0).bind fun x10=>
   (idx x7 0).bind fun x11=>
   (idx (x7.set (0:Int).toNat x9) 1).bind fun x12=>
   some ((x7.set (0:Int).toNat x9).set (1:Int).toNat x10)
  else
   some x7):Option (List Int)).bind fun j1=>
  (dC (fun s=>fQ gU fM iI iR iT j1 s) 2:Option Int).bind fun b16=>
  (idx j1 0).bind fun x16=>
  (iU (PEng.mk iR iT fM gU iI) x16).bind fun x17=>
  if(decide (0<x17))=true then
   (app fB [x6]).bind fun x18=>
   (inK .i64 (dG+1)).bind fun x19=>
   some (.next (x19,x18,(gU.1,gU.2.set x6 j1),fM,iI,iR,iT))
  else
   if(decide (b16<(j1.length:Int)))=true then
    (idx j1 b16).bind fun x20=>
    (idx j1 1).bind fun x21=>
    (idx j1 1).bind fun x22=>
    (idx (j1.set (1:Int).toNat x20) b16).bind fun x23=>
    (idx ((j1.set (1:Int).toNat x20).set b16.toNat x21) 1).bind fun x24=>
    (lI x24).bind fun x25=>
    (idx ((j1.set (1:Int).toNat x20).set b16.toNat x21) 1).bind fun x26=>
    (lI x26).bind fun x27=>
    (idx gU.1 x27).bind fun x28=>
    (aA2 x27 x4).bind fun x29=>
    (app x28 [x6]).bind fun x30=>
    (uF x25 x27).bind fun x31=>
    (inK .i64 (dG+1)).bind fun x32=>
    some (.next (x32,fB,((gU.1.set x27.toNat x30,gU.2).1,(gU.1.set x27.toNat x30,gU.2).2.set x6 ((j1.set (1:Int).toNat x20).set b16.toNat x21)),fM,iI,iR,iT))
   else
    (idx j1 0).bind fun x33=>
    (iU (PEng.mk iR iT fM gU iI) x33).bind fun x34=>
    if(decide (x34<0))=true then
     (lI x2).bind fun x35=>
     (sub x5 dG (x5.length:Int)).bind fun x36=>
     (app fB x36).bind fun x37=>
     (idx gU.1 x35).bind fun x38=>
     (uF x35 x4).bind fun x39=>
     some (.done (.ret (false,(PEng.mk iR iT fM ((gU.1.set x4.toNat x37,gU.2).1,(gU.1.set x4.toNat x37,gU.2).2.set x6 j1) iI))))
    else
     (app fB [x6]).bind fun x40=>
     (idx j1 0).bind fun x41=>
     (kT (PEng.mk iR iT fM gU iI) x41).bind fun x42=>
     (inK .i64 (dG+1)).bind fun x43=>
     some (.next (x43,x40,(gU.1,gU.2.set x6 j1),x42.head,x42.fails,x42.value,x42.trail))
 else
  some (.done (.brk (fB,gU,fM,iI,iR,iT)))
noncomputable def lK (aW:Int) (bU:Bool) (dJ:(List Int)) (jB:(List Int)) (kD:(List (List Nat)×List (List Int))):Option (Step (Int×Bool×(List Int)×(List Int)×(List (List Nat)×List (List Int))) (Out (Int×Bool×(List Int)×(List Int)×(List (List Nat)×List (List Int))) (Bool×PEng))):=
 if(decide (aW<(jB.length:Int)))=true then
  (idx jB aW).bind fun x1=>
  (inK .i64 (0-x1)).bind fun x2=>
  (inK .i64 (aW+1)).bind fun x3=>
  (lI x2).bind fun x4=>
  (idx kD.1 x4).bind fun x5=>
  (dC (fun s=>eX x2 x4 x5 s.1 s.2.1 s.2.2.1 s.2.2.2.1 s.2.2.2.2.1 s.2.2.2.2.2.1 s.2.2.2.2.2.2) (0,[],kD,x3,bU,dJ,jB):Option (Out ((List Nat)×(List (List Nat)×List (List Int))×Int×Bool×(List Int)×(List Int)) (Bool×PEng))).bind fun b4=>
  match b4 with
  | .brk b4s=>
   (lI x2).bind fun x44=>
   (idx b4s.2.1.1 x44).bind fun x45=>
   (uF x44 x4).bind fun x46=>
   some (.next (b4s.2.2.1,b4s.2.2.2.1,b4s.2.2.2.2.1,b4s.2.2.2.2.2,(b4s.2.1.1.set x4.toNat b4s.1,b4s.2.1.2)))
  | .ret r=>some (.done (.ret r))
 else
  some (.done (.brk (aW,bU,dJ,jB,kD)))
noncomputable def iG (p0:PEng):Option (Bool×PEng):=
 (dC (fun s=>lK s.1 s.2.1 s.2.2.1 s.2.2.2.1 s.2.2.2.2) (p0.head,p0.fails,p0.value,p0.trail,p0.watches):Option (Out (Int×Bool×(List Int)×(List Int)×(List (List Nat)×List (List Int))) (Bool×PEng))).bind fun b1=>
 match b1 with
 | .brk b1s=>
  some (true,(PEng.mk b1s.2.2.1 b1s.2.2.2.1 b1s.1 b1s.2.2.2.2 b1s.2.1))
 | .ret r=>some r
noncomputable def kF (p0:PEng) (p1:(List Int)) (aW:Int) (bU:(List Int)):Option (Step (Int×(List Int)) (Out (List Int) PEng)):=
 if(decide (aW<(p1.length:Int)))=true then
  (idx p1 aW).bind fun x1=>
  (iU p0 x1).bind fun x2=>
  if(decide (x2=1))=true then
   some (.done (.ret p0))
  else
   if(decide (x2=0))=true then
    (app bU [x1]).bind fun x3=>
    (inK .i64 (aW+1)).bind fun x4=>
    some (.next (x4,x3))
   else
    (inK .i64 (aW+1)).bind fun x5=>
    some (.next (x5,bU))
 else
  some (.done (.brk bU))
noncomputable def mG (p0:PEng) (x10:List Int) (dG:Int) (fB:(List (List Nat)×List (List Int))):Option (Step (Int×(List (List Nat)×List (List Int))) (List (List Nat)×List (List Int))):=
 if(decide (dG<(x10.length:Int)))=true then
  (idx x10 dG).bind fun x11=>
  (lI x11).bind fun x12=>
  (lI x11).bind fun x13=>
  (idx fB.1 x13).bind fun x14=>
  (app x14 [(p0.watches).2.length]).bind fun x15=>
  (uF x12 x13).bind fun x16=>
  (inK .i64 (dG+1)).bind fun x17=>
  some (.next (x17,(fB.1.set x13.toNat x15,fB.2)))
 else
  some (.done fB)
noncomputable def nO (p0:PEng) (p1:(List Int)):Option PEng:=
 if p0.fails=true then
  some p0
 else
  (dC (fun s=>kF p0 p1 s.1 s.2) (0,[]):Option (Out (List Int) PEng)).bind fun b1=>
  match b1 with
  | .brk b1s=>
   if(decide ((b1s.length:Int)=0))=true then
    some (PEng.mk p0.value p0.trail p0.head p0.watches true)
   else
    if(decide ((b1s.length:Int)=1))=true then
     (idx b1s 0).bind fun x6=>
     (kT p0 x6).bind fun x7=>
     (iG (PEng.mk x7.value x7.trail x7.head p0.watches x7.fails)).bind fun x8=>
     some (PEng.mk x8.2.value x8.2.trail x8.2.head x8.2.watches (!x8.1))
    else
     (arPut p0.watches.2 p0.watches.1 b1s).bind fun x9=>
     (sub b1s 0 2).bind fun x10=>
     (dC (fun s=>mG p0 x10 s.1 s.2) (0,(p0.watches.1,x9)):Option (List (List Nat)×List (List Int))).bind fun b5=>
     some (PEng.mk p0.value p0.trail p0.head (b5.1,b5.2.set ((p0.watches).2.length) b1s) p0.fails)
  | .ret r=>some r
noncomputable def iM (p0:PEng) (p1:(List Int)) (aW:Bool) (bU:Int) (dJ:Int) (jB:Bool) (kD:(List Int)) (lF:(List Int)):Option (Step (Bool×Int×Int×Bool×(List Int)×(List Int)) (Bool×Int×Bool×(List Int)×(List Int))):=
 if(decide (bU<(p1.length:Int)))=true then
  (idx p1 bU).bind fun x1=>
  (iU (PEng.mk kD lF dJ p0.watches jB) x1).bind fun x2=>
  if(decide (0<x2))=true then
   some (.done (false,dJ,jB,kD,lF))
  else
   (iU (PEng.mk kD lF dJ p0.watches jB) x1).bind fun x3=>
   if(decide (x3=0))=true then
    (inK .i64 (0-x1)).bind fun x4=>
    (kT (PEng.mk kD lF dJ p0.watches jB) x4).bind fun x5=>
    (inK .i64 (bU+1)).bind fun x6=>
    some (.next (aW,x6,x5.head,x5.fails,x5.value,x5.trail))
   else
    (inK .i64 (bU+1)).bind fun x7=>
    some (.next (aW,x7,dJ,jB,kD,lF))
 else
  some (.done (aW,dJ,jB,kD,lF))
noncomputable def iO (x9:List Int) (dG:Int) (fB:(List Int)):Option (Step (Int×(List Int)) (List Int)):=
 if(decide (dG<(x9.length:Int)))=true then
  (idx x9 dG).bind fun x10=>
  (inK .i64 (0-x10)).bind fun x11=>
  (idx fB (max x10 x11)).bind fun x12=>
  (inK .i64 (dG+1)).bind fun x13=>
  some (.next (x13,fB.set (max x10 x11).toNat 0))
 else
  some (.done fB)
noncomputable def mJ (p0:PEng) (p1:(List Int)):Option (Bool×PEng):=
 if p0.fails=true then
  some (true,p0)
 else
  (dC (fun s=>iM p0 p1 s.1 s.2.1 s.2.2.1 s.2.2.2.1 s.2.2.2.2.1 s.2.2.2.2.2) (true,0,p0.head,p0.fails,p0.value,p0.trail):Option (Bool×Int×Bool×(List Int)×(List Int))).bind fun b1=>
  ((if b1.1=true then
   (iG (PEng.mk b1.2.2.2.1 b1.2.2.2.2 b1.2.1 p0.watches b1.2.2.1)).bind fun x8=>
   some (x8.1,x8.2.head,x8.2.fails,x8.2.value,x8.2.trail,x8.2.watches)
  else
   some (false,b1.2.1,b1.2.2.1,b1.2.2.2.1,b1.2.2.2.2,p0.watches)):Option (Bool×Int×Bool×(List Int)×(List Int)×(List (List Nat)×List (List Int)))).bind fun m1=>
  (sub m1.2.2.2.2.1 (p0.trail.length:Int) (m1.2.2.2.2.1.length:Int)).bind fun x9=>
  (dC (fun s=>iO x9 s.1 s.2) (0,m1.2.2.2.1):Option (List Int)).bind fun b3=>
  (sub m1.2.2.2.2.1 0 (p0.trail.length:Int)).bind fun x14=>
  some (!m1.1,(PEng.mk b3 x14 (p0.trail.length:Int) m1.2.2.2.2.2 m1.2.2.1))
noncomputable def nM (p0:Formula) (aW:Int) (bU:(List Int)) (dJ:Int) (jB:Bool) (kD:(List (List Nat)×List (List Int))) (lF:(List Int)):Option (Step (Int×(List Int)×Int×Bool×(List (List Nat)×List (List Int))×(List Int)) ((List Int)×Int×Bool×(List (List Nat)×List (List Int))×(List Int))):=
 if(decide (aW<(p0.clauses.length:Int)))=true then
  (idx p0.clauses aW).bind fun x6=>
  (nO (PEng.mk lF bU dJ kD jB) x6).bind fun x7=>
  (inK .i64 (aW+1)).bind fun x8=>
  some (.next (x8,x7.trail,x7.head,x7.fails,x7.watches,x7.value))
 else
  some (.done (bU,dJ,jB,kD,lF))
noncomputable def pW (p0:Formula):Option PEng:=
 (inK .i64 (p0.vars+1)).bind fun x1=>
 (mkc x1 x1 (0:Int)).bind fun x2=>
 (inK .i64 (2*p0.vars)).bind fun x3=>
 (inK .i64 (x3+2)).bind fun x4=>
 (mkc x4 x4 ([]:List Nat)).bind fun x5=>
 (dC (fun s=>nM p0 s.1 s.2.1 s.2.2.1 s.2.2.2.1 s.2.2.2.2.1 s.2.2.2.2.2) (0,[],0,false,(x5,[]),x2):Option ((List Int)×Int×Bool×(List (List Nat)×List (List Int))×(List Int))).bind fun b5=>
 some (PEng.mk b5.2.2.2.2 b5.1 b5.2.1 b5.2.2.2.1 b5.2.2.1)
noncomputable def kQ {σ ε:Type} (yf:(Int×Bool)→σ→Option (Step σ ε)) (cp1:(List (List Int))) (aW:Int) (bU:Int) (dJ:Bool) (jB:(List Int)) (kD:(List Int)) (lF:(List (List Nat)×List (List Int))) (vU:(Step σ ε)):Option (Step (Int×Int×Bool×(List Int)×(List Int)×(List (List Nat)×List (List Int))×(Step σ ε)) (Out (Int×Bool×(List Int)×(List Int)×(List (List Nat)×List (List Int))×(Step σ ε)) (Step σ ε))):=
 if(decide (aW<(cp1.length:Int)))=true then
  (idx cp1 aW).bind fun x2=>
  (mJ (PEng.mk jB kD bU lF dJ) x2).bind fun x3=>
  (yieldM yf (aW,x3.1) vU).bind fun x4=>
  if((!x4.more)||(!x3.1))=true then
   some (.done (.ret x4))
  else
   (nO x3.2 x2).bind fun x15=>
   (inK .i64 (aW+1)).bind fun x16=>
   some (.next (x16,x15.head,x15.fails,x15.value,x15.trail,x15.watches,x4))
 else
  some (.done (.brk (bU,dJ,jB,kD,lF,vU)))
noncomputable def pJ {σ ε:Type} (yf:(Int×Bool)→σ→Option (Step σ ε)) (ys:Step σ ε) (cp0:Formula) (cp1:(List (List Int))):Option (Step σ ε):=
 (pW cp0).bind fun x1=>
 (dC (fun s=>kQ yf cp1 s.1 s.2.1 s.2.2.1 s.2.2.2.1 s.2.2.2.2.1 s.2.2.2.2.2.1 s.2.2.2.2.2.2) (0,x1.head,x1.fails,x1.value,x1.trail,x1.watches,ys):Option (Out (Int×Bool×(List Int)×(List Int)×(List (List Nat)×List (List Int))×(Step σ ε)) (Step σ ε))).bind fun b1=>
 match b1 with
 | .brk b1s=>
  some b1s.2.2.2.2.2
 | .ret r=>some r
noncomputable def wK (p0:Formula) (p1:(List (List Int))):Option Unit:=
 some ()
noncomputable def iW (x:(Int×Bool)):Option (Step Unit Bool):=
 if(!x.2)=true then
  some (.done false)
 else
  some (.next ())
noncomputable def qQ (p0:Formula) (p1:(List (List Int))):Option Bool:=
 ((if(decide ((p1.length:Int)=0))=true then
  some true
 else
  (inK .i64 ((p1.length:Int)-1)).bind fun x1=>
  (idx p1 x1).bind fun x2=>
  some (decide (0<(x2.length:Int)))):Option Bool).bind fun m1=>
 if m1=true then
  some false
 else
  (wK p0 p1).bind fun x3=>
  (pJ (fun x _=>iW x) (.next ()) p0 p1).bind fun b6=>
  match b6 with
  | .next lp1n=>
   some true
  | .done r=>some r
noncomputable def mD (p0:Formula) (p1:(List (List Int))):Option Bool:=
 (qZ p0).bind fun x1=>
 ((if x1=true then
  (uC p1 p0.vars).bind fun x2=>
  some x2
 else
  some false):Option Bool).bind fun m1=>
 ((if m1=true then
  (qQ p0 p1).bind fun x3=>
  some x3
 else
  some false):Option Bool).bind fun m2=>
 some m2
end Go.Proofs.Ytpkhmndpeipfmaa

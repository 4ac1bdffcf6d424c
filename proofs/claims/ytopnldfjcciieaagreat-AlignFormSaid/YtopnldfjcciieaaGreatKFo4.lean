/- Models of: math/bits.Mul32, math/bits.Mul64, math/bits.Mul, slices.Repeat[[]int,int], assessor/align.Align. (Printed by wip/sp/gen.py.) -/
import Derived.Test.YtopnldfjcciieaaGreatKFo3
import Derived.Test.YtopnldfjcciieaaGreatKFo2
set_option linter.unusedVariables false
set_option linter.unusedSimpArgs false
namespace Go.Proofs.YtopnldfjcciieaaGreat
open Go.RowKit
noncomputable def aC6 (p0:Int) (p1:Int):Option (Int×Int):=
 (shrK .u64 p0 32).bind fun x1=>
 (shrK .u64 p1 32).bind fun x2=>
 (shrK .u64 (IntKind.wrap .u64 ((andK .u64 p0 4294967295)*(andK .u64 p1 4294967295))) 32).bind fun x3=>
 (shrK .u64 (IntKind.wrap .u64 ((IntKind.wrap .u64 (x1*(andK .u64 p1 4294967295)))+x3)) 32).bind fun x4=>
 (shrK .u64 (IntKind.wrap .u64 ((andK .u64 (IntKind.wrap .u64 ((IntKind.wrap .u64 (x1*(andK .u64 p1 4294967295)))+x3)) 4294967295)+(IntKind.wrap .u64 ((andK .u64 p0 4294967295)*x2)))) 32).bind fun x5=>
 some (IntKind.wrap .u64 ((IntKind.wrap .u64 ((IntKind.wrap .u64 (x1*x2))+x4))+x5),IntKind.wrap .u64 (p0*p1))
noncomputable def aI2 (p0:Int) (p1:Int):Option (Int×Int):=
 (aC6 p0 p1).bind fun x1=>
 some (x1.1,x1.2)
noncomputable def uX (aP:Int) (aU:(List Int)):Option (Step (Int×(List Int)) (List Int)):=
 if(decide (aP<(aU.length:Int)))=true then
  (sub aU aP (aU.length:Int)).bind fun x4=>
  (sub aU 0 aP).bind fun x5=>
  (inK .i64 (aP+((min x5.length x4.length:Nat):Int))).bind fun x6=>
  some (.next (x6,aU.take aP.toNat++cpy x4 x5))
 else
  some (.done aU)
noncomputable def oW (p0:(List Int)) (p1:Int):Option (List Int):=
 ((if(decide (p1<0))=true then
  none
 else
  some ()):Option Unit).bind fun j1=>
 (aI2 (IntKind.wrap .u64 (p0.length:Int)) (IntKind.wrap .u64 p1)).bind fun x1=>
 ((if((decide (0<x1.1))||(decide (9223372036854775807<x1.2)))=true then
  none
 else
  some ()):Option Unit).bind fun j2=>
 (inK .i64 x1.2).bind fun x2=>
 (mkc x2 x2 (0:Int)).bind fun x3=>
 (dV (fun s=>uX s.1 s.2) (((min p0.length x3.length:Nat):Int),cpy x3 p0):Option (List Int)).bind fun b1=>
 some b1
noncomputable def X7 (x10:Alg) (aP:Int) (aU:(List Opn)):Option (Step (Int×(List Opn)) (List Opn)):=
 if(decide (aP<(x10.partner.length:Int)))=true then
  (idx x10.partner aP).bind fun x11=>
  (app aU [(Opn.mk aP x11)]).bind fun x12=>
  (inK .i64 (aP+1)).bind fun x13=>
  some (.next (x13,x12))
 else
  some (.done aU)
noncomputable def X8 (x10:Alg) (bJ:Int) (dY:(List Opn)):Option (Step (Int×(List Opn)) (List Opn)):=
 if(decide (bJ<(x10.back.length:Int)))=true then
  (idx x10.back bJ).bind fun x14=>
  if(decide (x14<0))=true then
   (app dY [(Opn.mk (-1) bJ)]).bind fun x15=>
   (inK .i64 (bJ+1)).bind fun x16=>
   some (.next (x16,x15))
  else
   (inK .i64 (bJ+1)).bind fun x17=>
   some (.next (x17,dY))
 else
  some (.done dY)
noncomputable def Y4 (p0:Node) (p1:Node):Option ((List Opn)×Int):=
 (xJ p0 p1).bind fun x1=>
 if(!decide (x1.2=0))=true then
  some ([],x1.2)
 else
  (jE p0).bind fun x2=>
  (jE p1).bind fun x3=>
  (qY x2).bind fun x4=>
  (qY x3).bind fun x5=>
  (oW ([(-1)]:List Int) (x2.nodes.length:Int)).bind fun x6=>
  (oW ([(-1)]:List Int) (x3.nodes.length:Int)).bind fun x7=>
  (inK .i64 ((x4.1.length:Int)-1)).bind fun x8=>
  (inK .i64 ((x5.1.length:Int)-1)).bind fun x9=>
  (F6 (Alg.mk x2 x3 x4.1 x4.2 x5.1 x5.2 x1.1 x6 x7) x8 x9).bind fun x10=>
  (dV (fun s=>X7 x10 s.1 s.2) (0,[]):Option (List Opn)).bind fun b12=>
  (dV (fun s=>X8 x10 s.1 s.2) (0,b12):Option (List Opn)).bind fun b15=>
  some (b15,0)
noncomputable def vI (p0:Opn) (cp0:Int):Option Bool:=
 some (decide (p0.a=cp0))
noncomputable def gI (p0:(List Opn)) (p1c0:Int) (aP:Int):Option (Step Int (Out Unit Int)):=
 if(decide (aP<(p0.length:Int)))=true then
  (idx p0 aP).bind fun x1=>
  (vI x1 p1c0).bind fun x2=>
  if x2=true then
   some (.done (.ret aP))
  else
   (inK .i64 (aP+1)).bind fun x3=>
   some (.next x3)
 else
  some (.done (.brk ()))
noncomputable def jC (p0:(List Opn)) (p1c0:Int):Option Int:=
 (dV (fun s=>gI p0 p1c0 s) 0:Option (Out Unit Int)).bind fun b1=>
 match b1 with
 | .brk b1s=>
  some (-1)
 | .ret r=>some r
noncomputable def qC (p0:(List Opn)) (p1:Int):Option (Int×Bool):=
 (jC p0 p1).bind fun x1=>
 ((if((decide (x1<0))||(decide (p1<0)))=true then
  some true
 else
  (idx p0 x1).bind fun x2=>
  some (decide (x2.b<0))):Option Bool).bind fun m1=>
 if m1=true then
  some (0,false)
 else
  (idx p0 x1).bind fun x3=>
  some (x3.b,true)
noncomputable def wZ (p0:Int):Option Bool:=
 some (!decide (p0=p0))
noncomputable def uO (p0:Int) (p1:Int):Option Int:=
 (wZ p0).bind fun x1=>
 (wZ p1).bind fun x2=>
 if x1=true then
  if x2=true then
   some 0
  else
   some (-1)
 else
  if x2=true then
   some 1
  else
   if(decide (p0<p1))=true then
    some (-1)
   else
    if(decide (p1<p0))=true then
     some 1
    else
     some 0
noncomputable def qP (p0:Opn) (p1:Opn):Option Int:=
 if((decide (0≤p0.a))&&(decide (0≤p1.a)))=true then
  (uO p0.a p1.a).bind fun x1=>
  some x1
 else
  if((decide (p0.a<0))&&(decide (p1.a<0)))=true then
   (uO p0.b p1.b).bind fun x2=>
   some x2
  else
   if(decide (0≤p0.a))=true then
    some (-1)
   else
    some 1
noncomputable def kX (p1:Int) (bJ:Int) (dY:(List Opn)):Option (Step (Int×(List Opn)) (List Opn)):=
 ((if(decide (p1<bJ))=true then
  (idx dY bJ).bind fun x2=>
  (inK .i64 (bJ-1)).bind fun x3=>
  (idx dY x3).bind fun x4=>
  (qP x2 x4).bind fun x5=>
  some (decide (x5<0))
 else
  some false):Option Bool).bind fun m1=>
 if m1=true then
  (inK .i64 (bJ-1)).bind fun x6=>
  (inK .i64 (bJ-1)).bind fun x7=>
  (idx dY x7).bind fun x8=>
  (idx dY bJ).bind fun x9=>
  (idx dY bJ).bind fun x10=>
  (idx (dY.set bJ.toNat x8) x6).bind fun x11=>
  (inK .i64 (bJ-1)).bind fun x12=>
  some (.next (x12,(dY.set bJ.toNat x8).set x6.toNat x9))
 else
  some (.done dY)
noncomputable def kW (p1:Int) (p2:Int) (aP:Int) (aU:(List Opn)):Option (Step (Int×(List Opn)) (List Opn)):=
 if(decide (aP<p2))=true then
  (dV (fun s=>kX p1 s.1 s.2) (aP,aU):Option (List Opn)).bind fun b2=>
  (inK .i64 (aP+1)).bind fun x13=>
  some (.next (x13,b2))
 else
  some (.done aU)
noncomputable def gV (p0:(List Opn)) (p1:Int) (p2:Int):Option (List Opn):=
 (inK .i64 (p1+1)).bind fun x1=>
 (dV (fun s=>kW p1 p2 s.1 s.2) (x1,p0):Option (List Opn)).bind fun b1=>
 some b1
noncomputable def mM (p1:Int) (p2:Int) (p3:Int) (aP:Int) (aU:(List Opn)):Option (Step (Int×(List Opn)) (List Opn)):=
 if(decide (aP<p3))=true then
  (inK .i64 (p1+aP)).bind fun x1=>
  (inK .i64 (p2+aP)).bind fun x2=>
  (inK .i64 (p2+aP)).bind fun x3=>
  (idx aU x3).bind fun x4=>
  (inK .i64 (p1+aP)).bind fun x5=>
  (idx aU x5).bind fun x6=>
  (idx aU x1).bind fun x7=>
  (idx (aU.set x1.toNat x4) x2).bind fun x8=>
  (inK .i64 (aP+1)).bind fun x9=>
  some (.next (x9,(aU.set x1.toNat x4).set x2.toNat x6))
 else
  some (.done aU)
noncomputable def fO (p0:(List Opn)) (p1:Int) (p2:Int) (p3:Int):Option (List Opn):=
 (dV (fun s=>mM p1 p2 p3 s.1 s.2) (0,p0):Option (List Opn)).bind fun b1=>
 some b1
noncomputable def nU (p2:Int) (aP:Int) (aU:Int) (dR:(List Opn)):Option (Step (Int×Int×(List Opn)) (Int×(List Opn))):=
 if(!decide (aP=aU))=true then
  if(decide (aU<aP))=true then
   (inK .i64 (p2-aP)).bind fun x3=>
   (fO dR x3 p2 aU).bind fun x4=>
   (inK .i64 (aP-aU)).bind fun x5=>
   some (.next (x5,aU,x4))
  else
   (inK .i64 (p2-aP)).bind fun x6=>
   (inK .i64 (p2+aU)).bind fun x7=>
   (inK .i64 (x7-aP)).bind fun x8=>
   (fO dR x6 x8 aP).bind fun x9=>
   (inK .i64 (aU-aP)).bind fun x10=>
   some (.next (aP,x10,x9))
 else
  some (.done (aP,dR))
noncomputable def kR (p0:(List Opn)) (p1:Int) (p2:Int) (p3:Int):Option (List Opn):=
 (inK .i64 (p2-p1)).bind fun x1=>
 (inK .i64 (p3-p2)).bind fun x2=>
 (dV (fun s=>nU p2 s.1 s.2.1 s.2.2) (x1,x2,p0):Option (Int×(List Opn))).bind fun b1=>
 (inK .i64 (p2-b1.1)).bind fun x11=>
 (fO b1.2 x11 p2 b1.1).bind fun x12=>
 some x12
noncomputable def kY (p0:(List Opn)) (p1:Int) (aP:Int) (aU:Int):Option (Step (Int×Int) Int):=
 if(decide (aP<aU))=true then
  (inK .i64 (aP+aU)).bind fun x2=>
  (shrK .u64 (IntKind.wrap .u64 x2) 1).bind fun x3=>
  (inK .i64 x3).bind fun x4=>
  (idx p0 x4).bind fun x5=>
  (idx p0 p1).bind fun x6=>
  (qP x5 x6).bind fun x7=>
  if(decide (x7<0))=true then
   (inK .i64 (x4+1)).bind fun x8=>
   some (.next (x8,aU))
  else
   some (.next (aP,x4))
 else
  some (.done aP)
noncomputable def kZ (b1:Int) (bJ:Int) (dY:(List Opn)):Option (Step (Int×(List Opn)) (List Opn)):=
 (inK .i64 (b1-1)).bind fun x9=>
 if(decide (bJ<x9))=true then
  (inK .i64 (bJ+1)).bind fun x10=>
  (inK .i64 (bJ+1)).bind fun x11=>
  (idx dY x11).bind fun x12=>
  (idx dY bJ).bind fun x13=>
  (idx dY bJ).bind fun x14=>
  (idx (dY.set bJ.toNat x12) x10).bind fun x15=>
  (inK .i64 (bJ+1)).bind fun x16=>
  some (.next (x16,(dY.set bJ.toNat x12).set x10.toNat x13))
 else
  some (.done dY)
noncomputable def lC (p0:(List Opn)) (p2:Int) (eQ:Int) (uG:Int):Option (Step (Int×Int) Int):=
 if(decide (eQ<uG))=true then
  (inK .i64 (eQ+uG)).bind fun x18=>
  (shrK .u64 (IntKind.wrap .u64 x18) 1).bind fun x19=>
  (inK .i64 x19).bind fun x20=>
  (idx p0 p2).bind fun x21=>
  (idx p0 x20).bind fun x22=>
  (qP x21 x22).bind fun x23=>
  if(!(decide (x23<0)))=true then
   (inK .i64 (x20+1)).bind fun x24=>
   some (.next (x24,uG))
  else
   some (.next (eQ,x20))
 else
  some (.done eQ)
noncomputable def lD (b15:Int) (fJ:Int) (iY:(List Opn)):Option (Step (Int×(List Opn)) (List Opn)):=
 if(decide (b15<fJ))=true then
  (inK .i64 (fJ-1)).bind fun x25=>
  (inK .i64 (fJ-1)).bind fun x26=>
  (idx iY x26).bind fun x27=>
  (idx iY fJ).bind fun x28=>
  (idx iY fJ).bind fun x29=>
  (idx (iY.set fJ.toNat x27) x25).bind fun x30=>
  (inK .i64 (fJ-1)).bind fun x31=>
  some (.next (x31,(iY.set fJ.toNat x27).set x25.toNat x28))
 else
  some (.done iY)
noncomputable def lF (p0:(List Opn)) (x37:Int) (xG:Int) (Q7:Int):Option (Step (Int×Int) Int):=
 if(decide (xG<Q7))=true then
  (inK .i64 (xG+Q7)).bind fun x38=>
  (shrK .u64 (IntKind.wrap .u64 x38) 1).bind fun x39=>
  (inK .i64 x39).bind fun x40=>
  (inK .i64 (x37-x40)).bind fun x41=>
  (idx p0 x41).bind fun x42=>
  (idx p0 x40).bind fun x43=>
  (qP x42 x43).bind fun x44=>
  if(!(decide (x44<0)))=true then
   (inK .i64 (x40+1)).bind fun x45=>
   some (.next (x45,Q7))
  else
   some (.next (xG,x40))
 else
  some (.done xG)
noncomputable def iV (self:(List Opn)→Int→Int→Int→Option (List Opn)) (p0:(List Opn)) (p1:Int) (p2:Int) (p3:Int):Option (List Opn):=
 (inK .i64 (p2-p1)).bind fun x1=>
 if(decide (x1=1))=true then
  (dV (fun s=>kY p0 p1 s.1 s.2) (p2,p3):Option Int).bind fun b1=>
  (dV (fun s=>kZ b1 s.1 s.2) (p1,p0):Option (List Opn)).bind fun b6=>
  some b6
 else
  (inK .i64 (p3-p2)).bind fun x17=>
  if(decide (x17=1))=true then
   (dV (fun s=>lC p0 p2 s.1 s.2) (p1,p2):Option Int).bind fun b15=>
   (dV (fun s=>lD b15 s.1 s.2) (p2,p0):Option (List Opn)).bind fun b20=>
   some b20
  else
   (inK .i64 (p1+p3)).bind fun x32=>
   (shrK .u64 (IntKind.wrap .u64 x32) 1).bind fun x33=>
   (inK .i64 x33).bind fun x34=>
   (inK .i64 (x34+p2)).bind fun x35=>
   ((if(decide (x34<p2))=true then
    (inK .i64 (x35-p3)).bind fun x36=>
    some (x36,x34)
   else
    some (p1,p2)):Option (Int×Int)).bind fun j1=>
   (inK .i64 (x35-1)).bind fun x37=>
   (dV (fun s=>lF p0 x37 s.1 s.2) (j1.1,j1.2):Option Int).bind fun b29=>
   (inK .i64 (x35-b29)).bind fun x46=>
   ((if((decide (b29<p2))&&(decide (p2<x46)))=true then
    (kR p0 b29 p2 x46).bind fun x47=>
    some x47
   else
    some p0):Option (List Opn)).bind fun j2=>
   ((if((decide (p1<b29))&&(decide (b29<x34)))=true then
    (self j2 p1 b29 x34).bind fun x48=>
    some x48
   else
    some j2):Option (List Opn)).bind fun j3=>
   if((decide (x34<x46))&&(decide (x46<p3)))=true then
    (self j3 x34 x46 p3).bind fun x49=>
    some x49
   else
    some j3
noncomputable def iC:Nat→(List Opn)→Int→Int→Int→Option (List Opn)
 |0=>fun _ _ _ _=>none
 |n+1=>iV (iC n)
noncomputable def jV (p0:(List Opn)) (p1:Int) (p2:Int) (p3:Int):Option (List Opn):=iC ((p3-p1).toNat+1) p0 p1 p2 p3
noncomputable def nV (p1:Int) (aP:Int) (aU:Int) (dR:(List Opn)):Option (Step (Int×Int×(List Opn)) (Int×(List Opn))):=
 if(decide (aU≤p1))=true then
  (gV dR aP aU).bind fun x1=>
  (inK .i64 (aU+20)).bind fun x2=>
  some (.next (aU,x2,x1))
 else
  some (.done (aP,dR))
noncomputable def nY (p1:Int) (bJ:Int) (eQ:Int) (uG:Int) (lp3_2:(List Opn)):Option (Step (Int×Int×(List Opn)) (Int×(List Opn))):=
 if(decide (uG≤p1))=true then
  (inK .i64 (eQ+bJ)).bind fun x5=>
  (jV lp3_2 eQ x5 uG).bind fun x6=>
  (inK .i64 (2*bJ)).bind fun x7=>
  (inK .i64 (uG+x7)).bind fun x8=>
  some (.next (uG,x8,x6))
 else
  some (.done (eQ,lp3_2))
noncomputable def nX (p1:Int) (bJ:Int) (dY:(List Opn)):Option (Step (Int×(List Opn)) (List Opn)):=
 if(decide (bJ<p1))=true then
  (inK .i64 (2*bJ)).bind fun x4=>
  (dV (fun s=>nY p1 bJ s.1 s.2.1 s.2.2) (0,x4,dY):Option (Int×(List Opn))).bind fun b3=>
  (inK .i64 (b3.1+bJ)).bind fun x9=>
  ((if(decide (x9<p1))=true then
   (jV b3.2 b3.1 x9 p1).bind fun x10=>
   some x10
  else
   some b3.2):Option (List Opn)).bind fun j1=>
  (inK .i64 (bJ*2)).bind fun x11=>
  some (.next (x11,j1))
 else
  some (.done dY)
noncomputable def kS (p0:(List Opn)) (p1:Int):Option (List Opn):=
 (dV (fun s=>nV p1 s.1 s.2.1 s.2.2) (0,20,p0):Option (Int×(List Opn))).bind fun b1=>
 (gV b1.2 b1.1 p1).bind fun x3=>
 (dV (fun s=>nX p1 s.1 s.2) (20,x3):Option (List Opn)).bind fun b2=>
 some b2
noncomputable def kG (p0:(List Opn)):Option (List Opn):=
 (kS p0 (p0.length:Int)).bind fun x1=>
 some x1
noncomputable def zC (p0:(List Opn)):Option (List Opn):=
 (kG p0).bind fun x1=>
 some x1
noncomputable def Q8 (p0:(List Opn)) (aP:Int) (aU:(List Opn)):Option (Step (Int×(List Opn)) (List Opn)):=
 if(decide (aP<(p0.length:Int)))=true then
  (idx p0 aP).bind fun x1=>
  (app aU [(Opn.mk x1.b x1.a)]).bind fun x2=>
  (inK .i64 (aP+1)).bind fun x3=>
  some (.next (x3,x2))
 else
  some (.done aU)
noncomputable def zB (p0:(List Opn)):Option (List Opn):=
 (dV (fun s=>Q8 p0 s.1 s.2) (0,[]):Option (List Opn)).bind fun b1=>
 (zC b1).bind fun x4=>
 some x4
noncomputable def J3 (p0:(List Opn)) (p1:(List Opn)) (aP:Int) (aU:(List Opn)) (dR:(List (Int×Bool))):Option (Step (Int×(List Opn)×(List (Int×Bool))) ((List Opn)×(List (Int×Bool)))):=
 if(decide (aP<(p0.length:Int)))=true then
  (((idx p0 aP).bind fun x1=>
  if(decide (x1.a<0))=true then
   some (aU,dR)
  else
   (qC p1 x1.b).bind fun x2=>
   ((if(!x2.2)=true then
    some (-1)
   else
    some x2.1):Option Int).bind fun j2=>
   (app aU [(Opn.mk x1.a j2)]).bind fun x3=>
   some (x3,Y5 dR j2 true)):Option ((List Opn)×(List (Int×Bool)))).bind fun j1=>
  (inK .i64 (aP+1)).bind fun x4=>
  some (.next (x4,j1.1,j1.2))
 else
  some (.done (aU,dR))
noncomputable def J4 (p1:(List Opn)) (b2:((List Opn)×(List (Int×Bool)))) (bJ:Int) (dY:(List Opn)):Option (Step (Int×(List Opn)) (List Opn)):=
 if(decide (bJ<(p1.length:Int)))=true then
  (idx p1 bJ).bind fun x5=>
  if((decide (0≤x5.b))&&(!((lM (b2.2:List (Int×Bool)) x5.b).getD false)))=true then
   (app dY [(Opn.mk (-1) x5.b)]).bind fun x6=>
   (inK .i64 (bJ+1)).bind fun x7=>
   some (.next (x7,x6))
  else
   (inK .i64 (bJ+1)).bind fun x8=>
   some (.next (x8,dY))
 else
  some (.done dY)
noncomputable def I7 (p0:(List Opn)) (p1:(List Opn)):Option (List Opn):=
 (dV (fun s=>J3 p0 p1 s.1 s.2.1 s.2.2) (0,[],[]):Option ((List Opn)×(List (Int×Bool)))).bind fun b2=>
 (dV (fun s=>J4 p1 b2 s.1 s.2) (0,b2.1):Option (List Opn)).bind fun b6=>
 (zC b6).bind fun x9=>
 some x9
def Node.re (n:Node) (ks:List Node):Node:=⟨n.kind,n.text,n.at_,n.fin,ks⟩
mutual
def atN:Node→Nat→Option (List Node×Nat×(List Node→Node))
 |⟨a,b,c,d,kids⟩,k=>(atL [] kids k).map fun q=>(q.1,q.2.1,fun x=>⟨a,b,c,d,q.2.2 x⟩)
def atL:List Node→List Node→Nat→Option (List Node×Nat×(List Node→List Node))
 |_,[],_=>none
 |pre,n::r,k=>if k=0 then some (pre++n::r,pre.length,id) else if k<bW n then(atN n (k-1)).map fun q=>(q.1,q.2.1,fun x=>pre++q.2.2 x::r) else atL (pre++[n]) r (k-bW n)
end
theorem atN_eq (n:Node) (k:Nat):atN n k=(atL [] n.kids k).map fun q=>(q.1,q.2.1,fun x=>n.re (q.2.2 x)):=by obtain⟨a,b,c,d,kids⟩:=n;rw[atN];rfl
theorem atL_nil (pre:List Node) (k:Nat):atL pre [] k=none:=by rw[atL]
theorem aD8 (pre:List Node) (n:Node) (r:List Node) (k:Nat):atL pre (n::r) k=if k=0 then some (pre++n::r,pre.length,id) else if k<bW n then(atN n (k-1)).map fun q=>(q.1,q.2.1,fun x=>pre++q.2.2 x::r) else atL (pre++[n]) r (k-bW n):=by rw[atL]
theorem cntN_eq' (n:Node):bW n=1+qI n.kids:=by obtain⟨a,b,c,d,k⟩:=n;rw[bW]
theorem atL_ok:∀(m:Nat) (ts pre:List Node) (k:Nat),SizeOf.sizeOf ts≤m→k<qI ts→∃q,atL pre ts k=some q:=by
 intro m
 induction m with
 |zero=>intro ts pre k h;cases ts<;>simp at h
 |succ m ih=>
  intro ts pre k h hk
  cases ts with
  |nil=>rw[qI] at hk;omega
  |cons n r=>
   rw[aD8]
   rw[qI] at hk
   simp only[List.cons.sizeOf_spec] at h
   split
   ·exact⟨_,rfl⟩
   split
   ·obtain⟨a,b,c,d,kids⟩:=n
    simp only[Node.mk.sizeOf_spec] at h
    rename_i h0 h1
    rw[bW] at h1
    obtain⟨q,hq⟩:=ih kids [] (k-1) (by omega) (by omega)
    rw[atN,hq]
    exact⟨_,rfl⟩
   exact ih r _ _ (by omega) (by omega)
theorem atL_plug:∀(m:Nat) (ts pre:List Node) (k:Nat),SizeOf.sizeOf ts≤m→∀{t:List Node} {i:Nat} {p:List Node→List Node},atL pre ts k=some (t,i,p)→p t=pre++ts∧t.length≤pre.length+qI ts:=by
 intro m
 induction m with
 |zero=>intro ts pre k h;cases ts<;>simp at h
 |succ m ih=>
  intro ts pre k h t i p hat
  cases ts with
  |nil=>rw[atL_nil] at hat;cases hat
  |cons n r=>
   rw[aD8] at hat
   have hc:=cntN_eq' n
   have hlen:∀(l:List Node),l.length≤qI l:=by
    intro l
    induction l with
    |nil=>exact Nat.zero_le _
    |cons a l ih2=>rw[qI,List.length_cons,cntN_eq'];omega
   have hr:=hlen r
   simp only[List.cons.sizeOf_spec] at h
   split at hat
   ·obtain⟨rfl,rfl,rfl⟩:pre++n::r=t∧pre.length=i∧id=p:=by simpa using hat
    refine⟨rfl,?_⟩
    rw[List.length_append,List.length_cons,qI];omega
   split at hat
   ·obtain⟨a,b,c,d,kids⟩:=n
    rw[atN] at hat
    cases hq:atL [] kids (k-1) with
    |none=>rw[hq] at hat;cases hat
    |some q=>
     obtain⟨t2,i2,p2⟩:=q
     rw[hq] at hat
     simp only[Option.map_some,Option.some.injEq,Prod.mk.injEq] at hat
     obtain⟨rfl,rfl,rfl⟩:=hat
     simp only[Node.mk.sizeOf_spec] at h
     obtain⟨h1,h2⟩:=ih kids [] (k-1) (by omega) hq
     refine⟨by simp[h1],?_⟩
     rw[qI,bW]
     simp only[List.length_nil] at h2
     omega
   obtain⟨h1,h2⟩:=ih r (pre++[n]) (k-bW n) (by omega) hat
   refine⟨by rw[h1];simp,?_⟩
   rw[List.length_append,List.length_singleton] at h2
   rw[qI];omega
theorem re_kids (n:Node):n.re n.kids=n:=by cases n;rfl
def m_at (ts:List Node) (n:Int):Option (Option (List Node×Nat×(List Node→List Node))):=if 0≤n∧n<9223372036854775808∧qI ts≤4294967296 then some (atL [] ts n.toNat) else none
def aG3 (ts:List Node) (c:Chg):Option (Int×List Node):=(m_at ts c.node).bind fun q=>match q with
 |none=>some (2,ts)
 |some (t,i,p)=>(t[i]?).map fun x=>(0,p (t.set i ⟨c.kind,c.text,x.at_,x.fin,x.kids⟩))
def aJ6 (ts:List Node) (c:Chg):Option (Int×List Node):=(m_at ts c.node).bind fun q=>match q with
 |none=>some (2,ts)
 |some (t,i,p)=>(t[i]?).bind fun x=>if t.length+x.kids.length≤4294967296 then some (0,p (t.take i++x.kids++t.drop (i+1))) else none
def insK (l:List Node) (c:Chg):Option (List Node):=
 if c.index<0∨c.count<0∨(l.length:Int)<c.index∨(l.length:Int)-c.index<c.count then none
 else some (l.take c.index.toNat++⟨c.kind,c.text,0,0,(l.drop c.index.toNat).take c.count.toNat⟩::l.drop (c.index.toNat+c.count.toNat))
def aF0 (ts:List Node) (c:Chg):Option (Int×List Node):=
 ((if c.node= -1 then some (some (ts,id)) else(m_at ts c.node).bind fun q=>match q with
  |none=>some none
  |some (t,i,p)=>(t[i]?).map fun x=>some (x.kids,fun ks=>p (t.set i (x.re ks))):Option (Option (List Node×(List Node→List Node))))).bind fun q=>match q with
 |none=>some (2,ts)
 |some (l,P)=>if l.length+1≤4294967296 then(match insK l c with
  |none=>some (2,ts)
  |some ks=>some (0,P ks)) else none
def fieldsB (c:Chg):Bool:=
 if c.op=0 then decide (c.index=0)&&decide (c.count=0)
 else if c.op=1 then decide (c.op=c.op)&&decide (c.node=c.node)&&decide (c.index=0)&&decide (c.count=0)&&decide (c.kind=0)&&decide (c.text=ByteArray.empty)
 else decide (c.op=2)
def oO (ts:List Node) (c:Chg):Option (Int×List Node):=
 if fieldsB c=true then
  if c.node< -1∨(c.node= -1∧c.op≠2) then some (2,ts)
  else if c.op=0 then aG3 ts c else if c.op=1 then aJ6 ts c else aF0 ts c
 else some (1,ts)
def chgs:List Node→List Chg→Option (List Node×Int)
 |ts,[]=>some (ts,0)
 |ts,c::cs=>(oO ts c).bind fun q=>if q.1=0 then chgs q.2 cs else some ([],q.1)
def aE4 (l:List Chg) (p:Nat×List Node):Option (Step (Nat×List Node) Unit):=match l[p.1]? with
 |none=>some (.done ())
 |some c=>(oO p.2 c).map fun q=>if q.1=0 then .next (p.1+1,q.2) else .done ()
theorem chLoop (l:List Chg):∀(j i:Nat) (ts:List Node) (r:List Node×Int),l.length≤i+j→chgs ts (l.drop i)=some r→∃u,dV (aE4 l) (i,ts)=some u
 |0,i,ts,r,h,_=>⟨(),kC (by unfold aE4;simp only;rw[List.getElem?_eq_none (by omega)])⟩
 |j+1,i,ts,r,h,hr=>by
  cases hx:l[i]? with
  |none=>exact⟨(),kC (by unfold aE4;simp only;rw[hx])⟩
  |some c=>
   obtain⟨h3,h4⟩:=List.getElem?_eq_some_iff.1 hx
   rw[List.drop_eq_getElem_cons h3,h4,chgs] at hr
   obtain⟨q,hq,hr⟩:=Option.bind_eq_some_iff.1 hr
   by_cases h0:q.1=0
   ·rw[if_pos h0] at hr
    obtain⟨u,hu⟩:=chLoop l j (i+1) q.2 r (by omega) hr
    exact⟨u,by rw[wL (show aE4 l (i,ts)=some (.next (i+1,q.2)) by unfold aE4;simp only;rw[hx];simp only;rw[hq,Option.map_some,if_pos h0])];exact hu⟩
   exact⟨(),kC (by unfold aE4;simp only;rw[hx];simp only;rw[hq,Option.map_some,if_neg h0])⟩
def m_Apply (l:List Node) (cs:List Chg):Option (List Node×Int):=if qI l<4294967296∧cs.length<4294967296 then chgs l cs else none
noncomputable def oH (p0:(List Chg)) (p1:(List Chg)) (aP:Int):Option (Step Int (Out Unit Bool)):=
 if(decide (aP<(p0.length:Int)))=true then
  (idx p0 aP).bind fun x1=>
  (idx p1 aP).bind fun x2=>
  if(!((decide (x1.op=x2.op))&&(decide (x1.node=x2.node))&&(decide (x1.index=x2.index))&&(decide (x1.count=x2.count))&&(decide (x1.kind=x2.kind))&&(decide (x1.text=x2.text))))=true then
   some (.done (.ret false))
  else
   (inK .i64 (aP+1)).bind fun x3=>
   some (.next x3)
 else
  some (.done (.brk ()))
noncomputable def lS (p0:(List Chg)) (p1:(List Chg)):Option Bool:=
 if(!decide ((p0.length:Int)=(p1.length:Int)))=true then
  some false
 else
  (dV (fun s=>oH p0 p1 s) 0:Option (Out Unit Bool)).bind fun b1=>
  match b1 with
  | .brk b1s=>
   some true
  | .ret r=>some r
noncomputable def qZ:Option Bool:=
 (kE (ByteArray.mk #[97])).bind fun x1=>
 (kE (ByteArray.mk #[98])).bind fun x2=>
 (kE (ByteArray.mk #[99])).bind fun x3=>
 (nD (ByteArray.mk #[42]) x2 x3).bind fun x4=>
 (nD (ByteArray.mk #[43]) x1 x4).bind fun x5=>
 (kE (ByteArray.mk #[97])).bind fun x6=>
 (kE (ByteArray.mk #[99])).bind fun x7=>
 (nD (ByteArray.mk #[42]) x6 x7).bind fun x8=>
 (wY x5 x8 ([(Opn.mk 0 0),(Opn.mk 1 1),(Opn.mk 2 (-1)),(Opn.mk 3 (-1)),(Opn.mk 4 2)]:List Opn)).bind fun x9=>
 (rO x5 x8 ([(Opn.mk 0 0),(Opn.mk 1 1),(Opn.mk 2 (-1)),(Opn.mk 3 (-1)),(Opn.mk 4 2)]:List Opn)).bind fun x10=>
 (m_Apply ([x5]:List Node) x10.1).bind fun x11=>
 (Y4 x5 x8).bind fun x12=>
 (qC ([(Opn.mk 0 0),(Opn.mk 1 1),(Opn.mk 2 (-1)),(Opn.mk 3 (-1)),(Opn.mk 4 2)]:List Opn) 4).bind fun x13=>
 (qO x5 x8 ([(Opn.mk 0 0),(Opn.mk 1 1),(Opn.mk 2 (-1)),(Opn.mk 3 (-1)),(Opn.mk 4 2)]:List Opn)).bind fun x14=>
 ((if(((x14&&(decide (x9.2=0)))&&(decide (x9.1=3)))&&(decide (x10.2=0)))=true then
  (lS x10.1 ([(Chg.mk 0 0 0 0 29 (ByteArray.mk #[42])),(Chg.mk 1 3 0 0 0 ByteArray.empty),(Chg.mk 1 2 0 0 0 ByteArray.empty)]:List Chg)).bind fun x15=>
  some x15
 else
  some false):Option Bool).bind fun m1=>
 ((if(m1&&(decide (x11.2=0)))=true then
  (sJ x11.1 ([x8]:List Node)).bind fun x16=>
  some x16
 else
  some false):Option Bool).bind fun m2=>
 ((if((((m2&&(decide (x12.2=0)))&&(decide (0<(x12.1.length:Int))))&&x13.2)&&(decide (x13.1=2)))=true then
  (zB ([(Opn.mk 0 0),(Opn.mk 1 1),(Opn.mk 2 (-1)),(Opn.mk 3 (-1)),(Opn.mk 4 2)]:List Opn)).bind fun x17=>
  some (decide ((x17.length:Int)=5))
 else
  some false):Option Bool).bind fun m3=>
 ((if m3=true then
  (zB ([(Opn.mk 0 0),(Opn.mk 1 1),(Opn.mk 2 (-1)),(Opn.mk 3 (-1)),(Opn.mk 4 2)]:List Opn)).bind fun x18=>
  (I7 ([(Opn.mk 0 0),(Opn.mk 1 1),(Opn.mk 2 (-1)),(Opn.mk 3 (-1)),(Opn.mk 4 2)]:List Opn) x18).bind fun x19=>
  some (decide ((x19.length:Int)=7))
 else
  some false):Option Bool).bind fun m4=>
 some m4
noncomputable def kQ (p0:(List Span)) (p1:Node) (self:(List Span)→Node→Int→Option (List Span)) (aP:Int) (aU:(List Span)):Option (Step (Int×(List Span)) (List Span)):=
 if(decide (aP<(p1.kids.length:Int)))=true then
  (idx p1.kids aP).bind fun x2=>
  (self aU x2 (p0.length:Int)).bind fun x3=>
  (inK .i64 (aP+1)).bind fun x4=>
  some (.next (x4,x3))
 else
  some (.done aU)
noncomputable def nG (self:(List Span)→Node→Int→Option (List Span)) (p0:(List Span)) (p1:Node) (p2:Int):Option (List Span):=
 (app p0 [(Span.mk p1.kind p1.text 0 p2)]).bind fun x1=>
 (dV (fun s=>kQ p0 p1 self s.1 s.2) (0,x1):Option (List Span)).bind fun b3=>
 (idx b3 (p0.length:Int)).bind fun x5=>
 some (b3.set (p0.length:Int).toNat (Span.mk x5.kind x5.text (b3.length:Int) x5.parent))
noncomputable def jW:Nat→(List Span)→Node→Int→Option (List Span)
 |0=>fun _ _ _=>none
 |n+1=>nG (jW n)
noncomputable def vG (p0:(List Span)) (p1:Node) (p2:Int):Option (List Span):=jW (SizeOf.sizeOf p1+1) p0 p1 p2
noncomputable def gX (p0:Node):Option (List Span):=
 (vG ([]:List Span) p0 (-1)).bind fun x1=>
 some x1
noncomputable def kT (p2:(List Opn)) (x1:(List Span)) (x2:(List Span)) (aP:Int) (aU:Int) (dR:Int) (fQ:(List Bool)):Option (Step (Int×Int×Int×(List Bool)) (Out (Int×(List Bool)) Bool)):=
 if(decide (dR<(p2.length:Int)))=true then
  (idx p2 dR).bind fun x5=>
  if(decide (0≤x5.a))=true then
   if((((!decide (x5.a=dR))||(decide ((x1.length:Int)≤x5.a)))||(decide (x5.b<(-1))))||(decide ((x2.length:Int)≤x5.b)))=true then
    some (.done (.ret false))
   else
    (inK .i64 (aP+1)).bind fun x6=>
    if(decide (0≤x5.b))=true then
     (idx fQ x5.b).bind fun x7=>
     if x7=true then
      some (.done (.ret false))
     else
      (idx fQ x5.b).bind fun x8=>
      (inK .i64 (dR+1)).bind fun x9=>
      some (.next (x6,aU,x9,fQ.set x5.b.toNat true))
    else
     (inK .i64 (dR+1)).bind fun x10=>
     some (.next (x6,aU,x10,fQ))
  else
   if(((!decide (x5.a=(-1)))||(decide (x5.b≤aU)))||(decide ((x2.length:Int)≤x5.b)))=true then
    some (.done (.ret false))
   else
    if(decide (0≤x5.b))=true then
     (idx fQ x5.b).bind fun x11=>
     if x11=true then
      some (.done (.ret false))
     else
      (idx fQ x5.b).bind fun x12=>
      (inK .i64 (dR+1)).bind fun x13=>
      some (.next (aP,x5.b,x13,fQ.set x5.b.toNat true))
    else
     (inK .i64 (dR+1)).bind fun x14=>
     some (.next (aP,x5.b,x14,fQ))
 else
  some (.done (.brk (aP,fQ)))
noncomputable def kU (x2:(List Span)) (b3s:(Int×(List Bool))) (bJ:Int):Option (Step Int (Out Unit Bool)):=
 if(decide (bJ<(x2.length:Int)))=true then
  (idx b3s.2 bJ).bind fun x15=>
  if(!x15)=true then
   some (.done (.ret false))
  else
   (inK .i64 (bJ+1)).bind fun x16=>
   some (.next x16)
 else
  some (.done (.brk ()))
noncomputable def kV (p2:(List Opn)) (x1:(List Span)) (x2:(List Span)) (eQ:Int) (fJ:Int):Option (Step Int (Out Unit Bool)):=
 if(decide (fJ<(x1.length:Int)))=true then
  (idx p2 eQ).bind fun x18=>
  (idx p2 fJ).bind fun x19=>
  ((if((decide (0≤x18.b))&&(decide (0≤x19.b)))=true then
   ((if(decide (x19.b<x18.b))=true then
    some true
   else
    (idx x1 eQ).bind fun x20=>
    (idx x2 x18.b).bind fun x21=>
    some (!((decide (fJ<x20.last))==(decide (x19.b<x21.last))))):Option Bool).bind fun m2=>
   some m2
  else
   some false):Option Bool).bind fun m1=>
  if m1=true then
   some (.done (.ret false))
  else
   (inK .i64 (fJ+1)).bind fun x22=>
   some (.next x22)
 else
  some (.done (.brk ()))
noncomputable def iJ (p2:(List Opn)) (x1:(List Span)) (x2:(List Span)) (eQ:Int):Option (Step Int (Out Unit Bool)):=
 if(decide (eQ<(x1.length:Int)))=true then
  (inK .i64 (eQ+1)).bind fun x17=>
  (dV (fun s=>kV p2 x1 x2 eQ s) x17:Option (Out Unit Bool)).bind fun b13=>
  match b13 with
  | .brk b13s=>
   (inK .i64 (eQ+1)).bind fun x23=>
   some (.next x23)
  | .ret r=>some (.done (.ret r))
 else
  some (.done (.brk ()))
noncomputable def oJ (p0:Node) (p1:Node) (p2:(List Opn)):Option Bool:=
 (gX p0).bind fun x1=>
 (gX p1).bind fun x2=>
 (inK .i64 ((x1.length:Int)+(x2.length:Int))).bind fun x3=>
 if(decide (x3<(p2.length:Int)))=true then
  some false
 else
  (mkc (x2.length:Int) (x2.length:Int) (false:Bool)).bind fun x4=>
  (dV (fun s=>kT p2 x1 x2 s.1 s.2.1 s.2.2.1 s.2.2.2) (0,(-1),0,x4):Option (Out (Int×(List Bool)) Bool)).bind fun b3=>
  match b3 with
  | .brk b3s=>
   if(!decide (b3s.1=(x1.length:Int)))=true then
    some false
   else
    (dV (fun s=>kU x2 b3s s) 0:Option (Out Unit Bool)).bind fun b10=>
    match b10 with
    | .brk b10s=>
     (dV (fun s=>iJ p2 x1 x2 s) 0:Option (Out Unit Bool)).bind fun b12=>
     match b12 with
     | .brk b12s=>
      some true
     | .ret r=>some r
    | .ret r=>some r
  | .ret r=>some r
noncomputable def lT (p2:(List Opn)) (x1:(List Span)) (x2:(List Span)) (aP:Int) (aU:Int):Option (Step (Int×Int) Int):=
 if(decide (aU<(p2.length:Int)))=true then
  (idx p2 aU).bind fun x3=>
  ((if((decide (x3.a<0))||(decide (x3.b<0)))=true then
   some true
  else
   (idx x1 x3.a).bind fun x4=>
   (idx x2 x3.b).bind fun x5=>
   some (!decide (x4.kind=x5.kind))):Option Bool).bind fun m1=>
  ((if m1=true then
   some true
  else
   (idx x1 x3.a).bind fun x6=>
   (idx x2 x3.b).bind fun x7=>
   some (!decide (x6.text=x7.text))):Option Bool).bind fun m2=>
  if m2=true then
   (inK .i64 (aP+1)).bind fun x8=>
   (inK .i64 (aU+1)).bind fun x9=>
   some (.next (x8,x9))
  else
   (inK .i64 (aU+1)).bind fun x10=>
   some (.next (aP,x10))
 else
  some (.done aP)
noncomputable def pI (p0:Node) (p1:Node) (p2:(List Opn)):Option Int:=
 (gX p0).bind fun x1=>
 (gX p1).bind fun x2=>
 (dV (fun s=>lT p2 x1 x2 s.1 s.2) (0,0):Option Int).bind fun b3=>
 some b3
noncomputable def jU (p0:(List Opn)) (p1:Int) (aP:Int):Option (Step Int (Out Unit (Int×Bool))):=
 if(decide (aP<(p0.length:Int)))=true then
  (idx p0 aP).bind fun x1=>
  if((decide (x1.a=p1))&&(decide (0≤p1)))=true then
   (idx p0 aP).bind fun x2=>
   if(decide (x2.b<0))=true then
    some (.done (.ret (0,false)))
   else
    (idx p0 aP).bind fun x3=>
    some (.done (.ret (x3.b,true)))
  else
   (inK .i64 (aP+1)).bind fun x4=>
   some (.next x4)
 else
  some (.done (.brk ()))
noncomputable def mG (p0:(List Opn)) (p1:Int):Option (Int×Bool):=
 (dV (fun s=>jU p0 p1 s) 0:Option (Out Unit (Int×Bool))).bind fun b1=>
 match b1 with
 | .brk b1s=>
  some (0,false)
 | .ret r=>some r
noncomputable def gZ (p0:(List Span)) (p1:(List Bool)) (aP:Int):Option (Step Int Int):=
 ((if(decide (0≤aP))=true then
  (idx p1 aP).bind fun x2=>
  some (!x2)
 else
  some false):Option Bool).bind fun m1=>
 if m1=true then
  (idx p0 aP).bind fun x3=>
  some (.next x3.parent)
 else
  some (.done aP)
noncomputable def mJ (p0:(List Span)) (p1:(List Bool)) (p2:Int):Option Int:=
 (idx p0 p2).bind fun x1=>
 (dV (fun s=>gZ p0 p1 s) x1.parent:Option Int).bind fun b2=>
 some b2
noncomputable def mP (p2:(List Opn)) (x1:(List Span)) (x2:(List Span)) (aP:Int) (aU:(List Chg)):Option (Step (Int×(List Chg)) (List Chg)):=
 if(decide (aP<(x1.length:Int)))=true then
  (idx p2 aP).bind fun x3=>
  ((if(decide (0≤x3.b))=true then
   (idx x1 aP).bind fun x4=>
   (idx x2 x3.b).bind fun x5=>
   ((if(!decide (x4.kind=x5.kind))=true then
    some true
   else
    (idx x1 aP).bind fun x6=>
    (idx x2 x3.b).bind fun x7=>
    some (!decide (x6.text=x7.text))):Option Bool).bind fun m2=>
   some m2
  else
   some false):Option Bool).bind fun m1=>
  if m1=true then
   (idx x2 x3.b).bind fun x8=>
   (idx x2 x3.b).bind fun x9=>
   (app aU [(Chg.mk 0 aP 0 0 x8.kind x9.text)]).bind fun x10=>
   (inK .i64 (aP+1)).bind fun x11=>
   some (.next (x11,x10))
  else
   (inK .i64 (aP+1)).bind fun x12=>
   some (.next (x12,aU))
 else
  some (.done aU)
noncomputable def mQ (p2:(List Opn)) (bJ:Int) (dY:(List Chg)):Option (Step (Int×(List Chg)) (List Chg)):=
 if(decide (0≤bJ))=true then
  (idx p2 bJ).bind fun x14=>
  if(decide (x14.b<0))=true then
   (app dY [(Chg.mk 1 bJ 0 0 0 ByteArray.empty)]).bind fun x15=>
   (inK .i64 (bJ-1)).bind fun x16=>
   some (.next (x16,x15))
  else
   (inK .i64 (bJ-1)).bind fun x17=>
   some (.next (x17,dY))
 else
  some (.done dY)
noncomputable def jS (p2:(List Opn)) (x1:(List Span)) (eQ:Int) (uG:(List Bool)):Option (Step (Int×(List Bool)) (List Bool)):=
 if(decide (eQ<(x1.length:Int)))=true then
  (idx p2 eQ).bind fun x19=>
  if(decide (0≤x19.b))=true then
   (idx p2 eQ).bind fun x20=>
   (idx uG x20.b).bind fun x21=>
   (inK .i64 (eQ+1)).bind fun x22=>
   some (.next (x22,uG.set x20.b.toNat true))
  else
   (inK .i64 (eQ+1)).bind fun x23=>
   some (.next (x23,uG))
 else
  some (.done uG)
noncomputable def jT (x2:(List Span)) (fJ:Int) (iY:(List Bool)) (j2:Int) (xG:Int) (Q7:Int) (lp5_2:Int):Option (Step (Int×Int×Int) (Int×Int)):=
 if(decide (xG<j2))=true then
  (idx iY xG).bind fun x33=>
  ((if x33=true then
   (mJ x2 iY xG).bind fun x34=>
   (idx x2 fJ).bind fun x35=>
   some (decide (x34=x35.parent))
  else
   some false):Option Bool).bind fun m3=>
  if m3=true then
   if(decide (xG<fJ))=true then
    (inK .i64 (Q7+1)).bind fun x36=>
    (inK .i64 (xG+1)).bind fun x37=>
    some (.next (x37,x36,lp5_2))
   else
    (idx x2 fJ).bind fun x38=>
    if(decide (xG<x38.last))=true then
     (inK .i64 (lp5_2+1)).bind fun x39=>
     (inK .i64 (xG+1)).bind fun x40=>
     some (.next (x40,Q7,x39))
    else
     (inK .i64 (xG+1)).bind fun x41=>
     some (.next (x41,Q7,lp5_2))
  else
   (inK .i64 (xG+1)).bind fun x42=>
   some (.next (x42,Q7,lp5_2))
 else
  some (.done (Q7,lp5_2))
noncomputable def mV (x2:(List Span)) (fJ:Int) (iY:(List Bool)) (xE:(List Chg)):Option (Step (Int×(List Bool)×(List Chg)) ((List Bool)×(List Chg))):=
 if(decide (fJ<(x2.length:Int)))=true then
  (((idx iY fJ).bind fun x24=>
  if x24=true then
   some (iY,xE)
  else
   (idx x2 fJ).bind fun x25=>
   (idx x2 fJ).bind fun x26=>
   (idx x2 fJ).bind fun x27=>
   (idx x2 fJ).bind fun x28=>
   ((if(decide (0≤x28.parent))=true then
    (idx x2 fJ).bind fun x29=>
    (idx x2 x29.parent).bind fun x30=>
    some x30.last
   else
    some (x2.length:Int)):Option Int).bind fun j2=>
   (idx x2 fJ).bind fun x31=>
   (inK .i64 (x31.parent+1)).bind fun x32=>
   (dV (fun s=>jT x2 fJ iY j2 s.1 s.2.1 s.2.2) (x32,0,0):Option (Int×Int)).bind fun b37=>
   (idx iY fJ).bind fun x43=>
   (app xE [(Chg.mk 2 x25.parent b37.1 b37.2 x26.kind x27.text)]).bind fun x44=>
   some (iY.set fJ.toNat true,x44)):Option ((List Bool)×(List Chg))).bind fun j1=>
  (inK .i64 (fJ+1)).bind fun x45=>
  some (.next (x45,j1.1,j1.2))
 else
  some (.done (iY,xE))
noncomputable def mF (p0:Node) (p1:Node) (p2:(List Opn)):Option (List Chg):=
 (gX p0).bind fun x1=>
 (gX p1).bind fun x2=>
 (dV (fun s=>mP p2 x1 x2 s.1 s.2) (0,([]:List Chg)):Option (List Chg)).bind fun b4=>
 (inK .i64 ((x1.length:Int)-1)).bind fun x13=>
 (dV (fun s=>mQ p2 s.1 s.2) (x13,b4):Option (List Chg)).bind fun b16=>
 (mkc (x2.length:Int) (x2.length:Int) (false:Bool)).bind fun x18=>
 (dV (fun s=>jS p2 x1 s.1 s.2) (0,x18):Option (List Bool)).bind fun b19=>
 (dV (fun s=>mV x2 s.1 s.2.1 s.2.2) (0,b19,b16):Option ((List Bool)×(List Chg))).bind fun b23=>
 some b23.2
noncomputable def oG (p0:Node) (p1:Node) (p2:(List Opn)) (p3:Int):Option Bool:=
 (qZ).bind fun x1=>
 if(!x1)=true then
  some false
 else
  (qH p0 p1 15).bind fun x2=>
  if((!x2)||(decide (40<(p2.length:Int))))=true then
   some true
  else
   (oJ p0 p1 p2).bind fun x3=>
   (qC p2 p3).bind fun x4=>
   (mG p2 p3).bind fun x5=>
   (wY p0 p1 p2).bind fun x6=>
   (rO p0 p1 p2).bind fun x7=>
   (qO p0 p1 p2).bind fun x8=>
   if(((!(x8==x3))||(!decide (x4.1=x5.1)))||(!(x4.2==x5.2)))=true then
    some false
   else
    if(!x3)=true then
     some ((((decide (x6.1=0))&&(decide (x6.2=1)))&&(decide ((x7.1.length:Int)=0)))&&(decide (x7.2=1)))
    else
     ((if(decide (x6.2=0))=true then
      (pI p0 p1 p2).bind fun x9=>
      some (decide (x6.1=x9))
     else
      some false):Option Bool).bind fun m1=>
     ((if(m1&&(decide (x7.2=0)))=true then
      (mF p0 p1 p2).bind fun x10=>
      (lS x7.1 x10).bind fun x11=>
      some x11
     else
      some false):Option Bool).bind fun m2=>
     some m2
class Rep1 (α:Type) [Rep α]:Prop where
 one:∀{ρ:PH} {a:α} {cs:List Value},Rep.ok ρ a cs→∀v∈cs,v.oneCell'=true
 pos:0<Rep.sz α
def qG {α:Type} [Rep α] (T:TypeId) (v:Value) (l:List α) (xs:List Value):bK:=Row T (Rep.sz α) v l.length xs
section
variable {α:Type} [Rep α] {ρ ρ':PH} {l m:List α} {xs ys:List Value}
theorem fV.nil:fV ρ ([]:List α) []:=rfl
theorem fV.mono (h:ρ.le ρ'):∀{l:List α} {xs:List Value},fV ρ l xs→fV ρ' l xs
 | [],_,e=>e
 |a::l,_,⟨c,r,e,hc,hr⟩=>⟨c,r,e,Rep.mono h hc,fV.mono h hr⟩
theorem fV.len:∀{l:List α} {xs:List Value},fV ρ l xs→xs.length=l.length*Rep.sz α
 | [],_,e=>by rw[e];simp
 |a::l,_,⟨c,r,e,hc,hr⟩=>by
  rw[e,List.length_append,Rep.len hc,fV.len hr,List.length_cons,Nat.add_mul];omega
theorem fV.app:∀{l:List α} {xs:List Value},fV ρ l xs→fV ρ m ys→fV ρ (l++m) (xs++ys)
 | [],_,e,h=>by rw[e];exact h
 |a::l,_,⟨c,r,e,hc,hr⟩,h=>⟨c,r++ys,by rw[e,List.append_assoc],hc,fV.app hr h⟩
theorem fV.one1 [Rep1 α]:∀{l:List α} {xs:List Value},fV ρ l xs→∀v∈xs,v.oneCell'=true
 | [],_,e,v,hv=>by rw[e] at hv;simp at hv
 |a::l,_,⟨c,r,e,hc,hr⟩,v,hv=>by
  rw[e,List.mem_append] at hv
  rcases hv with hv|hv
  ·exact Rep1.one hc v hv
  exact fV.one1 hr v hv
theorem fV.set:∀{l:List α} {xs:List Value} (i:Nat) {a:α} {cs:List Value},fV ρ l xs→i<l.length→Rep.ok ρ a cs→fV ρ (l.set i a) (xs.take (i*Rep.sz α)++cs++xs.drop ((i+1)*Rep.sz α))
 |b::l,_,0,a,cs,⟨c,r,e,hc,hr⟩,_,ha=>by
  rw[e,Nat.zero_mul,List.take_zero,List.nil_append,Nat.zero_add,Nat.one_mul,←Rep.len hc,List.drop_left,List.set_cons_zero]
  exact⟨cs,r,rfl,ha,hr⟩
 |b::l,_,i+1,a,cs,⟨c,r,e,hc,hr⟩,hi,ha=>by
  have:=fV.set i hr (by simpa using hi) ha
  have hl:=Rep.len hc
  rw[e,List.set_cons_succ,Nat.add_mul,Nat.one_mul,show i*Rep.sz α+Rep.sz α=c.length+i*Rep.sz α by omega,List.take_append,List.take_of_length_le (by omega),Nat.add_sub_cancel_left,
   show(i+1+1)*Rep.sz α=c.length+(i+1)*Rep.sz α by rw[Nat.add_mul (i+1)];omega,List.drop_append,List.drop_of_length_le (by omega),List.nil_append,Nat.add_sub_cancel_left]
  exact⟨c,_,by simp only[List.append_assoc],hc,this⟩
end
section
variable {α:Type} [Rep α] {Rn:Option Nat} {P:Program} {Z:World} {ρ:PH} {L:List bK} {w:World} {T El:TypeId} {v:Value} {l:List α} {xs:List Value}
theorem qG.nil (T:TypeId):qG T (.slice none 0 0) ([]:List α) [] PH.emp:=Row.nil T _ none
theorem qG.len {sz bytes:Nat} (hp:Hp Z ρ L w) (k:Nat) (hk:L[k]?=some (qG El v l xs)) (ht:SlTy P T El sz bytes) (w':World) (ty:TypeId):(Builtin.len_ #[T] ty #[v]).run P w'= .ok (.int .i64 l.length) w':=by
 rcases(hp.get k hk).row.2 with⟨A,rfl,hn⟩|⟨g,off,cap,cur,rfl,_,_⟩
 ·rw[hn];exact qM ht A 0 0 w' ty
 exact qM ht _ _ cap w' ty
theorem qG.cells (hp:Hp Z ρ L w) (k:Nat) (hk:L[k]?=some (qG El v l xs)):v.cells= #[v]:=by
 rcases(hp.get k hk).row.2 with⟨A,rfl,_⟩|⟨g,off,cap,cur,rfl,_⟩<;>rfl
theorem qG.one (hp:Hp Z ρ L w) (k:Nat) (hk:L[k]?=some (qG El v l xs)):v.oneCell'=true:=by
 rcases(hp.get k hk).row.2 with⟨A,rfl,_⟩|⟨g,off,cap,cur,rfl,_⟩<;>rfl
theorem qG.ro {k:PH} (d:ρ.dj k) (h:qG T v l xs k) (hR:fV ρ l xs):aH (ρ.un k) v l:=by
 obtain⟨hxl,h⟩:=h
 rcases h with⟨A,rfl,hn⟩|⟨g,off,cap,cur,rfl,rfl,h1,h2,h3,h4⟩
 ·obtain rfl:=List.eq_nil_of_length_eq_zero hn
  exact⟨A,0,rfl,Nat.le_refl _,fun i a h=>by simp at h⟩
 refine⟨some ⟨g,off,none⟩,cap,rfl,h1,fun i a hi=>?_⟩
 obtain⟨c,hc,hg⟩:=hR.get i a hi
 refine⟨g,off,c,rfl,Rep.mono (PH.le_un _ _) hc,fun j u hj=>?_⟩
 have hb:(ρ.un (PH.one g (.cells cur T (0,0)))) g=some (.cells cur T (0,0)):=PH.le_un_r d g _ (by simp[PH.one])
 unfold cellAt
 rw[hb]
 simp only
 have hf:=hg j u hj
 rw[←h4,List.getElem?_take] at hf
 split at hf
 ·rw[List.getElem?_drop,←Nat.add_assoc] at hf
  rw[←Array.getElem?_toList]
  exact hf
 cases hf
theorem qG.at {bytes:Nat} (hp:Hp Z ρ L w) (k:Nat) (hk:L[k]?=some (qG El v l xs)) (hR:fV ρ l xs) (ht:SlTy P T El (Rep.sz α) bytes) {i:Int} {e:α} (hi:idx l i=some e):
  ∃g off cs,(∀w,(Instr.indexAt T v (.int .i64 i)).run P w= .ok (.pointer (some ⟨g,off,none⟩)) w)∧(∃of0 cap,v= .slice (some ⟨g,of0,none⟩) l.length cap∧off=of0+i.toNat*Rep.sz α)∧Rep.ok ρ e cs∧∀(j:Nat) (u:Value),cs[j]?=some u→∀ρ' L' w,Hp Z ρ' (qG El v l xs::L') w→w.cell? ⟨g,off+j,none⟩=some u:=by
 obtain⟨i0,i1,i2⟩:=pG hi
 rcases(hp.get k hk).row.2 with⟨_,_,hn⟩|⟨g,of0,cap,cur,rfl,_,_⟩
 ·omega
 obtain⟨c,hc,hg⟩:=hR.get i.toNat e i2
 refine⟨g,of0+i.toNat*Rep.sz α,c,fun w=>run_index ht g of0 _ cap i0 i1 w,⟨of0,cap,rfl,rfl⟩,hc,fun j u hj ρ' L' w' hw'=>?_⟩
 rcases hw'.row.2 with⟨A,hA,hn⟩|⟨g',of1,cap',cur',e2,hpt,h2,h3,h4,h5⟩
 ·omega
 simp only[Value.slice.injEq,Option.some.injEq,Addr.mk.injEq,and_true,true_and] at e2
 obtain⟨⟨rfl,rfl⟩,rfl⟩:=e2
 have hlook:=hpt.look 0 rfl
 have hf:=hg j u hj
 rw[←h5,List.getElem?_take] at hf
 split at hf
 ·rw[List.getElem?_drop,←Nat.add_assoc] at hf
  simp[World.cell?,hlook,←Array.getElem?_toList,hf]
 cases hf
end
section
variable {α:Type} [Rep α] {ρ:PH}
end
section
variable {α:Type} [Rep α] [Rep1 α] {Rn:Option Nat} {P:Program} {ops:Array Oper} {Q:Exit→Act→World→Prop} {rest:List Oper} {o:Oper} {a:Act} {w:World} {Df:List Deferred} {N:Nat} {E:Ent} {d:Nat} {Z:World} {ρ:PH} {L:List bK}
theorem s_appR (wk:Region.wanted o (yielded ops a.tmps)=true) (hd:o.dst=some d) (hN:Nat.blt d N=true) (hE:EnvD Df N E a) (hp:Hp Z ρ L w) {x y:Operand} {t:TypeId} (ho:o.op= .call {callee:= .builtin .append,args:= #[x,y],argTypes:= #[t,t] }) {El:TypeId} {bytes:Nat} (ht:SlTy P t El (Rep.sz α) bytes) (hby:Nat.ble bytes 16384=true)
  {v:Value} (hx:evo E x=some v) (i:Nat) {l:List α} {xs:List Value} (hi:L[i]?=some (qG El v l xs)) {b off m c:Nat} (hy:evo E y=some (.slice (some ⟨b,off,none⟩) m c)) {l2 r:List α} {ys:List Value} (hm:l2.length=m) (hR2:fV ρ l2 ys) (hn:∀j u,ys[j]?=some u→w.cell? ⟨b,off+j,none⟩=some u) (hr:app l l2=some r)
  (K:∀v' a w,EnvD Df N ((d,v')::E) a→Hp Z ρ (L.set i (qG El v' r (xs++ys))) w→wpL Rn P ops Q rest a w):wpL Rn P ops Q (o::rest) a w:=by
 obtain⟨hlen,rfl⟩:=O8 hr
 have hby':bytes≤16384:=by simpa using hby
 have hb2:(l.length+m)*bytes≤4294967296*16384:=Nat.mul_le_mul (by omega) hby'
 obtain⟨v',w',hrun,hp'⟩:=run_app (P:=P) ht Rep1.pos o.type (hp.get i hi) ⟨b,off,none⟩ m c ys (by rw[hR2.len,hm]) (fun j u hj=>by rw[Addr.add_lit];exact hn j u hj) hR2.one1 (by unfold maxLen;omega) (by omega)
 refine yR wk hd hN hE (v:=v') (w':=w') ?_ fun a' hE'=>K v' a' w' hE' ?_
 ·simp only[execOp,ho,resolve,invoke,builtin,Sem.run_bind,Sem.run_pure,Result.andThen_ok,List.map_toArray,List.map_cons,List.map_nil,hE.eval hx,hE.eval hy,hrun]
 refine Hp.put i (J6 (A:=qG El v l xs) (_B:=qG El v l xs) hi).2 ?_
 unfold qG
 rw[List.length_append,hm]
 exact hp'
theorem s_stelR (wk:Region.wanted o (yielded ops a.tmps)=true) (hd:o.dst=none) (hE:EnvD Df N E a) (hp:Hp Z ρ L w) {T:TypeId} {x y:Operand} (ho:o.op= .store T x y) {g off off':Nat} (hx:evo E x=some (.pointer (some ⟨g,off',none⟩))) {u:Value} (hy:evo E y=some u) (k:Nat) {El:TypeId} {v:Value} {l:List α} {xs:List Value} (hk:L[k]?=some (qG El v l xs))
  (hR:fV ρ l xs) {i:Int} {e e':α} (hi:idx l i=some e) (hv:∃of0 cap,v= .slice (some ⟨g,of0,none⟩) l.length cap∧off=of0+i.toNat*Rep.sz α) (j:Nat) {us cs:List Value} (ht:∀w,(sizeOf T).run P w= .ok us.length w) (hoff:off'=off+j) (hc:u.cells=us.toArray) (hcs:Rep.ok ρ e cs) (hgc:∀(q:Nat) (z:Value),cs[q]?=some z→w.cell? ⟨g,off+q,none⟩=some z)
  (hok:Rep.ok ρ e' (cs.take j++us++cs.drop (j+us.length))) (hju0:Nat.ble (j+us.length) (Rep.sz α)=true)
  (K:∀w xs',fV ρ (l.set i.toNat e') xs'→Hp Z ρ (L.set k (qG El v (l.set i.toNat e') xs')) w→wpL Rn P ops Q rest a w):wpL Rn P ops Q (o::rest) a w:=by
 subst hoff
 obtain⟨of0,cap,rfl,rfl⟩:=hv
 obtain⟨i0,i1,i2⟩:=pG hi
 have hlt:=(J6 (A:=qG El (.slice (some ⟨g,of0,none⟩) l.length cap) l xs) (_B:=qG El (.slice (some ⟨g,of0,none⟩) l.length cap) l xs) hk).2
 have hll:=hR.len
 have hcl:=Rep.len hcs
 have hkl:=Rep.len hok
 rw[List.length_append,List.length_append,List.length_take,List.length_drop] at hkl
 have hju:j+us.length≤Rep.sz α:=by simpa using hju0
 rcases(hp.get k hk).row.2 with⟨_,_,hn⟩|⟨g',of1,cap',cur,e2,hpt,h2,h3,h4,h5⟩
 ·omega
 simp only[Value.slice.injEq,Option.some.injEq,Addr.mk.injEq,and_true,true_and] at e2
 obtain⟨⟨rfl,rfl⟩,rfl⟩:=e2
 have hg:=hpt.look 0 rfl
 have hpos:(i.toNat+1)*Rep.sz α≤l.length*Rep.sz α:=Nat.mul_le_mul_right _ (by omega)
 have hle:l.length*Rep.sz α≤cap*Rep.sz α:=Nat.mul_le_mul_right _ h2
 rw[Nat.add_mul,Nat.one_mul] at hpos
 generalize hiz:i.toNat*Rep.sz α=iz at*
 have one1:∀z∈us,z.oneCell'=true:=fun z hz=>Rep1.one hok z (by simp[hz])
 have r1:=run_storeCells_at P g (of0+iz+j) El us 0 cur w hg (by omega) one1
 simp only[Nat.add_zero] at r1
 refine s_unit wk hd hE (w':=w.setRow g (cur.toList.take (of0+iz+j)++us++cur.toList.drop (of0+iz+j+us.length)).toArray) ?_ (K _ (xs.take iz++(cs.take j++us++cs.drop (j+us.length))++xs.drop (iz+Rep.sz α)) ?_ ?_)
 ·simp[execOp,ho,hE.eval hx,hE.eval hy,Instr.storeAt,Instr.sureAddr,storeVar,ht w,hc,r1]
 ·have:=hR.set i.toNat (a:=e') (by omega) hok
  rw[Nat.add_mul,Nat.one_mul,hiz] at this
  exact this
 have hseg:cs=(xs.drop iz).take (Rep.sz α):=by
  apply List.ext_getElem?
  intro q
  rcases Nat.lt_or_ge q (Rep.sz α) with hq|hq
  ·obtain⟨z,hz⟩:∃z,cs[q]?=some z:=⟨_,List.getElem?_eq_getElem (by omega)⟩
   have hz2:=hgc q z hz
   rw[hz,List.getElem?_take,if_pos hq,List.getElem?_drop,←h5,List.getElem?_take,if_pos (by omega),List.getElem?_drop,Array.getElem?_toList]
   simp only[World.cell?,hg] at hz2
   simp at hz2
   rw[show of0+(iz+q)=of0+iz+q by omega]
   exact hz2.symm
  rw[List.getElem?_eq_none (by omega),List.getElem?_take,if_neg (by omega)]
 refine Hp.put k hlt ?_
 have hq:=(Hp.set (w':=w.setRow g (cur.toList.take (of0+iz+j)++us++cur.toList.drop (of0+iz+j+us.length)).toArray) hpt rfl rfl rfl (setRow_heap w g cur _ El _ hg) (fun k hk=>setRow_other w g k _ hk)).shutO (off:=of0) (n:=l.length) (cap:=cap) (sz:=Rep.sz α) (xs:=xs.take iz++(cs.take j++us++cs.drop (j+us.length))++xs.drop (iz+Rep.sz α)) h2 h3 (by
   simp only[List.size_toArray,List.length_append,List.length_take,List.length_drop,Array.length_toList];omega) (by
   rw[List.toList_toArray]
   have hlenx:(xs.take iz++(cs.take j++us++cs.drop (j+us.length))++xs.drop (iz+Rep.sz α)).length=l.length*Rep.sz α:=by
    simp only[List.length_append,List.length_take,List.length_drop];omega
   apply List.ext_getElem?
   intro q
   rcases Nat.lt_or_ge q (l.length*Rep.sz α) with hq|hq
   ·have hx5:∀q,q<l.length*Rep.sz α→xs[q]?=cur.toList[of0+q]?:=fun q hq=>by
     rw[←h5,List.getElem?_take,if_pos hq,List.getElem?_drop]
    have hcq:∀q,q<Rep.sz α→cs[q]?=cur.toList[of0+iz+q]?:=fun q hq=>by
     rw[hseg,List.getElem?_take,if_pos hq,List.getElem?_drop,hx5 _ (by omega)]
     congr 1;omega
    rw[List.getElem?_take,if_pos hq,List.getElem?_drop]
    have t1:(cur.toList.take (of0+iz+j)).length=of0+iz+j:=by rw[List.length_take,Array.length_toList];omega
    have t2:(xs.take iz).length=iz:=by rw[List.length_take];omega
    have t3:(cs.take j).length=j:=by rw[List.length_take];omega
    have t4:(cs.take j++us++cs.drop (j+us.length)).length=Rep.sz α:=by simp only[List.length_append,List.length_take,List.length_drop];omega
    simp only[List.append_assoc] at t4⊢
    rcases Nat.lt_or_ge q iz with c1|c1
    ·rw[List.getElem?_append_left (by omega),List.getElem?_take,if_pos (by omega),List.getElem?_append_left (by omega),List.getElem?_take,if_pos c1,hx5 q hq]
    rw[List.getElem?_append_right (l₁:=xs.take iz) (by omega),t2]
    rcases Nat.lt_or_ge q (iz+j) with c2|c2
    ·rw[List.getElem?_append_left (by omega),List.getElem?_take,if_pos (by omega),List.getElem?_append_left (by omega),List.getElem?_take,if_pos (by omega),hcq _ (by omega)]
     congr 1;omega
    rw[List.getElem?_append_right (l₁:=cur.toList.take (of0+iz+j)) (by omega),t1,List.getElem?_append_right (l₁:=cs.take j) (by omega),t3]
    rcases Nat.lt_or_ge q (iz+j+us.length) with c3|c3
    ·rw[List.getElem?_append_left (by omega),List.getElem?_append_left (by omega)]
     congr 1;omega
    rw[List.getElem?_append_right (l₁:=us) (by omega),List.getElem?_append_right (l₁:=us) (by omega),List.getElem?_drop]
    rcases Nat.lt_or_ge q (iz+Rep.sz α) with c4|c4
    ·rw[List.getElem?_append_left (by rw[List.length_drop];omega),List.getElem?_drop,hcq _ (by omega)]
     congr 1;omega
    rw[List.getElem?_append_right (by rw[List.length_drop];omega),List.getElem?_drop,List.length_drop,hx5 _ (by omega)]
    congr 1;omega
   rw[List.getElem?_eq_none (by rw[List.length_take];omega),List.getElem?_eq_none (by rw[hlenx];exact hq)])
 unfold qG
 rw[List.length_set]
 exact hq
end
instance rep1Enc {α:Type} [Enc α]:Rep1 α:=⟨fun h v hv=>by
 have h':_=Enc.enc _:=h
 rw[h'] at hv;exact Enc.one _ v hv,Enc.pos⟩
instance rep1Node:Rep1 Node:=⟨fun{ρ a cs} h v hv=>by
 obtain⟨u,rfl,hu⟩:=NodeAt.opens (show NodeAt ρ a cs from h)
 have h1:=aH.one hu
 simp only[List.mem_cons,List.not_mem_nil,or_false] at hv
 rcases hv with rfl|rfl|rfl|rfl|rfl<;>first|rfl|exact h1,by decide⟩
open Vl (vl)
open Go.ChangeMaps (setBlock)
instance vlSl:Vl Sl:=⟨fun s=>s.v⟩
def mset {κ β:Type} [DecidableEq κ] (l:List (κ×β)) (k:κ) (v:β):List (κ×β):=if mhas l k then Y5 l k v else l
section
variable {κ β:Type} [DecidableEq κ]
theorem mhas_iff {l:List (κ×β)} {k:κ}:mhas l k=true↔k∈l.map (·.1):=by
 unfold mhas lM
 rw[Option.isSome_map,List.find?_isSome]
 simp
theorem mget_mem {l:List (κ×β)} (hn:(l.map (·.1)).Nodup) {k:κ} {v:β} (h:(k,v)∈l):lM l k=some v:=by
 obtain⟨j,hj⟩:=List.getElem?_of_mem h
 exact mget_at hn hj
theorem J8 {l:List (κ×β)} (hn:(l.map (·.1)).Nodup) {k:κ} {j:Nat} (h:(l.map (·.1))[j]?=some k):l.filter (fun p=> !decide (p.1=k))=l.eraseIdx j:=by
 induction l generalizing j with
 |nil=>simp at h
 |cons p l ih=>
  rw[List.map_cons,List.nodup_cons] at hn
  cases j with
  |zero=>
   simp at h
   rw[List.filter_cons_of_neg (by simp[h]),List.eraseIdx_cons_zero]
   refine List.filter_eq_self.2 fun q hq=>?_
   simp only[Bool.not_eq_true',decide_eq_false_iff_not]
   intro e
   exact hn.1 (by rw[h,←e];exact List.mem_map_of_mem hq)
  |succ j=>
   simp only[List.map_cons,List.getElem?_cons_succ] at h
   have hne:¬p.1=k:=fun e=>hn.1 (by rw[e];exact List.mem_of_getElem? h)
   rw[List.filter_cons_of_pos (by simp[hne]),ih hn.2 h];rfl
theorem filter_all {l:List (κ×β)} {k:κ} (h:k∉l.map (·.1)):l.filter (fun p=> !decide (p.1=k))=l:=by
 refine List.filter_eq_self.2 fun q hq=>?_
 simp only[Bool.not_eq_true',decide_eq_false_iff_not]
 intro e
 exact h (by rw[←e];exact List.mem_map_of_mem hq)
theorem aF1 {l:List (κ×β)} (hn:(l.map (·.1)).Nodup) {k:κ} {j:Nat} (h:(l.map (·.1))[j]?=some k):∃v,l[j]?=some (k,v)∧lM l k=some v:=by
 rw[List.getElem?_map] at h
 obtain⟨p,hp,rfl⟩:=Option.map_eq_some_iff.1 h
 exact⟨p.2,hp,mget_at hn hp⟩
theorem map_eraseIdx {γ δ:Type} (f:γ→δ) (l:List γ) (i:Nat):(l.eraseIdx i).map f=(l.map f).eraseIdx i:=map_erase f l i
theorem mput_keys_eq {l:List (κ×β)} {γ:Type} {m:List (κ×γ)} (h:l.map (·.1)=m.map (·.1)) (k:κ) (v:β) (u:γ):(Y5 l k v).map (·.1)=(Y5 m k u).map (·.1):=by
 rw[N8,N8,h]
theorem mput_nodup {l:List (κ×β)} (h:(l.map (·.1)).Nodup) (k:κ) (v:β):((Y5 l k v).map (·.1)).Nodup:=by
 rw[N8]
 split
 ·exact h
 rename_i hk
 rw[List.nodup_append]
 refine⟨h,by simp,fun a ha b hb=>?_⟩
 rw[List.mem_singleton.1 hb]
 intro e;exact hk (e▸ha)
end
section
variable {κ α:Type} [DecidableEq κ] [Enc α]
def RowsM (Ti:TypeId) (us:List (κ×Sl)) (l:List (κ×List α)):bK:=fun h=>gY Ti (us.map Prod.snd) (l.map Prod.snd) h∧us.map (·.1)=l.map (·.1)∧(us.map (·.1)).Nodup
def RowsX (Ti:TypeId) (us:List (κ×Sl)) (l:List (κ×List α)) (k:κ):bK:=fun h=>gY Ti ((us.filter fun p=> !decide (p.1=k)).map Prod.snd) ((l.filter fun p=> !decide (p.1=k)).map Prod.snd) h∧us.map (·.1)=l.map (·.1)∧(us.map (·.1)).Nodup
omit [DecidableEq κ] in
theorem RowsM.nil (Ti:TypeId):RowsM Ti ([]:List (κ×Sl)) ([]:List (κ×List α)) PH.emp:=⟨rfl,rfl,by simp⟩
def aD7 (ρ:PH) (us:List (κ×Sl)) (l:List (κ×List α)):Prop:=us.map (·.1)=l.map (·.1)∧(us.map (·.1)).Nodup∧∀k,aH ρ ((lM us k).getD Sl.nil).v ((lM l k).getD [])
variable {Z:World} {ρ:PH} {L:List bK} {w:World} {Ti:TypeId} {us:List (κ×Sl)} {l:List (κ×List α)} {k:κ} {v:Value}
omit [DecidableEq κ] in
theorem RowsM.keys (h:Hp Z ρ (RowsM Ti us l::L) w):us.map (·.1)=l.map (·.1):=(Hp.fact (A:=gY Ti (us.map Prod.snd) (l.map Prod.snd)) h).2.1
omit [DecidableEq κ] [Enc α] in
theorem Hp.addFact {A:bK} {p:Prop} (h:Hp Z ρ (A::L) w) (hp:p):Hp Z ρ ((fun k=>A k∧p)::L) w:=h.imp fun _ a=>⟨a,hp⟩
theorem RowsM.take (h:Hp Z ρ (RowsM Ti us l::L) w) (k:κ):Hp Z ρ (aC Ti ((lM us k).getD Sl.nil).v ((lM l k).getD [])::RowsX Ti us l k::L) w:=by
 obtain⟨hr,hk,hn⟩:=Hp.fact (A:=gY Ti (us.map Prod.snd) (l.map Prod.snd)) h
 have hn2:(l.map (·.1)).Nodup:=hk▸hn
 have done:Hp Z ρ (aC Ti ((lM us k).getD Sl.nil).v ((lM l k).getD [])::gY Ti ((us.filter fun p=> !decide (p.1=k)).map Prod.snd) ((l.filter fun p=> !decide (p.1=k)).map Prod.snd)::L) w:=by
  by_cases hm:k∈us.map (·.1)
  ·obtain⟨j,hj⟩:=List.getElem?_of_mem hm
   obtain⟨u,hu,hu2⟩:=aF1 hn hj
   have hj2:(l.map (·.1))[j]?=some k:=hk▸hj
   obtain⟨r,hr1,hr2⟩:=aF1 hn2 hj2
   rw[hu2,hr2,J8 hn hj,J8 hn2 hj2,map_eraseIdx,map_eraseIdx]
   exact hr.to fun s=>(gY.take j (by rw[List.getElem?_map,hu];rfl) (by rw[List.getElem?_map,hr1];rfl)).1 s
  rw[aB0 hm,aB0 (hk▸hm),filter_all hm,filter_all (hk▸hm)]
  exact hr.emp (aC.nil Ti)
 exact(((done.get 1 rfl).addFact ⟨hk,hn⟩).get 1 rfl)
theorem RowsX.put {s:Sl} {v:Value} (he:s.v=v) {r:List α} (h:Hp Z ρ (aC Ti v r::RowsX Ti us l k::L) w):Hp Z ρ (RowsM Ti (Y5 us k s) (Y5 l k r)::L) w:=by
 subst he
 obtain⟨h1,hk,hn⟩:=Hp.fact (A:=gY Ti ((us.filter fun p=> !decide (p.1=k)).map Prod.snd) ((l.filter fun p=> !decide (p.1=k)).map Prod.snd)) (h.get 1 rfl)
 have hr:=h1.get 1 rfl
 have hn2:(l.map (·.1)).Nodup:=hk▸hn
 refine Hp.addFact ?_ ⟨mput_keys_eq hk k s r,mput_nodup hn k s⟩
 by_cases hm:k∈us.map (·.1)
 ·obtain⟨j,hj⟩:=List.getElem?_of_mem hm
  have hj2:(l.map (·.1))[j]?=some k:=hk▸hj
  have hl1:=(List.getElem?_eq_some_iff.1 hj).1
  have hl2:=(List.getElem?_eq_some_iff.1 hj2).1
  rw[List.length_map] at hl1 hl2
  rw[mput_at hn hj,mput_at hn2 hj2]
  rw[J8 hn hj,J8 hn2 hj2,map_eraseIdx,map_eraseIdx] at hr
  refine hr.to fun t=>(gY.take j (u:=s) (r:=r) (by rw[List.map_set,List.getElem?_set_self (by simpa using hl1)]) (by rw[List.map_set,List.getElem?_set_self (by simpa using hl2)])).2 ?_
  rw[List.map_set,List.map_set,List.eraseIdx_set_eq,List.eraseIdx_set_eq]
  exact t
 rw[mput_new hm,mput_new (hk▸hm),List.map_append,List.map_append]
 rw[filter_all hm,filter_all (hk▸hm)] at hr
 exact hr.to fun t=>gY.snoc t
theorem RowsX.back {v:Value} (he:((lM us k).getD Sl.nil).v=v) {r:List α} (h:Hp Z ρ (aC Ti v r::RowsX Ti us l k::L) w):Hp Z ρ (RowsM Ti us (mset l k r)::L) w:=by
 subst he
 obtain⟨h1,hk,hn⟩:=Hp.fact (A:=gY Ti ((us.filter fun p=> !decide (p.1=k)).map Prod.snd) ((l.filter fun p=> !decide (p.1=k)).map Prod.snd)) (h.get 1 rfl)
 have hr:=h1.get 1 rfl
 have hn2:(l.map (·.1)).Nodup:=hk▸hn
 unfold mset
 by_cases hm:k∈us.map (·.1)
 ·rw[if_pos (mhas_iff.2 (hk▸hm))]
  refine Hp.addFact ?_ ⟨by rw[N8,if_pos (hk▸hm)];exact hk,hn⟩
  obtain⟨j,hj⟩:=List.getElem?_of_mem hm
  have hj2:(l.map (·.1))[j]?=some k:=hk▸hj
  obtain⟨u,hu,hu2⟩:=aF1 hn hj
  have hl2:=(List.getElem?_eq_some_iff.1 hj2).1
  rw[List.length_map] at hl2
  rw[mput_at hn2 hj2]
  rw[hu2,J8 hn hj,J8 hn2 hj2,map_eraseIdx,map_eraseIdx] at hr
  refine hr.to fun t=>(gY.take j (u:=u) (r:=r) (by rw[List.getElem?_map,hu];rfl) (by rw[List.map_set,List.getElem?_set_self (by simpa using hl2)])).2 ?_
  rw[List.map_set,List.eraseIdx_set_eq]
  exact t
 rw[if_neg (fun h=>hm (hk▸mhas_iff.1 h))]
 refine Hp.addFact ?_ ⟨hk,hn⟩
 rw[filter_all hm,filter_all (hk▸hm)] at hr
 exact hr.drop
theorem RowsM.ro {h:PH} (d:ρ.dj h) (a:RowsM Ti us l h):aD7 (ρ.un h) us l:=by
 obtain⟨hr,hk,hn⟩:=a
 have hn2:(l.map (·.1)).Nodup:=hk▸hn
 refine⟨hk,hn,fun k=>?_⟩
 by_cases hm:k∈us.map (·.1)
 ·obtain⟨j,hj⟩:=List.getElem?_of_mem hm
  obtain⟨u,hu,hu2⟩:=aF1 hn hj
  obtain⟨r,hr1,hr2⟩:=aF1 hn2 (hk▸hj:(l.map (·.1))[j]?=some k)
  rw[hu2,hr2]
  obtain⟨k',h4,h5⟩:=gY.at_ j hr (by rw[List.getElem?_map,hu];rfl) (by rw[List.getElem?_map,hr1];rfl)
  have h6:aH (PH.emp.un k') u.v r:=aC.ro (PH.dj_emp k').symm h4
  exact h6.mono (by
   have:PH.emp.un k'=k':=by funext x;rfl
   rw[this];exact h5.tr (PH.le_un_r d))
 rw[aB0 hm,aB0 (hk▸hm)]
 exact aH.nil _
theorem aD7.mono {ρ':PH} (h:aD7 ρ us l) (hl:ρ.le ρ'):aD7 ρ' us l:=⟨h.1,h.2.1,fun k=>(h.2.2 k).mono hl⟩
theorem aD7.get (h:aD7 ρ us l) (k:κ):∃v,((lM us k).getD Sl.nil).v=v∧aH ρ v ((lM l k).getD []):=⟨_,rfl,h.2.2 k⟩
theorem aD7.at_ (h:aD7 ρ us l) {u:Sl} (hm:(k,u)∈us):aH ρ (vl u) ((lM l k).getD []):=by
 have:=h.2.2 k
 rw[mget_mem h.2.1 hm] at this
 exact this
end
section
variable {Rn:Option Nat} {P:Program} {ops:Array Oper} {Q:Exit→Act→World→Prop} {rest:List Oper} {o:Oper} {a:Act} {w:World} {Df:List Deferred} {N:Nat} {E:Ent} {d:Nat} {Z:World} {ρ:PH} {L:List bK}
variable {κ β:Type} [Vl κ] [Vl β]
theorem MapIt.sub {b r:Nat} {l rem:List (κ×β)} {cur:Option (κ×β)} (h:Hp Z ρ (MapIt b r l rem cur::L) w):rem.Sublist l:=by
 obtain⟨es,clock,since,seen,last,_,_,_,_,_,_,h5,_⟩:=h.it
 exact h5
variable [DecidableEq κ]
end
section
variable {Rn:Option Nat} {P:Program} {ops:Array Oper} {Q:Exit→Act→World→Prop} {rest:List Oper} {o:Oper} {a:Act} {w:World} {Df:List Deferred} {N:Nat} {E:Ent} {d:Nat} {Z:World} {ρ:PH} {L:List bK} {C:World→Prop}
variable {α:Type} [Enc α] {T Ti To Tr:TypeId} {v:Value} {us:List Sl} {l:List (List α)} {bytes:Nat}
theorem ex_nil {x:Operand} (ho:o.op= .nilCheck x) (hE:EnvD Df N E a) {p:Addr} (hx:evo E x=some (.pointer (some p))):Ex P C a o (.pointer (some p)):=fun w _=>by
 simp[execOp,ho,hE.eval hx]
theorem gY.app:∀{us us2:List Sl} {l l2:List (List α)} {ρ h:PH} {L:List bK},Sep ρ (gY Ti us2 l2::gY Ti us l::L) h→Sep ρ (gY Ti (us++us2) (l++l2)::L) h
 | [],us2,[],l2,ρ,h,L,hs=>Sep.cons_mono (fun ρ h s=>Sep.emp1.1 s) hs
 | [],_,_::_,_,_,_,_,hs=>by obtain⟨_,_,_,k,a,_⟩:=hs;exact a.elim
 |_::_,_,[],_,_,_,_,hs=>by obtain⟨_,_,_,k,a,_⟩:=hs;exact a.elim
 |u::us,us2,r::l,l2,ρ,h,L,hs=>
  Sep.two.2 (Sep.cons_mono (fun ρ h s=>gY.app s) (Sep.swap (Sep.cons_mono (fun ρ h s=>Sep.two.1 s) hs) |> fun s=>Sep.cons_mono (fun ρ h s=>s) s))
end
section
variable {Rn:Option Nat} {P:Program} {fn:Func} {R:Ending→World→Prop} {a:Act} {w:World} {Df:List Deferred} {N:Nat} {E:Ent}
end
def RoFull {α:Type} [Rep α] (ρ:PH) (v:Value) (l:List α):Prop:=aH ρ v l∧∃A,v= .slice A l.length l.length
theorem RoFull.mono {α:Type} [Rep α] {ρ ρ':PH} {v:Value} {l:List α} (h:RoFull ρ v l) (hl:ρ.le ρ'):RoFull ρ' v l:=⟨h.1.mono hl,h.2⟩
section
variable {P:Program} {o:Oper} {a:Act} {C:World→Prop} {Df:List Deferred} {N:Nat} {E:Ent}
end
section
variable {α:Type} [Rep α] [Rep1 α] {Rn:Option Nat} {P:Program} {ops:Array Oper} {Q:Exit→Act→World→Prop} {rest:List Oper} {o:Oper} {a:Act} {w:World} {Df:List Deferred} {N:Nat} {E:Ent} {d:Nat} {Z:World} {ρ:PH} {L:List bK}
end
instance rep1List {α:Type} [Rep α]:Rep1 (List α):=⟨fun h v hv=>by
 obtain⟨u,rfl,h⟩:=h
 rw[List.mem_singleton.1 hv];exact h.one,Nat.one_pos⟩
section
variable {Rn:Option Nat} {P:Program} {ops:Array Oper} {Q:Exit→Act→World→Prop} {rest:List Oper} {o:Oper} {a:Act} {w:World} {Df:List Deferred} {N:Nat} {E:Ent} {d:Nat} {Z:World} {ρ:PH} {L:List bK}
variable {α:Type} [Enc α] {T El:TypeId} {bytes:Nat} {v:Value} {l r:List α}
theorem aC.view (hp:Hp Z ρ L w) (k:Nat) (hk:L[k]?=some (aC El v l)) (ht:SlTy P T El (Enc.sz α) bytes) (lo hi:Option (IntKind×Int)) {i j:Int} (hlo:i=match lo with|none=>0|some p=>p.2) (hhi:j=match hi with|none=>(l.length:Int)|some p=>p.2) (hr:sub l i j=some r):
  ∃v',∀w,(Instr.sliceAt T v (lo.map fun p=> .int p.1 p.2) (hi.map fun p=> .int p.1 p.2) none).run P w= .ok v' w:=by
 obtain⟨κ,ha,hd,_⟩:=(hp.get k hk).lend
 obtain⟨v',h,_⟩:=aH.part (aC.ro hd ha) ht lo hi hlo hhi hr
 exact⟨v',h⟩
omit [Enc α] in
theorem sl_det [Rep α] (w:World) {x y:Option Value} {v1 v2:Value} (h1:∀w,(Instr.sliceAt T v x y none).run P w= .ok v1 w) (h2:∀w,(Instr.sliceAt T v x y none).run P w= .ok v2 w) (h:aH ρ v1 l):aH ρ v2 l:=by
 have:=(h1 w).symm.trans (h2 w)
 injection this with e
 exact e▸h
theorem repAll_flat:∀(l:List α),fV ρ l (flat l)
 | []=>rfl
 |a::l=>⟨Enc.enc a,flat l,by simp[flat],rfl,repAll_flat l⟩
theorem repAll_eq:∀{l:List α} {xs:List Value},fV ρ l xs→xs=flat l
 | [],_,e=>e
 |a::l,_,⟨c,r,e,hc,hr⟩=>by
  have hc':c=Enc.enc a:=hc
  rw[e,hc',repAll_eq hr];simp[flat]
theorem D5 (wk:Region.wanted o (yielded ops a.tmps)=true) (hd:o.dst=none) (hE:EnvD Df N E a) (hp:Hp Z ρ L w) {x y:Operand} (ho:o.op= .store T x y) {g off:Nat} (hx:evo E x=some (.pointer (some ⟨g,off,none⟩))) {u:Value} (hy:evo E y=some u) (k:Nat) (hk:L[k]?=some (aC El v l))
  {i:Int} {e:α} (hi:idx l i=some e) (hv:∃of0 cap,v= .slice (some ⟨g,of0,none⟩) l.length cap∧off=of0+i.toNat*Enc.sz α) {e':α} (ht:∀w,(sizeOf T).run P w= .ok (Enc.enc e').length w) (hc:u.cells=(Enc.enc e').toArray) (hgc:∀(q:Nat) (z:Value),(Enc.enc e)[q]?=some z→w.cell? ⟨g,off+q,none⟩=some z)
  (K:∀w,Hp Z ρ (L.set k (aC El v (l.set i.toNat e'))) w→wpL Rn P ops Q rest a w):wpL Rn P ops Q (o::rest) a w:=by
 have h1:=Enc.len e'
 have h2:=Enc.len e
 refine s_stelR wk hd hE hp ho hx hy k (xs:=flat l) hk (repAll_flat l) hi hv 0 ht rfl hc (cs:=Enc.enc e) (e':=e') rfl hgc ?_ ?_ fun w xs' hR hw=>K w ?_
 ·show _=Enc.enc e'
  rw[List.take_zero,List.nil_append,Nat.zero_add,List.drop_of_length_le (by omega),List.append_nil]
 ·show Nat.ble (0+(Enc.enc e').length) (Enc.sz α)=true
  rw[Nat.ble_eq];omega
 rw[repAll_eq hR] at hw
 exact hw
omit [Enc α] in
theorem s_unitV (wk:Region.wanted o (yielded ops a.tmps)=true) (hd:o.dst=none) (hE:EnvD Df N E a) {u:Value} {w':World} (hx:(execOp a.eval o).run P w= .ok (.value u) w') (K:wpL Rn P ops Q rest a w'):wpL Rn P ops Q (o::rest) a w:=
 l_value wk hx (by rw[hd];exact K)
end
end Go.Proofs.YtopnldfjcciieaaGreat

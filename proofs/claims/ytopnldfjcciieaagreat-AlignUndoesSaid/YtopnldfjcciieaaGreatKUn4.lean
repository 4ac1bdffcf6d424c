/- Models of: assessor/distance.subtrees, assessor/distance.Subtrees. (Printed by wip/sp/gen.py.) -/
import Derived.Test.YtopnldfjcciieaaGreatKUn3
import Derived.Test.YtopnldfjcciieaaGreatKUn2
set_option linter.unusedVariables false
set_option linter.unusedSimpArgs false
namespace Go.Proofs.YtopnldfjcciieaaGreat
open Go.RowKit
noncomputable def wX (x1:DFlat) (x2:DFlat) (x6:Int) (x7:(List Int)) (bK:Int) (dR:(List (List Int))):Option (Step (Int×(List (List Int))) (List (List Int))):=
 if(decide (bK<(x7.length:Int)))=true then
  (idx x7 bK).bind fun x8=>
  (vS x6 x8 x1 x2 dR).bind fun x9=>
  (inK .i64 (bK+1)).bind fun x10=>
  some (.next (x10,x9))
 else
  some (.done dR)
noncomputable def wW (x1:DFlat) (x2:DFlat) (x5:(List Int)) (aQ:Int) (aT:(List (List Int))):Option (Step (Int×(List (List Int))) (List (List Int))):=
 if(decide (aQ<(x5.length:Int)))=true then
  (idx x5 aQ).bind fun x6=>
  (pX x2).bind fun x7=>
  (eH (fun s=>wX x1 x2 x6 x7 s.1 s.2) (0,aT):Option (List (List Int))).bind fun b28=>
  (inK .i64 (aQ+1)).bind fun x11=>
  some (.next (x11,b28))
 else
  some (.done aT)
noncomputable def wZ (x1:DFlat) (x2:DFlat) (fK:Int) (x13:(List Int)) (mJ:Int) (nR:(List (List Int))):Option (Step (Int×(List (List Int))) (List (List Int))):=
 if(decide (mJ<(x13.length:Int)))=true then
  (idx x13 mJ).bind fun x14=>
  (idx x1.numbers fK).bind fun x15=>
  (idx nR x15).bind fun x16=>
  (idx x2.numbers mJ).bind fun x17=>
  (idx x16 x17).bind fun x18=>
  (inK .i64 (mJ+1)).bind fun x19=>
  some (.next (x19,nR.set x15.toNat (x16.set x17.toNat x14)))
 else
  some (.done nR)
noncomputable def wY (x1:DFlat) (x2:DFlat) (b26:(List (List Int))) (fK:Int) (nZ:(List (List Int))):Option (Step (Int×(List (List Int))) (List (List Int))):=
 if(decide (fK<(b26.length:Int)))=true then
  (idx b26 fK).bind fun x13=>
  (eH (fun s=>wZ x1 x2 fK x13 s.1 s.2) (0,nZ):Option (List (List Int))).bind fun b32=>
  (inK .i64 (fK+1)).bind fun x20=>
  some (.next (x20,b32))
 else
  some (.done nZ)
noncomputable def vT (p0:Node) (p1:Node):Option (List (List Int)):=
 (sQ p0).bind fun x1=>
 (sQ p1).bind fun x2=>
 (rM (x1.labels.length:Int) (x2.labels.length:Int)).bind fun x3=>
 (xP x1 x2 x3).bind fun x4=>
 (pX x1).bind fun x5=>
 (eH (fun s=>wW x1 x2 x5 s.1 s.2) (0,x4):Option (List (List Int))).bind fun b26=>
 (rM (x1.labels.length:Int) (x2.labels.length:Int)).bind fun x12=>
 (eH (fun s=>wY x1 x2 b26 s.1 s.2) (0,x12):Option (List (List Int))).bind fun b30=>
 some b30
noncomputable def vP (p0:Node) (p1:Node):Option ((List (List Int))×Int):=
 (yE ([p0,p1]:List Node)).bind fun x1=>
 if x1=true then
  some ([],8)
 else
  (vT p0 p1).bind fun x2=>
  some (x2,0)
noncomputable def Z8 (p0:Int) (p1:Int):Option (Int×Int):=
 (shrK .u64 p0 32).bind fun x1=>
 (shrK .u64 p1 32).bind fun x2=>
 (shrK .u64 (IntKind.wrap .u64 ((andK .u64 p0 4294967295)*(andK .u64 p1 4294967295))) 32).bind fun x3=>
 (shrK .u64 (IntKind.wrap .u64 ((IntKind.wrap .u64 (x1*(andK .u64 p1 4294967295)))+x3)) 32).bind fun x4=>
 (shrK .u64 (IntKind.wrap .u64 ((andK .u64 (IntKind.wrap .u64 ((IntKind.wrap .u64 (x1*(andK .u64 p1 4294967295)))+x3)) 4294967295)+(IntKind.wrap .u64 ((andK .u64 p0 4294967295)*x2)))) 32).bind fun x5=>
 some (IntKind.wrap .u64 ((IntKind.wrap .u64 ((IntKind.wrap .u64 (x1*x2))+x4))+x5),IntKind.wrap .u64 (p0*p1))
noncomputable def aE7 (p0:Int) (p1:Int):Option (Int×Int):=
 (Z8 p0 p1).bind fun x1=>
 some (x1.1,x1.2)
noncomputable def sW (aQ:Int) (aT:(List Int)):Option (Step (Int×(List Int)) (List Int)):=
 if(decide (aQ<(aT.length:Int)))=true then
  (sub aT aQ (aT.length:Int)).bind fun x4=>
  (sub aT 0 aQ).bind fun x5=>
  (inK .i64 (aQ+((min x5.length x4.length:Nat):Int))).bind fun x6=>
  some (.next (x6,aT.take aQ.toNat++cpy x4 x5))
 else
  some (.done aT)
noncomputable def nM (p0:(List Int)) (p1:Int):Option (List Int):=
 ((if(decide (p1<0))=true then
  none
 else
  some ()):Option Unit).bind fun j1=>
 (aE7 (IntKind.wrap .u64 (p0.length:Int)) (IntKind.wrap .u64 p1)).bind fun x1=>
 ((if((decide (0<x1.1))||(decide (9223372036854775807<x1.2)))=true then
  none
 else
  some ()):Option Unit).bind fun j2=>
 (inK .i64 x1.2).bind fun x2=>
 (mkc x2 x2 (0:Int)).bind fun x3=>
 (eH (fun s=>sW s.1 s.2) (((min p0.length x3.length:Nat):Int),cpy x3 p0):Option (List Int)).bind fun b1=>
 some b1
noncomputable def P8 (x10:Alg) (aQ:Int) (aT:(List Opn)):Option (Step (Int×(List Opn)) (List Opn)):=
 if(decide (aQ<(x10.partner.length:Int)))=true then
  (idx x10.partner aQ).bind fun x11=>
  (app aT [(Opn.mk aQ x11)]).bind fun x12=>
  (inK .i64 (aQ+1)).bind fun x13=>
  some (.next (x13,x12))
 else
  some (.done aT)
noncomputable def P9 (x10:Alg) (bK:Int) (dR:(List Opn)):Option (Step (Int×(List Opn)) (List Opn)):=
 if(decide (bK<(x10.back.length:Int)))=true then
  (idx x10.back bK).bind fun x14=>
  if(decide (x14<0))=true then
   (app dR [(Opn.mk (-1) bK)]).bind fun x15=>
   (inK .i64 (bK+1)).bind fun x16=>
   some (.next (x16,x15))
  else
   (inK .i64 (bK+1)).bind fun x17=>
   some (.next (x17,dR))
 else
  some (.done dR)
noncomputable def U1 (p0:Node) (p1:Node):Option ((List Opn)×Int):=
 (vP p0 p1).bind fun x1=>
 if(!decide (x1.2=0))=true then
  some ([],x1.2)
 else
  (kU p0).bind fun x2=>
  (kU p1).bind fun x3=>
  (pU x2).bind fun x4=>
  (pU x3).bind fun x5=>
  (nM ([(-1)]:List Int) (x2.nodes.length:Int)).bind fun x6=>
  (nM ([(-1)]:List Int) (x3.nodes.length:Int)).bind fun x7=>
  (inK .i64 ((x4.1.length:Int)-1)).bind fun x8=>
  (inK .i64 ((x5.1.length:Int)-1)).bind fun x9=>
  (yX (Alg.mk x2 x3 x4.1 x4.2 x5.1 x5.2 x1.1 x6 x7) x8 x9).bind fun x10=>
  (eH (fun s=>P8 x10 s.1 s.2) (0,[]):Option (List Opn)).bind fun b12=>
  (eH (fun s=>P9 x10 s.1 s.2) (0,b12):Option (List Opn)).bind fun b15=>
  some (b15,0)
noncomputable def xN (p0:Opn) (cp0:Int):Option Bool:=
 some (decide (p0.a=cp0))
noncomputable def nT (p0:(List Opn)) (p1c0:Int) (aQ:Int):Option (Step Int (Out Unit Int)):=
 if(decide (aQ<(p0.length:Int)))=true then
  (idx p0 aQ).bind fun x1=>
  (xN x1 p1c0).bind fun x2=>
  if x2=true then
   some (.done (.ret aQ))
  else
   (inK .i64 (aQ+1)).bind fun x3=>
   some (.next x3)
 else
  some (.done (.brk ()))
noncomputable def lD (p0:(List Opn)) (p1c0:Int):Option Int:=
 (eH (fun s=>nT p0 p1c0 s) 0:Option (Out Unit Int)).bind fun b1=>
 match b1 with
 | .brk b1s=>
  some (-1)
 | .ret r=>some r
noncomputable def vX (p0:(List Opn)) (p1:Int):Option (Int×Bool):=
 (lD p0 p1).bind fun x1=>
 ((if((decide (x1<0))||(decide (p1<0)))=true then
  some true
 else
  (idx p0 x1).bind fun x2=>
  some (decide (x2.b<0))):Option Bool).bind fun m1=>
 if m1=true then
  some (0,false)
 else
  (idx p0 x1).bind fun x3=>
  some (x3.b,true)
noncomputable def vH (p0:Int):Option Bool:=
 some (!decide (p0=p0))
noncomputable def sO (p0:Int) (p1:Int):Option Int:=
 (vH p0).bind fun x1=>
 (vH p1).bind fun x2=>
 if x1=true then
  if x2=true then
   some 0
  else
   some (-1)
 else
  if x2=true then
   some 1
  else
   if(decide (p0<p1))=true then
    some (-1)
   else
    if(decide (p1<p0))=true then
     some 1
    else
     some 0
noncomputable def pI (p0:Opn) (p1:Opn):Option Int:=
 if((decide (0≤p0.a))&&(decide (0≤p1.a)))=true then
  (sO p0.a p1.a).bind fun x1=>
  some x1
 else
  if((decide (p0.a<0))&&(decide (p1.a<0)))=true then
   (sO p0.b p1.b).bind fun x2=>
   some x2
  else
   if(decide (0≤p0.a))=true then
    some (-1)
   else
    some 1
noncomputable def kD (p1:Int) (bK:Int) (dR:(List Opn)):Option (Step (Int×(List Opn)) (List Opn)):=
 ((if(decide (p1<bK))=true then
  (idx dR bK).bind fun x2=>
  (inK .i64 (bK-1)).bind fun x3=>
  (idx dR x3).bind fun x4=>
  (pI x2 x4).bind fun x5=>
  some (decide (x5<0))
 else
  some false):Option Bool).bind fun m1=>
 if m1=true then
  (inK .i64 (bK-1)).bind fun x6=>
  (inK .i64 (bK-1)).bind fun x7=>
  (idx dR x7).bind fun x8=>
  (idx dR bK).bind fun x9=>
  (idx dR bK).bind fun x10=>
  (idx (dR.set bK.toNat x8) x6).bind fun x11=>
  (inK .i64 (bK-1)).bind fun x12=>
  some (.next (x12,(dR.set bK.toNat x8).set x6.toNat x9))
 else
  some (.done dR)
noncomputable def kC (p1:Int) (p2:Int) (aQ:Int) (aT:(List Opn)):Option (Step (Int×(List Opn)) (List Opn)):=
 if(decide (aQ<p2))=true then
  (eH (fun s=>kD p1 s.1 s.2) (aQ,aT):Option (List Opn)).bind fun b2=>
  (inK .i64 (aQ+1)).bind fun x13=>
  some (.next (x13,b2))
 else
  some (.done aT)
noncomputable def fP (p0:(List Opn)) (p1:Int) (p2:Int):Option (List Opn):=
 (inK .i64 (p1+1)).bind fun x1=>
 (eH (fun s=>kC p1 p2 s.1 s.2) (x1,p0):Option (List Opn)).bind fun b1=>
 some b1
noncomputable def lK (p1:Int) (p2:Int) (p3:Int) (aQ:Int) (aT:(List Opn)):Option (Step (Int×(List Opn)) (List Opn)):=
 if(decide (aQ<p3))=true then
  (inK .i64 (p1+aQ)).bind fun x1=>
  (inK .i64 (p2+aQ)).bind fun x2=>
  (inK .i64 (p2+aQ)).bind fun x3=>
  (idx aT x3).bind fun x4=>
  (inK .i64 (p1+aQ)).bind fun x5=>
  (idx aT x5).bind fun x6=>
  (idx aT x1).bind fun x7=>
  (idx (aT.set x1.toNat x4) x2).bind fun x8=>
  (inK .i64 (aQ+1)).bind fun x9=>
  some (.next (x9,(aT.set x1.toNat x4).set x2.toNat x6))
 else
  some (.done aT)
noncomputable def eY (p0:(List Opn)) (p1:Int) (p2:Int) (p3:Int):Option (List Opn):=
 (eH (fun s=>lK p1 p2 p3 s.1 s.2) (0,p0):Option (List Opn)).bind fun b1=>
 some b1
noncomputable def mM (p2:Int) (aQ:Int) (aT:Int) (eF:(List Opn)):Option (Step (Int×Int×(List Opn)) (Int×(List Opn))):=
 if(!decide (aQ=aT))=true then
  if(decide (aT<aQ))=true then
   (inK .i64 (p2-aQ)).bind fun x3=>
   (eY eF x3 p2 aT).bind fun x4=>
   (inK .i64 (aQ-aT)).bind fun x5=>
   some (.next (x5,aT,x4))
  else
   (inK .i64 (p2-aQ)).bind fun x6=>
   (inK .i64 (p2+aT)).bind fun x7=>
   (inK .i64 (x7-aQ)).bind fun x8=>
   (eY eF x6 x8 aQ).bind fun x9=>
   (inK .i64 (aT-aQ)).bind fun x10=>
   some (.next (aQ,x10,x9))
 else
  some (.done (aQ,eF))
noncomputable def jX (p0:(List Opn)) (p1:Int) (p2:Int) (p3:Int):Option (List Opn):=
 (inK .i64 (p2-p1)).bind fun x1=>
 (inK .i64 (p3-p2)).bind fun x2=>
 (eH (fun s=>mM p2 s.1 s.2.1 s.2.2) (x1,x2,p0):Option (Int×(List Opn))).bind fun b1=>
 (inK .i64 (p2-b1.1)).bind fun x11=>
 (eY b1.2 x11 p2 b1.1).bind fun x12=>
 some x12
noncomputable def kE (p0:(List Opn)) (p1:Int) (aQ:Int) (aT:Int):Option (Step (Int×Int) Int):=
 if(decide (aQ<aT))=true then
  (inK .i64 (aQ+aT)).bind fun x2=>
  (shrK .u64 (IntKind.wrap .u64 x2) 1).bind fun x3=>
  (inK .i64 x3).bind fun x4=>
  (idx p0 x4).bind fun x5=>
  (idx p0 p1).bind fun x6=>
  (pI x5 x6).bind fun x7=>
  if(decide (x7<0))=true then
   (inK .i64 (x4+1)).bind fun x8=>
   some (.next (x8,aT))
  else
   some (.next (aQ,x4))
 else
  some (.done aQ)
noncomputable def kF (b1:Int) (bK:Int) (dR:(List Opn)):Option (Step (Int×(List Opn)) (List Opn)):=
 (inK .i64 (b1-1)).bind fun x9=>
 if(decide (bK<x9))=true then
  (inK .i64 (bK+1)).bind fun x10=>
  (inK .i64 (bK+1)).bind fun x11=>
  (idx dR x11).bind fun x12=>
  (idx dR bK).bind fun x13=>
  (idx dR bK).bind fun x14=>
  (idx (dR.set bK.toNat x12) x10).bind fun x15=>
  (inK .i64 (bK+1)).bind fun x16=>
  some (.next (x16,(dR.set bK.toNat x12).set x10.toNat x13))
 else
  some (.done dR)
noncomputable def kG (p0:(List Opn)) (p2:Int) (fK:Int) (nZ:Int):Option (Step (Int×Int) Int):=
 if(decide (fK<nZ))=true then
  (inK .i64 (fK+nZ)).bind fun x18=>
  (shrK .u64 (IntKind.wrap .u64 x18) 1).bind fun x19=>
  (inK .i64 x19).bind fun x20=>
  (idx p0 p2).bind fun x21=>
  (idx p0 x20).bind fun x22=>
  (pI x21 x22).bind fun x23=>
  if(!(decide (x23<0)))=true then
   (inK .i64 (x20+1)).bind fun x24=>
   some (.next (x24,nZ))
  else
   some (.next (fK,x20))
 else
  some (.done fK)
noncomputable def kH (b15:Int) (mJ:Int) (nR:(List Opn)):Option (Step (Int×(List Opn)) (List Opn)):=
 if(decide (b15<mJ))=true then
  (inK .i64 (mJ-1)).bind fun x25=>
  (inK .i64 (mJ-1)).bind fun x26=>
  (idx nR x26).bind fun x27=>
  (idx nR mJ).bind fun x28=>
  (idx nR mJ).bind fun x29=>
  (idx (nR.set mJ.toNat x27) x25).bind fun x30=>
  (inK .i64 (mJ-1)).bind fun x31=>
  some (.next (x31,(nR.set mJ.toNat x27).set x25.toNat x28))
 else
  some (.done nR)
noncomputable def kJ (p0:(List Opn)) (x37:Int) (lp5_0:Int) (lp5_1:Int):Option (Step (Int×Int) Int):=
 if(decide (lp5_0<lp5_1))=true then
  (inK .i64 (lp5_0+lp5_1)).bind fun x38=>
  (shrK .u64 (IntKind.wrap .u64 x38) 1).bind fun x39=>
  (inK .i64 x39).bind fun x40=>
  (inK .i64 (x37-x40)).bind fun x41=>
  (idx p0 x41).bind fun x42=>
  (idx p0 x40).bind fun x43=>
  (pI x42 x43).bind fun x44=>
  if(!(decide (x44<0)))=true then
   (inK .i64 (x40+1)).bind fun x45=>
   some (.next (x45,lp5_1))
  else
   some (.next (lp5_0,x40))
 else
  some (.done lp5_0)
noncomputable def iI (self:(List Opn)→Int→Int→Int→Option (List Opn)) (p0:(List Opn)) (p1:Int) (p2:Int) (p3:Int):Option (List Opn):=
 (inK .i64 (p2-p1)).bind fun x1=>
 if(decide (x1=1))=true then
  (eH (fun s=>kE p0 p1 s.1 s.2) (p2,p3):Option Int).bind fun b1=>
  (eH (fun s=>kF b1 s.1 s.2) (p1,p0):Option (List Opn)).bind fun b6=>
  some b6
 else
  (inK .i64 (p3-p2)).bind fun x17=>
  if(decide (x17=1))=true then
   (eH (fun s=>kG p0 p2 s.1 s.2) (p1,p2):Option Int).bind fun b15=>
   (eH (fun s=>kH b15 s.1 s.2) (p2,p0):Option (List Opn)).bind fun b20=>
   some b20
  else
   (inK .i64 (p1+p3)).bind fun x32=>
   (shrK .u64 (IntKind.wrap .u64 x32) 1).bind fun x33=>
   (inK .i64 x33).bind fun x34=>
   (inK .i64 (x34+p2)).bind fun x35=>
   ((if(decide (x34<p2))=true then
    (inK .i64 (x35-p3)).bind fun x36=>
    some (x36,x34)
   else
    some (p1,p2)):Option (Int×Int)).bind fun j1=>
   (inK .i64 (x35-1)).bind fun x37=>
   (eH (fun s=>kJ p0 x37 s.1 s.2) (j1.1,j1.2):Option Int).bind fun b29=>
   (inK .i64 (x35-b29)).bind fun x46=>
   ((if((decide (b29<p2))&&(decide (p2<x46)))=true then
    (jX p0 b29 p2 x46).bind fun x47=>
    some x47
   else
    some p0):Option (List Opn)).bind fun j2=>
   ((if((decide (p1<b29))&&(decide (b29<x34)))=true then
    (self j2 p1 b29 x34).bind fun x48=>
    some x48
   else
    some j2):Option (List Opn)).bind fun j3=>
   if((decide (x34<x46))&&(decide (x46<p3)))=true then
    (self j3 x34 x46 p3).bind fun x49=>
    some x49
   else
    some j3
noncomputable def gJ:Nat→(List Opn)→Int→Int→Int→Option (List Opn)
 |0=>fun _ _ _ _=>none
 |n+1=>iI (gJ n)
noncomputable def jF (p0:(List Opn)) (p1:Int) (p2:Int) (p3:Int):Option (List Opn):=gJ ((p3-p1).toNat+1) p0 p1 p2 p3
noncomputable def mO (p1:Int) (aQ:Int) (aT:Int) (eF:(List Opn)):Option (Step (Int×Int×(List Opn)) (Int×(List Opn))):=
 if(decide (aT≤p1))=true then
  (fP eF aQ aT).bind fun x1=>
  (inK .i64 (aT+20)).bind fun x2=>
  some (.next (aT,x2,x1))
 else
  some (.done (aQ,eF))
noncomputable def mQ (p1:Int) (bK:Int) (fK:Int) (nZ:Int) (lp3_2:(List Opn)):Option (Step (Int×Int×(List Opn)) (Int×(List Opn))):=
 if(decide (nZ≤p1))=true then
  (inK .i64 (fK+bK)).bind fun x5=>
  (jF lp3_2 fK x5 nZ).bind fun x6=>
  (inK .i64 (2*bK)).bind fun x7=>
  (inK .i64 (nZ+x7)).bind fun x8=>
  some (.next (nZ,x8,x6))
 else
  some (.done (fK,lp3_2))
noncomputable def mP (p1:Int) (bK:Int) (dR:(List Opn)):Option (Step (Int×(List Opn)) (List Opn)):=
 if(decide (bK<p1))=true then
  (inK .i64 (2*bK)).bind fun x4=>
  (eH (fun s=>mQ p1 bK s.1 s.2.1 s.2.2) (0,x4,dR):Option (Int×(List Opn))).bind fun b3=>
  (inK .i64 (b3.1+bK)).bind fun x9=>
  ((if(decide (x9<p1))=true then
   (jF b3.2 b3.1 x9 p1).bind fun x10=>
   some x10
  else
   some b3.2):Option (List Opn)).bind fun j1=>
  (inK .i64 (bK*2)).bind fun x11=>
  some (.next (x11,j1))
 else
  some (.done dR)
noncomputable def jY (p0:(List Opn)) (p1:Int):Option (List Opn):=
 (eH (fun s=>mO p1 s.1 s.2.1 s.2.2) (0,20,p0):Option (Int×(List Opn))).bind fun b1=>
 (fP b1.2 b1.1 p1).bind fun x3=>
 (eH (fun s=>mP p1 s.1 s.2) (20,x3):Option (List Opn)).bind fun b2=>
 some b2
noncomputable def jO (p0:(List Opn)):Option (List Opn):=
 (jY p0 (p0.length:Int)).bind fun x1=>
 some x1
noncomputable def xO (p0:(List Opn)):Option (List Opn):=
 (jO p0).bind fun x1=>
 some x1
noncomputable def J3 (p0:(List Opn)) (aQ:Int) (aT:(List Opn)):Option (Step (Int×(List Opn)) (List Opn)):=
 if(decide (aQ<(p0.length:Int)))=true then
  (idx p0 aQ).bind fun x1=>
  (app aT [(Opn.mk x1.b x1.a)]).bind fun x2=>
  (inK .i64 (aQ+1)).bind fun x3=>
  some (.next (x3,x2))
 else
  some (.done aT)
noncomputable def xM (p0:(List Opn)):Option (List Opn):=
 (eH (fun s=>J3 p0 s.1 s.2) (0,[]):Option (List Opn)).bind fun b1=>
 (xO b1).bind fun x4=>
 some x4
noncomputable def zX (p0:(List Opn)) (p1:(List Opn)) (aQ:Int) (aT:(List Opn)) (eF:(List (Int×Bool))):Option (Step (Int×(List Opn)×(List (Int×Bool))) ((List Opn)×(List (Int×Bool)))):=
 if(decide (aQ<(p0.length:Int)))=true then
  (((idx p0 aQ).bind fun x1=>
  if(decide (x1.a<0))=true then
   some (aT,eF)
  else
   (vX p1 x1.b).bind fun x2=>
   ((if(!x2.2)=true then
    some (-1)
   else
    some x2.1):Option Int).bind fun j2=>
   (app aT [(Opn.mk x1.a j2)]).bind fun x3=>
   some (x3,U2 eF j2 true)):Option ((List Opn)×(List (Int×Bool)))).bind fun j1=>
  (inK .i64 (aQ+1)).bind fun x4=>
  some (.next (x4,j1.1,j1.2))
 else
  some (.done (aT,eF))
noncomputable def zY (p1:(List Opn)) (b2:((List Opn)×(List (Int×Bool)))) (bK:Int) (dR:(List Opn)):Option (Step (Int×(List Opn)) (List Opn)):=
 if(decide (bK<(p1.length:Int)))=true then
  (idx p1 bK).bind fun x5=>
  if((decide (0≤x5.b))&&(!((kS (b2.2:List (Int×Bool)) x5.b).getD false)))=true then
   (app dR [(Opn.mk (-1) x5.b)]).bind fun x6=>
   (inK .i64 (bK+1)).bind fun x7=>
   some (.next (x7,x6))
  else
   (inK .i64 (bK+1)).bind fun x8=>
   some (.next (x8,dR))
 else
  some (.done dR)
noncomputable def zS (p0:(List Opn)) (p1:(List Opn)):Option (List Opn):=
 (eH (fun s=>zX p0 p1 s.1 s.2.1 s.2.2) (0,[],[]):Option ((List Opn)×(List (Int×Bool)))).bind fun b2=>
 (eH (fun s=>zY p1 b2 s.1 s.2) (0,b2.1):Option (List Opn)).bind fun b6=>
 (xO b6).bind fun x9=>
 some x9
def Node.re (n:Node) (ks:List Node):Node:=⟨n.kind,n.text,n.at_,n.fin,ks⟩
mutual
def atN:Node→Nat→Option (List Node×Nat×(List Node→Node))
 |⟨a,b,c,d,kids⟩,k=>(atL [] kids k).map fun q=>(q.1,q.2.1,fun x=>⟨a,b,c,d,q.2.2 x⟩)
def atL:List Node→List Node→Nat→Option (List Node×Nat×(List Node→List Node))
 |_,[],_=>none
 |pre,n::r,k=>if k=0 then some (pre++n::r,pre.length,id) else if k<iH n then(atN n (k-1)).map fun q=>(q.1,q.2.1,fun x=>pre++q.2.2 x::r) else atL (pre++[n]) r (k-iH n)
end
theorem atN_eq (n:Node) (k:Nat):atN n k=(atL [] n.kids k).map fun q=>(q.1,q.2.1,fun x=>n.re (q.2.2 x)):=by obtain⟨a,b,c,d,kids⟩:=n;rw[atN];rfl
theorem atL_nil (pre:List Node) (k:Nat):atL pre [] k=none:=by rw[atL]
theorem xE (pre:List Node) (n:Node) (r:List Node) (k:Nat):atL pre (n::r) k=if k=0 then some (pre++n::r,pre.length,id) else if k<iH n then(atN n (k-1)).map fun q=>(q.1,q.2.1,fun x=>pre++q.2.2 x::r) else atL (pre++[n]) r (k-iH n):=by rw[atL]
theorem cntN_eq' (n:Node):iH n=1+gB n.kids:=by obtain⟨a,b,c,d,k⟩:=n;rw[iH]
theorem atL_ok:∀(m:Nat) (ts pre:List Node) (k:Nat),SizeOf.sizeOf ts≤m→k<gB ts→∃q,atL pre ts k=some q:=by
 intro m
 induction m with
 |zero=>intro ts pre k h;cases ts<;>simp at h
 |succ m ih=>
  intro ts pre k h hk
  cases ts with
  |nil=>rw[gB] at hk;omega
  |cons n r=>
   rw[xE]
   rw[gB] at hk
   simp only[List.cons.sizeOf_spec] at h
   split
   ·exact⟨_,rfl⟩
   split
   ·obtain⟨a,b,c,d,kids⟩:=n
    simp only[Node.mk.sizeOf_spec] at h
    rename_i h0 h1
    rw[iH] at h1
    obtain⟨q,hq⟩:=ih kids [] (k-1) (by omega) (by omega)
    rw[atN,hq]
    exact⟨_,rfl⟩
   exact ih r _ _ (by omega) (by omega)
theorem atL_plug:∀(m:Nat) (ts pre:List Node) (k:Nat),SizeOf.sizeOf ts≤m→∀{t:List Node} {i:Nat} {p:List Node→List Node},atL pre ts k=some (t,i,p)→p t=pre++ts∧t.length≤pre.length+gB ts:=by
 intro m
 induction m with
 |zero=>intro ts pre k h;cases ts<;>simp at h
 |succ m ih=>
  intro ts pre k h t i p hat
  cases ts with
  |nil=>rw[atL_nil] at hat;cases hat
  |cons n r=>
   rw[xE] at hat
   have hc:=cntN_eq' n
   have hlen:∀(l:List Node),l.length≤gB l:=by
    intro l
    induction l with
    |nil=>exact Nat.zero_le _
    |cons a l ih2=>rw[gB,List.length_cons,cntN_eq'];omega
   have hr:=hlen r
   simp only[List.cons.sizeOf_spec] at h
   split at hat
   ·obtain⟨rfl,rfl,rfl⟩:pre++n::r=t∧pre.length=i∧id=p:=by simpa using hat
    refine⟨rfl,?_⟩
    rw[List.length_append,List.length_cons,gB];omega
   split at hat
   ·obtain⟨a,b,c,d,kids⟩:=n
    rw[atN] at hat
    cases hq:atL [] kids (k-1) with
    |none=>rw[hq] at hat;cases hat
    |some q=>
     obtain⟨t2,i2,p2⟩:=q
     rw[hq] at hat
     simp only[Option.map_some,Option.some.injEq,Prod.mk.injEq] at hat
     obtain⟨rfl,rfl,rfl⟩:=hat
     simp only[Node.mk.sizeOf_spec] at h
     obtain⟨h1,h2⟩:=ih kids [] (k-1) (by omega) hq
     refine⟨by simp[h1],?_⟩
     rw[gB,iH]
     simp only[List.length_nil] at h2
     omega
   obtain⟨h1,h2⟩:=ih r (pre++[n]) (k-iH n) (by omega) hat
   refine⟨by rw[h1];simp,?_⟩
   rw[List.length_append,List.length_singleton] at h2
   rw[gB];omega
theorem re_kids (n:Node):n.re n.kids=n:=by cases n;rfl
def m_at (ts:List Node) (n:Int):Option (Option (List Node×Nat×(List Node→List Node))):=if 0≤n∧n<9223372036854775808∧gB ts≤4294967296 then some (atL [] ts n.toNat) else none
def E8 (ts:List Node) (c:Chg):Option (Int×List Node):=(m_at ts c.node).bind fun q=>match q with
 |none=>some (2,ts)
 |some (t,i,p)=>(t[i]?).map fun x=>(0,p (t.set i ⟨c.kind,c.text,x.at_,x.fin,x.kids⟩))
def X0 (ts:List Node) (c:Chg):Option (Int×List Node):=(m_at ts c.node).bind fun q=>match q with
 |none=>some (2,ts)
 |some (t,i,p)=>(t[i]?).bind fun x=>if t.length+x.kids.length≤4294967296 then some (0,p (t.take i++x.kids++t.drop (i+1))) else none
def yU (l:List Node) (c:Chg):Option (List Node):=
 if c.index<0∨c.count<0∨(l.length:Int)<c.index∨(l.length:Int)-c.index<c.count then none
 else some (l.take c.index.toNat++⟨c.kind,c.text,0,0,(l.drop c.index.toNat).take c.count.toNat⟩::l.drop (c.index.toNat+c.count.toNat))
def zA (ts:List Node) (c:Chg):Option (Int×List Node):=
 ((if c.node= -1 then some (some (ts,id)) else(m_at ts c.node).bind fun q=>match q with
  |none=>some none
  |some (t,i,p)=>(t[i]?).map fun x=>some (x.kids,fun ks=>p (t.set i (x.re ks))):Option (Option (List Node×(List Node→List Node))))).bind fun q=>match q with
 |none=>some (2,ts)
 |some (l,P)=>if l.length+1≤4294967296 then(match yU l c with
  |none=>some (2,ts)
  |some ks=>some (0,P ks)) else none
def fieldsB (c:Chg):Bool:=
 if c.op=0 then decide (c.index=0)&&decide (c.count=0)
 else if c.op=1 then decide (c.op=c.op)&&decide (c.node=c.node)&&decide (c.index=0)&&decide (c.count=0)&&decide (c.kind=0)&&decide (c.text=ByteArray.empty)
 else decide (c.op=2)
def lJ (ts:List Node) (c:Chg):Option (Int×List Node):=
 if fieldsB c=true then
  if c.node< -1∨(c.node= -1∧c.op≠2) then some (2,ts)
  else if c.op=0 then E8 ts c else if c.op=1 then X0 ts c else zA ts c
 else some (1,ts)
def chgs:List Node→List Chg→Option (List Node×Int)
 |ts,[]=>some (ts,0)
 |ts,c::cs=>(lJ ts c).bind fun q=>if q.1=0 then chgs q.2 cs else some ([],q.1)
def aB5 (l:List Chg) (p:Nat×List Node):Option (Step (Nat×List Node) Unit):=match l[p.1]? with
 |none=>some (.done ())
 |some c=>(lJ p.2 c).map fun q=>if q.1=0 then .next (p.1+1,q.2) else .done ()
theorem chLoop (l:List Chg):∀(j i:Nat) (ts:List Node) (r:List Node×Int),l.length≤i+j→chgs ts (l.drop i)=some r→∃u,eH (aB5 l) (i,ts)=some u
 |0,i,ts,r,h,_=>⟨(),sK (by unfold aB5;simp only;rw[List.getElem?_eq_none (by omega)])⟩
 |j+1,i,ts,r,h,hr=>by
  cases hx:l[i]? with
  |none=>exact⟨(),sK (by unfold aB5;simp only;rw[hx])⟩
  |some c=>
   obtain⟨h3,h4⟩:=List.getElem?_eq_some_iff.1 hx
   rw[List.drop_eq_getElem_cons h3,h4,chgs] at hr
   obtain⟨q,hq,hr⟩:=Option.bind_eq_some_iff.1 hr
   by_cases h0:q.1=0
   ·rw[if_pos h0] at hr
    obtain⟨u,hu⟩:=chLoop l j (i+1) q.2 r (by omega) hr
    exact⟨u,by rw[I9 (show aB5 l (i,ts)=some (.next (i+1,q.2)) by unfold aB5;simp only;rw[hx];simp only;rw[hq,Option.map_some,if_pos h0])];exact hu⟩
   exact⟨(),sK (by unfold aB5;simp only;rw[hx];simp only;rw[hq,Option.map_some,if_neg h0])⟩
def A8 (l:List Node) (cs:List Chg):Option (List Node×Int):=if gB l<4294967296∧cs.length<4294967296 then chgs l cs else none
noncomputable def vM (p0:(List Chg)) (p1:(List Chg)) (aQ:Int):Option (Step Int (Out Unit Bool)):=
 if(decide (aQ<(p0.length:Int)))=true then
  (idx p0 aQ).bind fun x1=>
  (idx p1 aQ).bind fun x2=>
  if(!((decide (x1.op=x2.op))&&(decide (x1.node=x2.node))&&(decide (x1.index=x2.index))&&(decide (x1.count=x2.count))&&(decide (x1.kind=x2.kind))&&(decide (x1.text=x2.text))))=true then
   some (.done (.ret false))
  else
   (inK .i64 (aQ+1)).bind fun x3=>
   some (.next x3)
 else
  some (.done (.brk ()))
noncomputable def tV (p0:(List Chg)) (p1:(List Chg)):Option Bool:=
 if(!decide ((p0.length:Int)=(p1.length:Int)))=true then
  some false
 else
  (eH (fun s=>vM p0 p1 s) 0:Option (Out Unit Bool)).bind fun b1=>
  match b1 with
  | .brk b1s=>
   some true
  | .ret r=>some r
noncomputable def pV:Option Bool:=
 (jL (ByteArray.mk #[97])).bind fun x1=>
 (jL (ByteArray.mk #[98])).bind fun x2=>
 (jL (ByteArray.mk #[99])).bind fun x3=>
 (lS (ByteArray.mk #[42]) x2 x3).bind fun x4=>
 (lS (ByteArray.mk #[43]) x1 x4).bind fun x5=>
 (jL (ByteArray.mk #[97])).bind fun x6=>
 (jL (ByteArray.mk #[99])).bind fun x7=>
 (lS (ByteArray.mk #[42]) x6 x7).bind fun x8=>
 (Z7 x5 x8 ([(Opn.mk 0 0),(Opn.mk 1 1),(Opn.mk 2 (-1)),(Opn.mk 3 (-1)),(Opn.mk 4 2)]:List Opn)).bind fun x9=>
 (zQ x5 x8 ([(Opn.mk 0 0),(Opn.mk 1 1),(Opn.mk 2 (-1)),(Opn.mk 3 (-1)),(Opn.mk 4 2)]:List Opn)).bind fun x10=>
 (A8 ([x5]:List Node) x10.1).bind fun x11=>
 (U1 x5 x8).bind fun x12=>
 (vX ([(Opn.mk 0 0),(Opn.mk 1 1),(Opn.mk 2 (-1)),(Opn.mk 3 (-1)),(Opn.mk 4 2)]:List Opn) 4).bind fun x13=>
 (vV x5 x8 ([(Opn.mk 0 0),(Opn.mk 1 1),(Opn.mk 2 (-1)),(Opn.mk 3 (-1)),(Opn.mk 4 2)]:List Opn)).bind fun x14=>
 ((if(((x14&&(decide (x9.2=0)))&&(decide (x9.1=3)))&&(decide (x10.2=0)))=true then
  (tV x10.1 ([(Chg.mk 0 0 0 0 29 (ByteArray.mk #[42])),(Chg.mk 1 3 0 0 0 ByteArray.empty),(Chg.mk 1 2 0 0 0 ByteArray.empty)]:List Chg)).bind fun x15=>
  some x15
 else
  some false):Option Bool).bind fun m1=>
 ((if(m1&&(decide (x11.2=0)))=true then
  (gG x11.1 ([x8]:List Node)).bind fun x16=>
  some x16
 else
  some false):Option Bool).bind fun m2=>
 ((if((((m2&&(decide (x12.2=0)))&&(decide (0<(x12.1.length:Int))))&&x13.2)&&(decide (x13.1=2)))=true then
  (xM ([(Opn.mk 0 0),(Opn.mk 1 1),(Opn.mk 2 (-1)),(Opn.mk 3 (-1)),(Opn.mk 4 2)]:List Opn)).bind fun x17=>
  some (decide ((x17.length:Int)=5))
 else
  some false):Option Bool).bind fun m3=>
 ((if m3=true then
  (xM ([(Opn.mk 0 0),(Opn.mk 1 1),(Opn.mk 2 (-1)),(Opn.mk 3 (-1)),(Opn.mk 4 2)]:List Opn)).bind fun x18=>
  (zS ([(Opn.mk 0 0),(Opn.mk 1 1),(Opn.mk 2 (-1)),(Opn.mk 3 (-1)),(Opn.mk 4 2)]:List Opn) x18).bind fun x19=>
  some (decide ((x19.length:Int)=7))
 else
  some false):Option Bool).bind fun m4=>
 some m4
noncomputable def fV (p0:(List Node)) (aQ:Int) (aT:Int):Option (Step (Int×Int) (Out Int Bool)):=
 if(decide (aT<(p0.length:Int)))=true then
  (idx p0 aT).bind fun x2=>
  (oU x2 12).bind fun x3=>
  if(!x3)=true then
   some (.done (.ret true))
  else
   (kT x2).bind fun x4=>
   (inK .i64 (aQ+x4)).bind fun x5=>
   (inK .i64 (aT+1)).bind fun x6=>
   some (.next (x5,x6))
 else
  some (.done (.brk aQ))
noncomputable def jI (x7:((List Node)×Int)) (bK:Int) (dR:Int):Option (Step (Int×Int) Int):=
 if(decide (dR<(x7.1.length:Int)))=true then
  (idx x7.1 dR).bind fun x8=>
  (kT x8).bind fun x9=>
  (inK .i64 (bK+x9)).bind fun x10=>
  (inK .i64 (dR+1)).bind fun x11=>
  some (.next (x10,x11))
 else
  some (.done bK)
noncomputable def iF (p1:Chg) (j1:(List Node)) (fK:Int) (nZ:Int):Option (Step (Int×Int) Int):=
 if((decide (nZ<p1.index))&&(decide (nZ<(j1.length:Int))))=true then
  (idx j1 nZ).bind fun x14=>
  (kT x14).bind fun x15=>
  (inK .i64 (fK+x15)).bind fun x16=>
  (inK .i64 (nZ+1)).bind fun x17=>
  some (.next (x16,x17))
 else
  some (.done fK)
noncomputable def lM (p0:(List Node)) (p1:Chg):Option Bool:=
 (pV).bind fun x1=>
 if(!x1)=true then
  some false
 else
  if((decide (4<(p0.length:Int)))||(decide (40<(p1.text.size:Int))))=true then
   some true
  else
   (eH (fun s=>fV p0 s.1 s.2) (0,0):Option (Out Int Bool)).bind fun b2=>
   match b2 with
   | .brk b2s=>
    (A8 p0 ([p1]:List Chg)).bind fun x7=>
    if(!decide (x7.2=0))=true then
     some (decide ((x7.1.length:Int)=0))
    else
     (eH (fun s=>jI x7 s.1 s.2) (0,0):Option Int).bind fun b6=>
     if(decide (p1.op=2))=true then
      (inK .i64 (p1.node+1)).bind fun x12=>
      ((if(decide (0≤p1.node))=true then
       (nS p0 p1.node).bind fun x13=>
       some x13
      else
       some p0):Option (List Node)).bind fun j1=>
      (eH (fun s=>iF p1 j1 s.1 s.2) (x12,0):Option Int).bind fun b9=>
      (A8 x7.1 ([(Chg.mk 1 b9 0 0 0 ByteArray.empty)]:List Chg)).bind fun x18=>
      (inK .i64 (b2s+1)).bind fun x19=>
      ((if((decide (b6=x19))&&(decide (x18.2=0)))=true then
       (gG x18.1 p0).bind fun x20=>
       some x20
      else
       some false):Option Bool).bind fun m1=>
      some m1
     else
      if(decide (p1.op=1))=true then
       (inK .i64 (b2s-1)).bind fun x21=>
       some (decide (b6=x21))
      else
       (lI p0 p1.node).bind fun x22=>
       (A8 x7.1 ([(Chg.mk 0 p1.node 0 0 x22.kind x22.text)]:List Chg)).bind fun x23=>
       ((if((decide (b6=b2s))&&(decide (x23.2=0)))=true then
        (gG x23.1 p0).bind fun x24=>
        some x24
       else
        some false):Option Bool).bind fun m2=>
       some m2
   | .ret r=>some r
class Rep1 (α:Type) [Rep α]:Prop where
 one:∀{ρ:PH} {a:α} {cs:List Value},Rep.ok ρ a cs→∀v∈cs,v.oneCell'=true
 pos:0<Rep.sz α
def oQ {α:Type} [Rep α] (T:TypeId) (v:Value) (l:List α) (xs:List Value):bI:=Row T (Rep.sz α) v l.length xs
section
variable {α:Type} [Rep α] {ρ ρ':PH} {l m:List α} {xs ys:List Value}
theorem fC.nil:fC ρ ([]:List α) []:=rfl
theorem fC.mono (h:ρ.le ρ'):∀{l:List α} {xs:List Value},fC ρ l xs→fC ρ' l xs
 | [],_,e=>e
 |a::l,_,⟨c,r,e,hc,hr⟩=>⟨c,r,e,Rep.mono h hc,fC.mono h hr⟩
theorem fC.len:∀{l:List α} {xs:List Value},fC ρ l xs→xs.length=l.length*Rep.sz α
 | [],_,e=>by rw[e];simp
 |a::l,_,⟨c,r,e,hc,hr⟩=>by
  rw[e,List.length_append,Rep.len hc,fC.len hr,List.length_cons,Nat.add_mul];omega
theorem fC.app:∀{l:List α} {xs:List Value},fC ρ l xs→fC ρ m ys→fC ρ (l++m) (xs++ys)
 | [],_,e,h=>by rw[e];exact h
 |a::l,_,⟨c,r,e,hc,hr⟩,h=>⟨c,r++ys,by rw[e,List.append_assoc],hc,fC.app hr h⟩
theorem fC.one1 [Rep1 α]:∀{l:List α} {xs:List Value},fC ρ l xs→∀v∈xs,v.oneCell'=true
 | [],_,e,v,hv=>by rw[e] at hv;simp at hv
 |a::l,_,⟨c,r,e,hc,hr⟩,v,hv=>by
  rw[e,List.mem_append] at hv
  rcases hv with hv|hv
  ·exact Rep1.one hc v hv
  exact fC.one1 hr v hv
theorem fC.set:∀{l:List α} {xs:List Value} (i:Nat) {a:α} {cs:List Value},fC ρ l xs→i<l.length→Rep.ok ρ a cs→fC ρ (l.set i a) (xs.take (i*Rep.sz α)++cs++xs.drop ((i+1)*Rep.sz α))
 |b::l,_,0,a,cs,⟨c,r,e,hc,hr⟩,_,ha=>by
  rw[e,Nat.zero_mul,List.take_zero,List.nil_append,Nat.zero_add,Nat.one_mul,←Rep.len hc,List.drop_left,List.set_cons_zero]
  exact⟨cs,r,rfl,ha,hr⟩
 |b::l,_,i+1,a,cs,⟨c,r,e,hc,hr⟩,hi,ha=>by
  have:=fC.set i hr (by simpa using hi) ha
  have hl:=Rep.len hc
  rw[e,List.set_cons_succ,Nat.add_mul,Nat.one_mul,show i*Rep.sz α+Rep.sz α=c.length+i*Rep.sz α by omega,List.take_append,List.take_of_length_le (by omega),Nat.add_sub_cancel_left,
   show(i+1+1)*Rep.sz α=c.length+(i+1)*Rep.sz α by rw[Nat.add_mul (i+1)];omega,List.drop_append,List.drop_of_length_le (by omega),List.nil_append,Nat.add_sub_cancel_left]
  exact⟨c,_,by simp only[List.append_assoc],hc,this⟩
end
section
variable {α:Type} [Rep α] {Rn:Option Nat} {P:Program} {Z:World} {ρ:PH} {L:List bI} {w:World} {T El:TypeId} {v:Value} {l:List α} {xs:List Value}
theorem oQ.nil (T:TypeId):oQ T (.slice none 0 0) ([]:List α) [] PH.emp:=Row.nil T _ none
theorem oQ.len {sz bytes:Nat} (hp:Hp Z ρ L w) (k:Nat) (hk:L[k]?=some (oQ El v l xs)) (ht:SlTy P T El sz bytes) (w':World) (ty:TypeId):(Builtin.len_ #[T] ty #[v]).run P w'= .ok (.int .i64 l.length) w':=by
 rcases(hp.get k hk).row.2 with⟨A,rfl,hn⟩|⟨g,off,cap,cur,rfl,_,_⟩
 ·rw[hn];exact oZ ht A 0 0 w' ty
 exact oZ ht _ _ cap w' ty
theorem oQ.cells (hp:Hp Z ρ L w) (k:Nat) (hk:L[k]?=some (oQ El v l xs)):v.cells= #[v]:=by
 rcases(hp.get k hk).row.2 with⟨A,rfl,_⟩|⟨g,off,cap,cur,rfl,_⟩<;>rfl
theorem oQ.one (hp:Hp Z ρ L w) (k:Nat) (hk:L[k]?=some (oQ El v l xs)):v.oneCell'=true:=by
 rcases(hp.get k hk).row.2 with⟨A,rfl,_⟩|⟨g,off,cap,cur,rfl,_⟩<;>rfl
theorem oQ.ro {k:PH} (d:ρ.dj k) (h:oQ T v l xs k) (hR:fC ρ l xs):aH (ρ.un k) v l:=by
 obtain⟨hxl,h⟩:=h
 rcases h with⟨A,rfl,hn⟩|⟨g,off,cap,cur,rfl,rfl,h1,h2,h3,h4⟩
 ·obtain rfl:=List.eq_nil_of_length_eq_zero hn
  exact⟨A,0,rfl,Nat.le_refl _,fun i a h=>by simp at h⟩
 refine⟨some ⟨g,off,none⟩,cap,rfl,h1,fun i a hi=>?_⟩
 obtain⟨c,hc,hg⟩:=hR.get i a hi
 refine⟨g,off,c,rfl,Rep.mono (PH.le_un _ _) hc,fun j u hj=>?_⟩
 have hb:(ρ.un (PH.one g (.cells cur T (0,0)))) g=some (.cells cur T (0,0)):=PH.le_un_r d g _ (by simp[PH.one])
 unfold cellAt
 rw[hb]
 simp only
 have hf:=hg j u hj
 rw[←h4,List.getElem?_take] at hf
 split at hf
 ·rw[List.getElem?_drop,←Nat.add_assoc] at hf
  rw[←Array.getElem?_toList]
  exact hf
 cases hf
theorem oQ.at {bytes:Nat} (hp:Hp Z ρ L w) (k:Nat) (hk:L[k]?=some (oQ El v l xs)) (hR:fC ρ l xs) (ht:SlTy P T El (Rep.sz α) bytes) {i:Int} {e:α} (hi:idx l i=some e):
  ∃g off cs,(∀w,(Instr.indexAt T v (.int .i64 i)).run P w= .ok (.pointer (some ⟨g,off,none⟩)) w)∧(∃of0 cap,v= .slice (some ⟨g,of0,none⟩) l.length cap∧off=of0+i.toNat*Rep.sz α)∧Rep.ok ρ e cs∧∀(j:Nat) (u:Value),cs[j]?=some u→∀ρ' L' w,Hp Z ρ' (oQ El v l xs::L') w→w.cell? ⟨g,off+j,none⟩=some u:=by
 obtain⟨i0,i1,i2⟩:=nP hi
 rcases(hp.get k hk).row.2 with⟨_,_,hn⟩|⟨g,of0,cap,cur,rfl,_,_⟩
 ·omega
 obtain⟨c,hc,hg⟩:=hR.get i.toNat e i2
 refine⟨g,of0+i.toNat*Rep.sz α,c,fun w=>run_index ht g of0 _ cap i0 i1 w,⟨of0,cap,rfl,rfl⟩,hc,fun j u hj ρ' L' w' hw'=>?_⟩
 rcases hw'.row.2 with⟨A,hA,hn⟩|⟨g',of1,cap',cur',e2,hpt,h2,h3,h4,h5⟩
 ·omega
 simp only[Value.slice.injEq,Option.some.injEq,Addr.mk.injEq,and_true,true_and] at e2
 obtain⟨⟨rfl,rfl⟩,rfl⟩:=e2
 have hlook:=hpt.look 0 rfl
 have hf:=hg j u hj
 rw[←h5,List.getElem?_take] at hf
 split at hf
 ·rw[List.getElem?_drop,←Nat.add_assoc] at hf
  simp[World.cell?,hlook,←Array.getElem?_toList,hf]
 cases hf
end
section
variable {α:Type} [Rep α] {ρ:PH}
end
section
variable {α:Type} [Rep α] [Rep1 α] {Rn:Option Nat} {P:Program} {ops:Array Oper} {Q:Exit→Act→World→Prop} {rest:List Oper} {o:Oper} {a:Act} {w:World} {Df:List Deferred} {N:Nat} {E:Ent} {d:Nat} {Z:World} {ρ:PH} {L:List bI}
theorem s_appR (wk:Region.wanted o (yielded ops a.tmps)=true) (hd:o.dst=some d) (hN:Nat.blt d N=true) (hE:EnvD Df N E a) (hp:Hp Z ρ L w) {x y:Operand} {t:TypeId} (ho:o.op= .call {callee:= .builtin .append,args:= #[x,y],argTypes:= #[t,t] }) {El:TypeId} {bytes:Nat} (ht:SlTy P t El (Rep.sz α) bytes) (hby:Nat.ble bytes 16384=true)
  {v:Value} (hx:evo E x=some v) (i:Nat) {l:List α} {xs:List Value} (hi:L[i]?=some (oQ El v l xs)) {b off m c:Nat} (hy:evo E y=some (.slice (some ⟨b,off,none⟩) m c)) {l2 r:List α} {ys:List Value} (hm:l2.length=m) (hR2:fC ρ l2 ys) (hn:∀j u,ys[j]?=some u→w.cell? ⟨b,off+j,none⟩=some u) (hr:app l l2=some r)
  (K:∀v' a w,EnvD Df N ((d,v')::E) a→Hp Z ρ (L.set i (oQ El v' r (xs++ys))) w→wpL Rn P ops Q rest a w):wpL Rn P ops Q (o::rest) a w:=by
 obtain⟨hlen,rfl⟩:=G9 hr
 have hby':bytes≤16384:=by simpa using hby
 have hb2:(l.length+m)*bytes≤4294967296*16384:=Nat.mul_le_mul (by omega) hby'
 obtain⟨v',w',hrun,hp'⟩:=run_app (P:=P) ht Rep1.pos o.type (hp.get i hi) ⟨b,off,none⟩ m c ys (by rw[hR2.len,hm]) (fun j u hj=>by rw[Addr.add_lit];exact hn j u hj) hR2.one1 (by unfold maxLen;omega) (by omega)
 refine xA wk hd hN hE (v:=v') (w':=w') ?_ fun a' hE'=>K v' a' w' hE' ?_
 ·simp only[execOp,ho,resolve,invoke,builtin,Sem.run_bind,Sem.run_pure,Result.andThen_ok,List.map_toArray,List.map_cons,List.map_nil,hE.eval hx,hE.eval hy,hrun]
 refine Hp.put i (D6 (A:=oQ El v l xs) (_B:=oQ El v l xs) hi).2 ?_
 unfold oQ
 rw[List.length_append,hm]
 exact hp'
theorem s_stelR (wk:Region.wanted o (yielded ops a.tmps)=true) (hd:o.dst=none) (hE:EnvD Df N E a) (hp:Hp Z ρ L w) {T:TypeId} {x y:Operand} (ho:o.op= .store T x y) {g off off':Nat} (hx:evo E x=some (.pointer (some ⟨g,off',none⟩))) {u:Value} (hy:evo E y=some u) (k:Nat) {El:TypeId} {v:Value} {l:List α} {xs:List Value} (hk:L[k]?=some (oQ El v l xs))
  (hR:fC ρ l xs) {i:Int} {e e':α} (hi:idx l i=some e) (hv:∃of0 cap,v= .slice (some ⟨g,of0,none⟩) l.length cap∧off=of0+i.toNat*Rep.sz α) (j:Nat) {us cs:List Value} (ht:∀w,(sizeOf T).run P w= .ok us.length w) (hoff:off'=off+j) (hc:u.cells=us.toArray) (hcs:Rep.ok ρ e cs) (hgc:∀(q:Nat) (z:Value),cs[q]?=some z→w.cell? ⟨g,off+q,none⟩=some z)
  (hok:Rep.ok ρ e' (cs.take j++us++cs.drop (j+us.length))) (hju0:Nat.ble (j+us.length) (Rep.sz α)=true)
  (K:∀w xs',fC ρ (l.set i.toNat e') xs'→Hp Z ρ (L.set k (oQ El v (l.set i.toNat e') xs')) w→wpL Rn P ops Q rest a w):wpL Rn P ops Q (o::rest) a w:=by
 subst hoff
 obtain⟨of0,cap,rfl,rfl⟩:=hv
 obtain⟨i0,i1,i2⟩:=nP hi
 have hlt:=(D6 (A:=oQ El (.slice (some ⟨g,of0,none⟩) l.length cap) l xs) (_B:=oQ El (.slice (some ⟨g,of0,none⟩) l.length cap) l xs) hk).2
 have hll:=hR.len
 have hcl:=Rep.len hcs
 have hkl:=Rep.len hok
 rw[List.length_append,List.length_append,List.length_take,List.length_drop] at hkl
 have hju:j+us.length≤Rep.sz α:=by simpa using hju0
 rcases(hp.get k hk).row.2 with⟨_,_,hn⟩|⟨g',of1,cap',cur,e2,hpt,h2,h3,h4,h5⟩
 ·omega
 simp only[Value.slice.injEq,Option.some.injEq,Addr.mk.injEq,and_true,true_and] at e2
 obtain⟨⟨rfl,rfl⟩,rfl⟩:=e2
 have hg:=hpt.look 0 rfl
 have hpos:(i.toNat+1)*Rep.sz α≤l.length*Rep.sz α:=Nat.mul_le_mul_right _ (by omega)
 have hle:l.length*Rep.sz α≤cap*Rep.sz α:=Nat.mul_le_mul_right _ h2
 rw[Nat.add_mul,Nat.one_mul] at hpos
 generalize hiz:i.toNat*Rep.sz α=iz at*
 have one1:∀z∈us,z.oneCell'=true:=fun z hz=>Rep1.one hok z (by simp[hz])
 have r1:=run_storeCells_at P g (of0+iz+j) El us 0 cur w hg (by omega) one1
 simp only[Nat.add_zero] at r1
 refine s_unit wk hd hE (w':=w.setRow g (cur.toList.take (of0+iz+j)++us++cur.toList.drop (of0+iz+j+us.length)).toArray) ?_ (K _ (xs.take iz++(cs.take j++us++cs.drop (j+us.length))++xs.drop (iz+Rep.sz α)) ?_ ?_)
 ·simp[execOp,ho,hE.eval hx,hE.eval hy,Instr.storeAt,Instr.sureAddr,storeVar,ht w,hc,r1]
 ·have:=hR.set i.toNat (a:=e') (by omega) hok
  rw[Nat.add_mul,Nat.one_mul,hiz] at this
  exact this
 have hseg:cs=(xs.drop iz).take (Rep.sz α):=by
  apply List.ext_getElem?
  intro q
  rcases Nat.lt_or_ge q (Rep.sz α) with hq|hq
  ·obtain⟨z,hz⟩:∃z,cs[q]?=some z:=⟨_,List.getElem?_eq_getElem (by omega)⟩
   have hz2:=hgc q z hz
   rw[hz,List.getElem?_take,if_pos hq,List.getElem?_drop,←h5,List.getElem?_take,if_pos (by omega),List.getElem?_drop,Array.getElem?_toList]
   simp only[World.cell?,hg] at hz2
   simp at hz2
   rw[show of0+(iz+q)=of0+iz+q by omega]
   exact hz2.symm
  rw[List.getElem?_eq_none (by omega),List.getElem?_take,if_neg (by omega)]
 refine Hp.put k hlt ?_
 have hq:=(Hp.set (w':=w.setRow g (cur.toList.take (of0+iz+j)++us++cur.toList.drop (of0+iz+j+us.length)).toArray) hpt rfl rfl rfl (setRow_heap w g cur _ El _ hg) (fun k hk=>setRow_other w g k _ hk)).shutO (off:=of0) (n:=l.length) (cap:=cap) (sz:=Rep.sz α) (xs:=xs.take iz++(cs.take j++us++cs.drop (j+us.length))++xs.drop (iz+Rep.sz α)) h2 h3 (by
   simp only[List.size_toArray,List.length_append,List.length_take,List.length_drop,Array.length_toList];omega) (by
   rw[List.toList_toArray]
   have hlenx:(xs.take iz++(cs.take j++us++cs.drop (j+us.length))++xs.drop (iz+Rep.sz α)).length=l.length*Rep.sz α:=by
    simp only[List.length_append,List.length_take,List.length_drop];omega
   apply List.ext_getElem?
   intro q
   rcases Nat.lt_or_ge q (l.length*Rep.sz α) with hq|hq
   ·have hx5:∀q,q<l.length*Rep.sz α→xs[q]?=cur.toList[of0+q]?:=fun q hq=>by
     rw[←h5,List.getElem?_take,if_pos hq,List.getElem?_drop]
    have hcq:∀q,q<Rep.sz α→cs[q]?=cur.toList[of0+iz+q]?:=fun q hq=>by
     rw[hseg,List.getElem?_take,if_pos hq,List.getElem?_drop,hx5 _ (by omega)]
     congr 1;omega
    rw[List.getElem?_take,if_pos hq,List.getElem?_drop]
    have t1:(cur.toList.take (of0+iz+j)).length=of0+iz+j:=by rw[List.length_take,Array.length_toList];omega
    have t2:(xs.take iz).length=iz:=by rw[List.length_take];omega
    have t3:(cs.take j).length=j:=by rw[List.length_take];omega
    have t4:(cs.take j++us++cs.drop (j+us.length)).length=Rep.sz α:=by simp only[List.length_append,List.length_take,List.length_drop];omega
    simp only[List.append_assoc] at t4⊢
    rcases Nat.lt_or_ge q iz with c1|c1
    ·rw[List.getElem?_append_left (by omega),List.getElem?_take,if_pos (by omega),List.getElem?_append_left (by omega),List.getElem?_take,if_pos c1,hx5 q hq]
    rw[List.getElem?_append_right (l₁:=xs.take iz) (by omega),t2]
    rcases Nat.lt_or_ge q (iz+j) with c2|c2
    ·rw[List.getElem?_append_left (by omega),List.getElem?_take,if_pos (by omega),List.getElem?_append_left (by omega),List.getElem?_take,if_pos (by omega),hcq _ (by omega)]
     congr 1;omega
    rw[List.getElem?_append_right (l₁:=cur.toList.take (of0+iz+j)) (by omega),t1,List.getElem?_append_right (l₁:=cs.take j) (by omega),t3]
    rcases Nat.lt_or_ge q (iz+j+us.length) with c3|c3
    ·rw[List.getElem?_append_left (by omega),List.getElem?_append_left (by omega)]
     congr 1;omega
    rw[List.getElem?_append_right (l₁:=us) (by omega),List.getElem?_append_right (l₁:=us) (by omega),List.getElem?_drop]
    rcases Nat.lt_or_ge q (iz+Rep.sz α) with c4|c4
    ·rw[List.getElem?_append_left (by rw[List.length_drop];omega),List.getElem?_drop,hcq _ (by omega)]
     congr 1;omega
    rw[List.getElem?_append_right (by rw[List.length_drop];omega),List.getElem?_drop,List.length_drop,hx5 _ (by omega)]
    congr 1;omega
   rw[List.getElem?_eq_none (by rw[List.length_take];omega),List.getElem?_eq_none (by rw[hlenx];exact hq)])
 unfold oQ
 rw[List.length_set]
 exact hq
end
instance rep1Enc {α:Type} [Enc α]:Rep1 α:=⟨fun h v hv=>by
 have h':_=Enc.enc _:=h
 rw[h'] at hv;exact Enc.one _ v hv,Enc.pos⟩
instance rep1Node:Rep1 Node:=⟨fun{ρ a cs} h v hv=>by
 obtain⟨u,rfl,hu⟩:=NodeAt.opens (show NodeAt ρ a cs from h)
 have h1:=aH.one hu
 simp only[List.mem_cons,List.not_mem_nil,or_false] at hv
 rcases hv with rfl|rfl|rfl|rfl|rfl<;>first|rfl|exact h1,by decide⟩
open Vl (vl)
open Go.ChangeMaps (setBlock)
instance vlSl:Vl Sl:=⟨fun s=>s.v⟩
def mset {κ β:Type} [DecidableEq κ] (l:List (κ×β)) (k:κ) (v:β):List (κ×β):=if mhas l k then U2 l k v else l
section
variable {κ β:Type} [DecidableEq κ]
theorem mhas_iff {l:List (κ×β)} {k:κ}:mhas l k=true↔k∈l.map (·.1):=by
 unfold mhas kS
 rw[Option.isSome_map,List.find?_isSome]
 simp
theorem mget_mem {l:List (κ×β)} (hn:(l.map (·.1)).Nodup) {k:κ} {v:β} (h:(k,v)∈l):kS l k=some v:=by
 obtain⟨j,hj⟩:=List.getElem?_of_mem h
 exact mget_at hn hj
theorem D7 {l:List (κ×β)} (hn:(l.map (·.1)).Nodup) {k:κ} {j:Nat} (h:(l.map (·.1))[j]?=some k):l.filter (fun p=> !decide (p.1=k))=l.eraseIdx j:=by
 induction l generalizing j with
 |nil=>simp at h
 |cons p l ih=>
  rw[List.map_cons,List.nodup_cons] at hn
  cases j with
  |zero=>
   simp at h
   rw[List.filter_cons_of_neg (by simp[h]),List.eraseIdx_cons_zero]
   refine List.filter_eq_self.2 fun q hq=>?_
   simp only[Bool.not_eq_true',decide_eq_false_iff_not]
   intro e
   exact hn.1 (by rw[h,←e];exact List.mem_map_of_mem hq)
  |succ j=>
   simp only[List.map_cons,List.getElem?_cons_succ] at h
   have hne:¬p.1=k:=fun e=>hn.1 (by rw[e];exact List.mem_of_getElem? h)
   rw[List.filter_cons_of_pos (by simp[hne]),ih hn.2 h];rfl
theorem filter_all {l:List (κ×β)} {k:κ} (h:k∉l.map (·.1)):l.filter (fun p=> !decide (p.1=k))=l:=by
 refine List.filter_eq_self.2 fun q hq=>?_
 simp only[Bool.not_eq_true',decide_eq_false_iff_not]
 intro e
 exact h (by rw[←e];exact List.mem_map_of_mem hq)
theorem aB9 {l:List (κ×β)} (hn:(l.map (·.1)).Nodup) {k:κ} {j:Nat} (h:(l.map (·.1))[j]?=some k):∃v,l[j]?=some (k,v)∧kS l k=some v:=by
 rw[List.getElem?_map] at h
 obtain⟨p,hp,rfl⟩:=Option.map_eq_some_iff.1 h
 exact⟨p.2,hp,mget_at hn hp⟩
theorem map_eraseIdx {γ δ:Type} (f:γ→δ) (l:List γ) (i:Nat):(l.eraseIdx i).map f=(l.map f).eraseIdx i:=map_erase f l i
theorem mput_keys_eq {l:List (κ×β)} {γ:Type} {m:List (κ×γ)} (h:l.map (·.1)=m.map (·.1)) (k:κ) (v:β) (u:γ):(U2 l k v).map (·.1)=(U2 m k u).map (·.1):=by
 rw[F5,F5,h]
theorem mput_nodup {l:List (κ×β)} (h:(l.map (·.1)).Nodup) (k:κ) (v:β):((U2 l k v).map (·.1)).Nodup:=by
 rw[F5]
 split
 ·exact h
 rename_i hk
 rw[List.nodup_append]
 refine⟨h,by simp,fun a ha b hb=>?_⟩
 rw[List.mem_singleton.1 hb]
 intro e;exact hk (e▸ha)
end
section
variable {κ α:Type} [DecidableEq κ] [Enc α]
def RowsM (Ti:TypeId) (us:List (κ×Sl)) (l:List (κ×List α)):bI:=fun h=>fZ Ti (us.map Prod.snd) (l.map Prod.snd) h∧us.map (·.1)=l.map (·.1)∧(us.map (·.1)).Nodup
def RowsX (Ti:TypeId) (us:List (κ×Sl)) (l:List (κ×List α)) (k:κ):bI:=fun h=>fZ Ti ((us.filter fun p=> !decide (p.1=k)).map Prod.snd) ((l.filter fun p=> !decide (p.1=k)).map Prod.snd) h∧us.map (·.1)=l.map (·.1)∧(us.map (·.1)).Nodup
omit [DecidableEq κ] in
theorem RowsM.nil (Ti:TypeId):RowsM Ti ([]:List (κ×Sl)) ([]:List (κ×List α)) PH.emp:=⟨rfl,rfl,by simp⟩
def aA9 (ρ:PH) (us:List (κ×Sl)) (l:List (κ×List α)):Prop:=us.map (·.1)=l.map (·.1)∧(us.map (·.1)).Nodup∧∀k,aH ρ ((kS us k).getD Sl.nil).v ((kS l k).getD [])
variable {Z:World} {ρ:PH} {L:List bI} {w:World} {Ti:TypeId} {us:List (κ×Sl)} {l:List (κ×List α)} {k:κ} {v:Value}
omit [DecidableEq κ] in
theorem RowsM.keys (h:Hp Z ρ (RowsM Ti us l::L) w):us.map (·.1)=l.map (·.1):=(Hp.fact (A:=fZ Ti (us.map Prod.snd) (l.map Prod.snd)) h).2.1
omit [DecidableEq κ] [Enc α] in
theorem Hp.addFact {A:bI} {p:Prop} (h:Hp Z ρ (A::L) w) (hp:p):Hp Z ρ ((fun k=>A k∧p)::L) w:=h.imp fun _ a=>⟨a,hp⟩
theorem RowsM.take (h:Hp Z ρ (RowsM Ti us l::L) w) (k:κ):Hp Z ρ (aG Ti ((kS us k).getD Sl.nil).v ((kS l k).getD [])::RowsX Ti us l k::L) w:=by
 obtain⟨hr,hk,hn⟩:=Hp.fact (A:=fZ Ti (us.map Prod.snd) (l.map Prod.snd)) h
 have hn2:(l.map (·.1)).Nodup:=hk▸hn
 have done:Hp Z ρ (aG Ti ((kS us k).getD Sl.nil).v ((kS l k).getD [])::fZ Ti ((us.filter fun p=> !decide (p.1=k)).map Prod.snd) ((l.filter fun p=> !decide (p.1=k)).map Prod.snd)::L) w:=by
  by_cases hm:k∈us.map (·.1)
  ·obtain⟨j,hj⟩:=List.getElem?_of_mem hm
   obtain⟨u,hu,hu2⟩:=aB9 hn hj
   have hj2:(l.map (·.1))[j]?=some k:=hk▸hj
   obtain⟨r,hr1,hr2⟩:=aB9 hn2 hj2
   rw[hu2,hr2,D7 hn hj,D7 hn2 hj2,map_eraseIdx,map_eraseIdx]
   exact hr.to fun s=>(fZ.take j (by rw[List.getElem?_map,hu];rfl) (by rw[List.getElem?_map,hr1];rfl)).1 s
  rw[X3 hm,X3 (hk▸hm),filter_all hm,filter_all (hk▸hm)]
  exact hr.emp (aG.nil Ti)
 exact(((done.get 1 rfl).addFact ⟨hk,hn⟩).get 1 rfl)
theorem RowsX.put {s:Sl} {v:Value} (he:s.v=v) {r:List α} (h:Hp Z ρ (aG Ti v r::RowsX Ti us l k::L) w):Hp Z ρ (RowsM Ti (U2 us k s) (U2 l k r)::L) w:=by
 subst he
 obtain⟨h1,hk,hn⟩:=Hp.fact (A:=fZ Ti ((us.filter fun p=> !decide (p.1=k)).map Prod.snd) ((l.filter fun p=> !decide (p.1=k)).map Prod.snd)) (h.get 1 rfl)
 have hr:=h1.get 1 rfl
 have hn2:(l.map (·.1)).Nodup:=hk▸hn
 refine Hp.addFact ?_ ⟨mput_keys_eq hk k s r,mput_nodup hn k s⟩
 by_cases hm:k∈us.map (·.1)
 ·obtain⟨j,hj⟩:=List.getElem?_of_mem hm
  have hj2:(l.map (·.1))[j]?=some k:=hk▸hj
  have hl1:=(List.getElem?_eq_some_iff.1 hj).1
  have hl2:=(List.getElem?_eq_some_iff.1 hj2).1
  rw[List.length_map] at hl1 hl2
  rw[mput_at hn hj,mput_at hn2 hj2]
  rw[D7 hn hj,D7 hn2 hj2,map_eraseIdx,map_eraseIdx] at hr
  refine hr.to fun t=>(fZ.take j (u:=s) (r:=r) (by rw[List.map_set,List.getElem?_set_self (by simpa using hl1)]) (by rw[List.map_set,List.getElem?_set_self (by simpa using hl2)])).2 ?_
  rw[List.map_set,List.map_set,List.eraseIdx_set_eq,List.eraseIdx_set_eq]
  exact t
 rw[mput_new hm,mput_new (hk▸hm),List.map_append,List.map_append]
 rw[filter_all hm,filter_all (hk▸hm)] at hr
 exact hr.to fun t=>fZ.snoc t
theorem RowsX.back {v:Value} (he:((kS us k).getD Sl.nil).v=v) {r:List α} (h:Hp Z ρ (aG Ti v r::RowsX Ti us l k::L) w):Hp Z ρ (RowsM Ti us (mset l k r)::L) w:=by
 subst he
 obtain⟨h1,hk,hn⟩:=Hp.fact (A:=fZ Ti ((us.filter fun p=> !decide (p.1=k)).map Prod.snd) ((l.filter fun p=> !decide (p.1=k)).map Prod.snd)) (h.get 1 rfl)
 have hr:=h1.get 1 rfl
 have hn2:(l.map (·.1)).Nodup:=hk▸hn
 unfold mset
 by_cases hm:k∈us.map (·.1)
 ·rw[if_pos (mhas_iff.2 (hk▸hm))]
  refine Hp.addFact ?_ ⟨by rw[F5,if_pos (hk▸hm)];exact hk,hn⟩
  obtain⟨j,hj⟩:=List.getElem?_of_mem hm
  have hj2:(l.map (·.1))[j]?=some k:=hk▸hj
  obtain⟨u,hu,hu2⟩:=aB9 hn hj
  have hl2:=(List.getElem?_eq_some_iff.1 hj2).1
  rw[List.length_map] at hl2
  rw[mput_at hn2 hj2]
  rw[hu2,D7 hn hj,D7 hn2 hj2,map_eraseIdx,map_eraseIdx] at hr
  refine hr.to fun t=>(fZ.take j (u:=u) (r:=r) (by rw[List.getElem?_map,hu];rfl) (by rw[List.map_set,List.getElem?_set_self (by simpa using hl2)])).2 ?_
  rw[List.map_set,List.eraseIdx_set_eq]
  exact t
 rw[if_neg (fun h=>hm (hk▸mhas_iff.1 h))]
 refine Hp.addFact ?_ ⟨hk,hn⟩
 rw[filter_all hm,filter_all (hk▸hm)] at hr
 exact hr.drop
theorem RowsM.ro {h:PH} (d:ρ.dj h) (a:RowsM Ti us l h):aA9 (ρ.un h) us l:=by
 obtain⟨hr,hk,hn⟩:=a
 have hn2:(l.map (·.1)).Nodup:=hk▸hn
 refine⟨hk,hn,fun k=>?_⟩
 by_cases hm:k∈us.map (·.1)
 ·obtain⟨j,hj⟩:=List.getElem?_of_mem hm
  obtain⟨u,hu,hu2⟩:=aB9 hn hj
  obtain⟨r,hr1,hr2⟩:=aB9 hn2 (hk▸hj:(l.map (·.1))[j]?=some k)
  rw[hu2,hr2]
  obtain⟨k',h4,h5⟩:=fZ.at_ j hr (by rw[List.getElem?_map,hu];rfl) (by rw[List.getElem?_map,hr1];rfl)
  have h6:aH (PH.emp.un k') u.v r:=aG.ro (PH.dj_emp k').symm h4
  exact h6.mono (by
   have:PH.emp.un k'=k':=by funext x;rfl
   rw[this];exact h5.tr (PH.le_un_r d))
 rw[X3 hm,X3 (hk▸hm)]
 exact aH.nil _
theorem aA9.mono {ρ':PH} (h:aA9 ρ us l) (hl:ρ.le ρ'):aA9 ρ' us l:=⟨h.1,h.2.1,fun k=>(h.2.2 k).mono hl⟩
theorem aA9.get (h:aA9 ρ us l) (k:κ):∃v,((kS us k).getD Sl.nil).v=v∧aH ρ v ((kS l k).getD []):=⟨_,rfl,h.2.2 k⟩
theorem aA9.at_ (h:aA9 ρ us l) {u:Sl} (hm:(k,u)∈us):aH ρ (vl u) ((kS l k).getD []):=by
 have:=h.2.2 k
 rw[mget_mem h.2.1 hm] at this
 exact this
end
section
variable {Rn:Option Nat} {P:Program} {ops:Array Oper} {Q:Exit→Act→World→Prop} {rest:List Oper} {o:Oper} {a:Act} {w:World} {Df:List Deferred} {N:Nat} {E:Ent} {d:Nat} {Z:World} {ρ:PH} {L:List bI}
variable {κ β:Type} [Vl κ] [Vl β]
theorem MapIt.sub {b r:Nat} {l rem:List (κ×β)} {cur:Option (κ×β)} (h:Hp Z ρ (MapIt b r l rem cur::L) w):rem.Sublist l:=by
 obtain⟨es,clock,since,seen,last,_,_,_,_,_,_,h5,_⟩:=h.it
 exact h5
variable [DecidableEq κ]
end
section
variable {Rn:Option Nat} {P:Program} {ops:Array Oper} {Q:Exit→Act→World→Prop} {rest:List Oper} {o:Oper} {a:Act} {w:World} {Df:List Deferred} {N:Nat} {E:Ent} {d:Nat} {Z:World} {ρ:PH} {L:List bI} {C:World→Prop}
variable {α:Type} [Enc α] {T Ti To Tr:TypeId} {v:Value} {us:List Sl} {l:List (List α)} {bytes:Nat}
theorem ex_nil {x:Operand} (ho:o.op= .nilCheck x) (hE:EnvD Df N E a) {p:Addr} (hx:evo E x=some (.pointer (some p))):Ex P C a o (.pointer (some p)):=fun w _=>by
 simp[execOp,ho,hE.eval hx]
theorem fZ.app:∀{us us2:List Sl} {l l2:List (List α)} {ρ h:PH} {L:List bI},Sep ρ (fZ Ti us2 l2::fZ Ti us l::L) h→Sep ρ (fZ Ti (us++us2) (l++l2)::L) h
 | [],us2,[],l2,ρ,h,L,hs=>Sep.cons_mono (fun ρ h s=>Sep.emp1.1 s) hs
 | [],_,_::_,_,_,_,_,hs=>by obtain⟨_,_,_,k,a,_⟩:=hs;exact a.elim
 |_::_,_,[],_,_,_,_,hs=>by obtain⟨_,_,_,k,a,_⟩:=hs;exact a.elim
 |u::us,us2,r::l,l2,ρ,h,L,hs=>
  Sep.two.2 (Sep.cons_mono (fun ρ h s=>fZ.app s) (Sep.swap (Sep.cons_mono (fun ρ h s=>Sep.two.1 s) hs) |> fun s=>Sep.cons_mono (fun ρ h s=>s) s))
end
section
variable {Rn:Option Nat} {P:Program} {fn:Func} {R:Ending→World→Prop} {a:Act} {w:World} {Df:List Deferred} {N:Nat} {E:Ent}
end
def RoFull {α:Type} [Rep α] (ρ:PH) (v:Value) (l:List α):Prop:=aH ρ v l∧∃A,v= .slice A l.length l.length
theorem RoFull.mono {α:Type} [Rep α] {ρ ρ':PH} {v:Value} {l:List α} (h:RoFull ρ v l) (hl:ρ.le ρ'):RoFull ρ' v l:=⟨h.1.mono hl,h.2⟩
section
variable {P:Program} {o:Oper} {a:Act} {C:World→Prop} {Df:List Deferred} {N:Nat} {E:Ent}
end
section
variable {α:Type} [Rep α] [Rep1 α] {Rn:Option Nat} {P:Program} {ops:Array Oper} {Q:Exit→Act→World→Prop} {rest:List Oper} {o:Oper} {a:Act} {w:World} {Df:List Deferred} {N:Nat} {E:Ent} {d:Nat} {Z:World} {ρ:PH} {L:List bI}
end
instance rep1List {α:Type} [Rep α]:Rep1 (List α):=⟨fun h v hv=>by
 obtain⟨u,rfl,h⟩:=h
 rw[List.mem_singleton.1 hv];exact h.one,Nat.one_pos⟩
section
variable {Rn:Option Nat} {P:Program} {ops:Array Oper} {Q:Exit→Act→World→Prop} {rest:List Oper} {o:Oper} {a:Act} {w:World} {Df:List Deferred} {N:Nat} {E:Ent} {d:Nat} {Z:World} {ρ:PH} {L:List bI}
variable {α:Type} [Enc α] {T El:TypeId} {bytes:Nat} {v:Value} {l r:List α}
theorem aG.view (hp:Hp Z ρ L w) (k:Nat) (hk:L[k]?=some (aG El v l)) (ht:SlTy P T El (Enc.sz α) bytes) (lo hi:Option (IntKind×Int)) {i j:Int} (hlo:i=match lo with|none=>0|some p=>p.2) (hhi:j=match hi with|none=>(l.length:Int)|some p=>p.2) (hr:sub l i j=some r):
  ∃v',∀w,(Instr.sliceAt T v (lo.map fun p=> .int p.1 p.2) (hi.map fun p=> .int p.1 p.2) none).run P w= .ok v' w:=by
 obtain⟨κ,ha,hd,_⟩:=(hp.get k hk).lend
 obtain⟨v',h,_⟩:=aH.part (aG.ro hd ha) ht lo hi hlo hhi hr
 exact⟨v',h⟩
omit [Enc α] in
theorem sl_det [Rep α] (w:World) {x y:Option Value} {v1 v2:Value} (h1:∀w,(Instr.sliceAt T v x y none).run P w= .ok v1 w) (h2:∀w,(Instr.sliceAt T v x y none).run P w= .ok v2 w) (h:aH ρ v1 l):aH ρ v2 l:=by
 have:=(h1 w).symm.trans (h2 w)
 injection this with e
 exact e▸h
theorem repAll_flat:∀(l:List α),fC ρ l (flat l)
 | []=>rfl
 |a::l=>⟨Enc.enc a,flat l,by simp[flat],rfl,repAll_flat l⟩
theorem repAll_eq:∀{l:List α} {xs:List Value},fC ρ l xs→xs=flat l
 | [],_,e=>e
 |a::l,_,⟨c,r,e,hc,hr⟩=>by
  have hc':c=Enc.enc a:=hc
  rw[e,hc',repAll_eq hr];simp[flat]
theorem yO (wk:Region.wanted o (yielded ops a.tmps)=true) (hd:o.dst=none) (hE:EnvD Df N E a) (hp:Hp Z ρ L w) {x y:Operand} (ho:o.op= .store T x y) {g off:Nat} (hx:evo E x=some (.pointer (some ⟨g,off,none⟩))) {u:Value} (hy:evo E y=some u) (k:Nat) (hk:L[k]?=some (aG El v l))
  {i:Int} {e:α} (hi:idx l i=some e) (hv:∃of0 cap,v= .slice (some ⟨g,of0,none⟩) l.length cap∧off=of0+i.toNat*Enc.sz α) {e':α} (ht:∀w,(sizeOf T).run P w= .ok (Enc.enc e').length w) (hc:u.cells=(Enc.enc e').toArray) (hgc:∀(q:Nat) (z:Value),(Enc.enc e)[q]?=some z→w.cell? ⟨g,off+q,none⟩=some z)
  (K:∀w,Hp Z ρ (L.set k (aG El v (l.set i.toNat e'))) w→wpL Rn P ops Q rest a w):wpL Rn P ops Q (o::rest) a w:=by
 have h1:=Enc.len e'
 have h2:=Enc.len e
 refine s_stelR wk hd hE hp ho hx hy k (xs:=flat l) hk (repAll_flat l) hi hv 0 ht rfl hc (cs:=Enc.enc e) (e':=e') rfl hgc ?_ ?_ fun w xs' hR hw=>K w ?_
 ·show _=Enc.enc e'
  rw[List.take_zero,List.nil_append,Nat.zero_add,List.drop_of_length_le (by omega),List.append_nil]
 ·show Nat.ble (0+(Enc.enc e').length) (Enc.sz α)=true
  rw[Nat.ble_eq];omega
 rw[repAll_eq hR] at hw
 exact hw
omit [Enc α] in
theorem s_unitV (wk:Region.wanted o (yielded ops a.tmps)=true) (hd:o.dst=none) (hE:EnvD Df N E a) {u:Value} {w':World} (hx:(execOp a.eval o).run P w= .ok (.value u) w') (K:wpL Rn P ops Q rest a w'):wpL Rn P ops Q (o::rest) a w:=
 l_value wk hx (by rw[hd];exact K)
end
end Go.Proofs.YtopnldfjcciieaaGreat

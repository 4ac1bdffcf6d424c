/- Models of: assessor/distance.large$1, slices.IndexFunc[[]assessor/api.Node,assessor/api.Node]@assessor/distance.large$1, slices.ContainsFunc[[]assessor/api.Node -/
import Derived.Test.YtopnldfjcciieaaGreatKAp3
import Derived.Test.YtopnldfjcciieaaGreatKAp2
set_option linter.unusedVariables false
set_option linter.unusedSimpArgs false
namespace Go.Proofs.YtopnldfjcciieaaGreat
open Go.RowKit
noncomputable def wK (p0:Node):Option Bool:=
 (m_count p0).bind fun x1=>
 some (decide (256<x1))
noncomputable def nR (p0:(List Node)) (aO:Int):Option (Step Int (Out Unit Int)):=
 if(decide (aO<(p0.length:Int)))=true then
  (idx p0 aO).bind fun x1=>
  (wK x1).bind fun x2=>
  if x2=true then
   some (.done (.ret aO))
  else
   (inK .i64 (aO+1)).bind fun x3=>
   some (.next x3)
 else
  some (.done (.brk ()))
noncomputable def kZ (p0:(List Node)):Option Int:=
 (eQ (fun s=>nR p0 s) 0:Option (Out Unit Int)).bind fun b1=>
 match b1 with
 | .brk b1s=>
  some (-1)
 | .ret r=>some r
noncomputable def jR (p0:(List Node)):Option Bool:=
 (kZ p0).bind fun x1=>
 some (decide (0≤x1))
noncomputable def yP (p0:(List Node)):Option Bool:=
 (jR p0).bind fun x1=>
 some x1
noncomputable def sN (p0:Node) (self:Node→Int→DFlat→Option (Int×DFlat)) (aO:Int) (aS:Int) (dS:(List Lbl)) (fK:(List Int)) (lp1_4:(List Int)):Option (Step (Int×Int×(List Lbl)×(List Int)×(List Int)) (Int×(List Lbl)×(List Int)×(List Int))):=
 if(decide (aO<(p0.kids.length:Int)))=true then
  (idx p0.kids aO).bind fun x2=>
  (self x2 aS (DFlat.mk dS fK lp1_4)).bind fun x3=>
  (inK .i64 (aO+1)).bind fun x4=>
  some (.next (x4,x3.1,x3.2.labels,x3.2.left,x3.2.numbers))
 else
  some (.done (aS,dS,fK,lp1_4))
noncomputable def qJ (self:Node→Int→DFlat→Option (Int×DFlat)) (p0:Node) (cp0:Int) (cp1:DFlat):Option (Int×DFlat):=
 (inK .i64 (cp0+1)).bind fun x1=>
 (eQ (fun s=>sN p0 self s.1 s.2.1 s.2.2.1 s.2.2.2.1 s.2.2.2.2) (0,x1,cp1.labels,cp1.left,cp1.numbers):Option (Int×(List Lbl)×(List Int)×(List Int))).bind fun b2=>
 (app b2.2.1 [(Lbl.mk p0.kind p0.text)]).bind fun x5=>
 (app b2.2.2.1 [(cp1.labels.length:Int)]).bind fun x6=>
 (app b2.2.2.2 [cp0]).bind fun x7=>
 some (b2.1,(DFlat.mk x5 x6 x7))
noncomputable def pI:Nat→Node→Int→DFlat→Option (Int×DFlat)
 |0=>fun _ _ _=>none
 |n+1=>qJ (pI n)
noncomputable def zK (p0:Node) (cp0:Int) (cp1:DFlat):Option (Int×DFlat):=pI (SizeOf.sizeOf p0+1) p0 cp0 cp1
noncomputable def sZ (p0:Node):Option DFlat:=
 (zK p0 0 (DFlat.mk ([]) ([]) ([]))).bind fun x1=>
 some x1.2
noncomputable def vW (p0:DFlat) (aO:Int) (aS:(List (Int×Int))):Option (Step (Int×(List (Int×Int))) (List (Int×Int))):=
 if(decide (aO<(p0.left.length:Int)))=true then
  (idx p0.left aO).bind fun x1=>
  (inK .i64 (aO+1)).bind fun x2=>
  some (.next (x2,Q5 aS x1 aO))
 else
  some (.done aS)
noncomputable def qG (p0:DFlat):Option (List Int):=
 (eQ (fun s=>vW p0 s.1 s.2) (0,[]):Option (List (Int×Int))).bind fun b3=>
 (aA3 b3).bind fun x3=>
 some x3
noncomputable def zL (p1:Int) (x1:(List (List Int))) (aO:Int) (aS:(List (List Int))):Option (Step (Int×(List (List Int))) (List (List Int))):=
 if(decide (aO<(x1.length:Int)))=true then
  (mkc p1 p1 (0:Int)).bind fun x2=>
  (idx aS aO).bind fun x3=>
  (inK .i64 (aO+1)).bind fun x4=>
  some (.next (x4,aS.set aO.toNat x2))
 else
  some (.done aS)
noncomputable def rP (p0:Int) (p1:Int):Option (List (List Int)):=
 (mkc p0 p0 ([]:(List Int))).bind fun x1=>
 (eQ (fun s=>zL p1 x1 s.1 s.2) (0,x1):Option (List (List Int))).bind fun b1=>
 some b1
noncomputable def yB (p0:DFlat) (p1:DFlat) (p2:(List (List Int))):Option (List (List Int)):=
 some p2
noncomputable def xB (x7:(List (List Int))) (aO:Int) (aS:(List (List Int))):Option (Step (Int×(List (List Int))) (List (List Int))):=
 if(decide (aO<(x7.length:Int)))=true then
  (idx aS aO).bind fun x8=>
  (idx x8 0).bind fun x9=>
  (inK .i64 (aO+1)).bind fun x10=>
  some (.next (x10,aS.set aO.toNat (x8.set (0:Int).toNat aO)))
 else
  some (.done aS)
noncomputable def xC (x11:(List Int)) (bK:Int) (dV:(List (List Int))):Option (Step (Int×(List (List Int))) (List (List Int))):=
 if(decide (bK<(x11.length:Int)))=true then
  (idx dV 0).bind fun x12=>
  (idx x12 bK).bind fun x13=>
  (inK .i64 (bK+1)).bind fun x14=>
  some (.next (x14,dV.set (0:Int).toNat (x12.set bK.toNat bK)))
 else
  some (.done dV)
noncomputable def xG (p1:Int) (cp0:DFlat) (cp1:DFlat) (x1:Int) (x2:Int) (gG:Int) (mQ:Int) (nZ:(List (List Int))) (aA9:(List (List Int))):Option (Step (Int×(List (List Int))×(List (List Int))) ((List (List Int))×(List (List Int)))):=
 if(decide (mQ≤p1))=true then
  (((inK .i64 (gG-x1)).bind fun x15=>
  (inK .i64 (x15+1)).bind fun x16=>
  (inK .i64 (mQ-x2)).bind fun x17=>
  (inK .i64 (x17+1)).bind fun x18=>
  (inK .i64 (x16-1)).bind fun x19=>
  (idx nZ x19).bind fun x20=>
  (idx x20 x18).bind fun x21=>
  (idx nZ x16).bind fun x22=>
  (inK .i64 (x18-1)).bind fun x23=>
  (idx x22 x23).bind fun x24=>
  (inK .i64 ((min x21 x24)+1)).bind fun x25=>
  (idx cp0.left gG).bind fun x26=>
  ((if(!decide (x26=x1))=true then
   some true
  else
   (idx cp1.left mQ).bind fun x27=>
   some (!decide (x27=x2))):Option Bool).bind fun m1=>
  if m1=true then
   (idx nZ x16).bind fun x28=>
   (idx cp0.left gG).bind fun x29=>
   (inK .i64 (x29-x1)).bind fun x30=>
   (idx nZ x30).bind fun x31=>
   (idx cp1.left mQ).bind fun x32=>
   (inK .i64 (x32-x2)).bind fun x33=>
   (idx x31 x33).bind fun x34=>
   (idx aA9 gG).bind fun x35=>
   (idx x35 mQ).bind fun x36=>
   (inK .i64 (x34+x36)).bind fun x37=>
   (idx x28 x18).bind fun x38=>
   some (nZ.set x16.toNat (x28.set x18.toNat (min x25 x37)),aA9)
  else
   (inK .i64 (x16-1)).bind fun x39=>
   (idx nZ x39).bind fun x40=>
   (inK .i64 (x18-1)).bind fun x41=>
   (idx x40 x41).bind fun x42=>
   (idx cp0.labels gG).bind fun x43=>
   (idx cp1.labels mQ).bind fun x44=>
   ((if(!((decide (x43.kind=x44.kind))&&(decide (x43.text=x44.text))))=true then
    (inK .i64 (x42+1)).bind fun x45=>
    some x45
   else
    some x42):Option Int).bind fun j2=>
   (idx nZ x16).bind fun x46=>
   (idx x46 x18).bind fun x47=>
   (idx aA9 gG).bind fun x48=>
   (idx (nZ.set x16.toNat (x46.set x18.toNat (min x25 j2))) x16).bind fun x49=>
   (idx x49 x18).bind fun x50=>
   (idx x48 mQ).bind fun x51=>
   some (nZ.set x16.toNat (x46.set x18.toNat (min x25 j2)),aA9.set gG.toNat (x48.set mQ.toNat x50))):Option ((List (List Int))×(List (List Int)))).bind fun j1=>
  (inK .i64 (mQ+1)).bind fun x52=>
  some (.next (x52,j1.1,j1.2))
 else
  some (.done (nZ,aA9))
noncomputable def xE (p0:Int) (p1:Int) (cp0:DFlat) (cp1:DFlat) (x1:Int) (x2:Int) (gG:Int) (wZ:(List (List Int))) (lp3_2:(List (List Int))):Option (Step (Int×(List (List Int))×(List (List Int))) ((List (List Int))×(List (List Int)))):=
 if(decide (gG≤p0))=true then
  (eQ (fun s=>xG p1 cp0 cp1 x1 x2 gG s.1 s.2.1 s.2.2) (x2,wZ,lp3_2):Option ((List (List Int))×(List (List Int)))).bind fun b11=>
  (inK .i64 (gG+1)).bind fun x53=>
  some (.next (x53,b11.1,b11.2))
 else
  some (.done (wZ,lp3_2))
noncomputable def wB (p0:Int) (p1:Int) (cp0:DFlat) (cp1:DFlat) (cp2:(List (List Int))):Option (List (List Int)):=
 (idx cp0.left p0).bind fun x1=>
 (idx cp1.left p1).bind fun x2=>
 (inK .i64 (p0-x1)).bind fun x3=>
 (inK .i64 (x3+2)).bind fun x4=>
 (inK .i64 (p1-x2)).bind fun x5=>
 (inK .i64 (x5+2)).bind fun x6=>
 (rP x4 x6).bind fun x7=>
 (eQ (fun s=>xB x7 s.1 s.2) (0,x7):Option (List (List Int))).bind fun b3=>
 (idx b3 0).bind fun x11=>
 (eQ (fun s=>xC x11 s.1 s.2) (0,b3):Option (List (List Int))).bind fun b7=>
 (eQ (fun s=>xE p0 p1 cp0 cp1 x1 x2 s.1 s.2.1 s.2.2) (x1,b7,cp2):Option ((List (List Int))×(List (List Int)))).bind fun b10=>
 some b10.2
noncomputable def xI (x1:DFlat) (x2:DFlat) (x6:Int) (x7:(List Int)) (bK:Int) (dV:(List (List Int))):Option (Step (Int×(List (List Int))) (List (List Int))):=
 if(decide (bK<(x7.length:Int)))=true then
  (idx x7 bK).bind fun x8=>
  (wB x6 x8 x1 x2 dV).bind fun x9=>
  (inK .i64 (bK+1)).bind fun x10=>
  some (.next (x10,x9))
 else
  some (.done dV)
noncomputable def xH (x1:DFlat) (x2:DFlat) (x5:(List Int)) (aO:Int) (aS:(List (List Int))):Option (Step (Int×(List (List Int))) (List (List Int))):=
 if(decide (aO<(x5.length:Int)))=true then
  (idx x5 aO).bind fun x6=>
  (qG x2).bind fun x7=>
  (eQ (fun s=>xI x1 x2 x6 x7 s.1 s.2) (0,aS):Option (List (List Int))).bind fun b28=>
  (inK .i64 (aO+1)).bind fun x11=>
  some (.next (x11,b28))
 else
  some (.done aS)
noncomputable def xK (x1:DFlat) (x2:DFlat) (gG:Int) (x13:(List Int)) (mQ:Int) (nZ:(List (List Int))):Option (Step (Int×(List (List Int))) (List (List Int))):=
 if(decide (mQ<(x13.length:Int)))=true then
  (idx x13 mQ).bind fun x14=>
  (idx x1.numbers gG).bind fun x15=>
  (idx nZ x15).bind fun x16=>
  (idx x2.numbers mQ).bind fun x17=>
  (idx x16 x17).bind fun x18=>
  (inK .i64 (mQ+1)).bind fun x19=>
  some (.next (x19,nZ.set x15.toNat (x16.set x17.toNat x14)))
 else
  some (.done nZ)
noncomputable def xJ (x1:DFlat) (x2:DFlat) (b26:(List (List Int))) (gG:Int) (wZ:(List (List Int))):Option (Step (Int×(List (List Int))) (List (List Int))):=
 if(decide (gG<(b26.length:Int)))=true then
  (idx b26 gG).bind fun x13=>
  (eQ (fun s=>xK x1 x2 gG x13 s.1 s.2) (0,wZ):Option (List (List Int))).bind fun b32=>
  (inK .i64 (gG+1)).bind fun x20=>
  some (.next (x20,b32))
 else
  some (.done wZ)
noncomputable def wC (p0:Node) (p1:Node):Option (List (List Int)):=
 (sZ p0).bind fun x1=>
 (sZ p1).bind fun x2=>
 (rP (x1.labels.length:Int) (x2.labels.length:Int)).bind fun x3=>
 (yB x1 x2 x3).bind fun x4=>
 (qG x1).bind fun x5=>
 (eQ (fun s=>xH x1 x2 x5 s.1 s.2) (0,x4):Option (List (List Int))).bind fun b26=>
 (rP (x1.labels.length:Int) (x2.labels.length:Int)).bind fun x12=>
 (eQ (fun s=>xJ x1 x2 b26 s.1 s.2) (0,x12):Option (List (List Int))).bind fun b30=>
 some b30
noncomputable def vZ (p0:Node) (p1:Node):Option ((List (List Int))×Int):=
 (yP ([p0,p1]:List Node)).bind fun x1=>
 if x1=true then
  some ([],8)
 else
  (wC p0 p1).bind fun x2=>
  some (x2,0)
noncomputable def aA2 (p0:Int) (p1:Int):Option (Int×Int):=
 (shrK .u64 p0 32).bind fun x1=>
 (shrK .u64 p1 32).bind fun x2=>
 (shrK .u64 (IntKind.wrap .u64 ((andK .u64 p0 4294967295)*(andK .u64 p1 4294967295))) 32).bind fun x3=>
 (shrK .u64 (IntKind.wrap .u64 ((IntKind.wrap .u64 (x1*(andK .u64 p1 4294967295)))+x3)) 32).bind fun x4=>
 (shrK .u64 (IntKind.wrap .u64 ((andK .u64 (IntKind.wrap .u64 ((IntKind.wrap .u64 (x1*(andK .u64 p1 4294967295)))+x3)) 4294967295)+(IntKind.wrap .u64 ((andK .u64 p0 4294967295)*x2)))) 32).bind fun x5=>
 some (IntKind.wrap .u64 ((IntKind.wrap .u64 ((IntKind.wrap .u64 (x1*x2))+x4))+x5),IntKind.wrap .u64 (p0*p1))
noncomputable def aF4 (p0:Int) (p1:Int):Option (Int×Int):=
 (aA2 p0 p1).bind fun x1=>
 some (x1.1,x1.2)
noncomputable def tK (aO:Int) (aS:(List Int)):Option (Step (Int×(List Int)) (List Int)):=
 if(decide (aO<(aS.length:Int)))=true then
  (sub aS aO (aS.length:Int)).bind fun x4=>
  (sub aS 0 aO).bind fun x5=>
  (inK .i64 (aO+((min x5.length x4.length:Nat):Int))).bind fun x6=>
  some (.next (x6,aS.take aO.toNat++cpy x4 x5))
 else
  some (.done aS)
noncomputable def nT (p0:(List Int)) (p1:Int):Option (List Int):=
 ((if(decide (p1<0))=true then
  none
 else
  some ()):Option Unit).bind fun j1=>
 (aF4 (IntKind.wrap .u64 (p0.length:Int)) (IntKind.wrap .u64 p1)).bind fun x1=>
 ((if((decide (0<x1.1))||(decide (9223372036854775807<x1.2)))=true then
  none
 else
  some ()):Option Unit).bind fun j2=>
 (inK .i64 x1.2).bind fun x2=>
 (mkc x2 x2 (0:Int)).bind fun x3=>
 (eQ (fun s=>tK s.1 s.2) (((min p0.length x3.length:Nat):Int),cpy x3 p0):Option (List Int)).bind fun b1=>
 some b1
noncomputable def Q8 (x10:Alg) (aO:Int) (aS:(List Opn)):Option (Step (Int×(List Opn)) (List Opn)):=
 if(decide (aO<(x10.partner.length:Int)))=true then
  (idx x10.partner aO).bind fun x11=>
  (app aS [(Opn.mk aO x11)]).bind fun x12=>
  (inK .i64 (aO+1)).bind fun x13=>
  some (.next (x13,x12))
 else
  some (.done aS)
noncomputable def Q9 (x10:Alg) (bK:Int) (dV:(List Opn)):Option (Step (Int×(List Opn)) (List Opn)):=
 if(decide (bK<(x10.back.length:Int)))=true then
  (idx x10.back bK).bind fun x14=>
  if(decide (x14<0))=true then
   (app dV [(Opn.mk (-1) bK)]).bind fun x15=>
   (inK .i64 (bK+1)).bind fun x16=>
   some (.next (x16,x15))
  else
   (inK .i64 (bK+1)).bind fun x17=>
   some (.next (x17,dV))
 else
  some (.done dV)
noncomputable def U9 (p0:Node) (p1:Node):Option ((List Opn)×Int):=
 (vZ p0 p1).bind fun x1=>
 if(!decide (x1.2=0))=true then
  some ([],x1.2)
 else
  (kY p0).bind fun x2=>
  (kY p1).bind fun x3=>
  (qB x2).bind fun x4=>
  (qB x3).bind fun x5=>
  (nT ([(-1)]:List Int) (x2.nodes.length:Int)).bind fun x6=>
  (nT ([(-1)]:List Int) (x3.nodes.length:Int)).bind fun x7=>
  (inK .i64 ((x4.1.length:Int)-1)).bind fun x8=>
  (inK .i64 ((x5.1.length:Int)-1)).bind fun x9=>
  (zJ (Alg.mk x2 x3 x4.1 x4.2 x5.1 x5.2 x1.1 x6 x7) x8 x9).bind fun x10=>
  (eQ (fun s=>Q8 x10 s.1 s.2) (0,[]):Option (List Opn)).bind fun b12=>
  (eQ (fun s=>Q9 x10 s.1 s.2) (0,b12):Option (List Opn)).bind fun b15=>
  some (b15,0)
noncomputable def xZ (p0:Opn) (cp0:Int):Option Bool:=
 some (decide (p0.a=cp0))
noncomputable def oC (p0:(List Opn)) (p1c0:Int) (aO:Int):Option (Step Int (Out Unit Int)):=
 if(decide (aO<(p0.length:Int)))=true then
  (idx p0 aO).bind fun x1=>
  (xZ x1 p1c0).bind fun x2=>
  if x2=true then
   some (.done (.ret aO))
  else
   (inK .i64 (aO+1)).bind fun x3=>
   some (.next x3)
 else
  some (.done (.brk ()))
noncomputable def lI (p0:(List Opn)) (p1c0:Int):Option Int:=
 (eQ (fun s=>oC p0 p1c0 s) 0:Option (Out Unit Int)).bind fun b1=>
 match b1 with
 | .brk b1s=>
  some (-1)
 | .ret r=>some r
noncomputable def wI (p0:(List Opn)) (p1:Int):Option (Int×Bool):=
 (lI p0 p1).bind fun x1=>
 ((if((decide (x1<0))||(decide (p1<0)))=true then
  some true
 else
  (idx p0 x1).bind fun x2=>
  some (decide (x2.b<0))):Option Bool).bind fun m1=>
 if m1=true then
  some (0,false)
 else
  (idx p0 x1).bind fun x3=>
  some (x3.b,true)
noncomputable def vP (p0:Int):Option Bool:=
 some (!decide (p0=p0))
noncomputable def sW (p0:Int) (p1:Int):Option Int:=
 (vP p0).bind fun x1=>
 (vP p1).bind fun x2=>
 if x1=true then
  if x2=true then
   some 0
  else
   some (-1)
 else
  if x2=true then
   some 1
  else
   if(decide (p0<p1))=true then
    some (-1)
   else
    if(decide (p1<p0))=true then
     some 1
    else
     some 0
noncomputable def pR (p0:Opn) (p1:Opn):Option Int:=
 if((decide (0≤p0.a))&&(decide (0≤p1.a)))=true then
  (sW p0.a p1.a).bind fun x1=>
  some x1
 else
  if((decide (p0.a<0))&&(decide (p1.a<0)))=true then
   (sW p0.b p1.b).bind fun x2=>
   some x2
  else
   if(decide (0≤p0.a))=true then
    some (-1)
   else
    some 1
noncomputable def kH (p1:Int) (bK:Int) (dV:(List Opn)):Option (Step (Int×(List Opn)) (List Opn)):=
 ((if(decide (p1<bK))=true then
  (idx dV bK).bind fun x2=>
  (inK .i64 (bK-1)).bind fun x3=>
  (idx dV x3).bind fun x4=>
  (pR x2 x4).bind fun x5=>
  some (decide (x5<0))
 else
  some false):Option Bool).bind fun m1=>
 if m1=true then
  (inK .i64 (bK-1)).bind fun x6=>
  (inK .i64 (bK-1)).bind fun x7=>
  (idx dV x7).bind fun x8=>
  (idx dV bK).bind fun x9=>
  (idx dV bK).bind fun x10=>
  (idx (dV.set bK.toNat x8) x6).bind fun x11=>
  (inK .i64 (bK-1)).bind fun x12=>
  some (.next (x12,(dV.set bK.toNat x8).set x6.toNat x9))
 else
  some (.done dV)
noncomputable def kG (p1:Int) (p2:Int) (aO:Int) (aS:(List Opn)):Option (Step (Int×(List Opn)) (List Opn)):=
 if(decide (aO<p2))=true then
  (eQ (fun s=>kH p1 s.1 s.2) (aO,aS):Option (List Opn)).bind fun b2=>
  (inK .i64 (aO+1)).bind fun x13=>
  some (.next (x13,b2))
 else
  some (.done aS)
noncomputable def fV (p0:(List Opn)) (p1:Int) (p2:Int):Option (List Opn):=
 (inK .i64 (p1+1)).bind fun x1=>
 (eQ (fun s=>kG p1 p2 s.1 s.2) (x1,p0):Option (List Opn)).bind fun b1=>
 some b1
noncomputable def lQ (p1:Int) (p2:Int) (p3:Int) (aO:Int) (aS:(List Opn)):Option (Step (Int×(List Opn)) (List Opn)):=
 if(decide (aO<p3))=true then
  (inK .i64 (p1+aO)).bind fun x1=>
  (inK .i64 (p2+aO)).bind fun x2=>
  (inK .i64 (p2+aO)).bind fun x3=>
  (idx aS x3).bind fun x4=>
  (inK .i64 (p1+aO)).bind fun x5=>
  (idx aS x5).bind fun x6=>
  (idx aS x1).bind fun x7=>
  (idx (aS.set x1.toNat x4) x2).bind fun x8=>
  (inK .i64 (aO+1)).bind fun x9=>
  some (.next (x9,(aS.set x1.toNat x4).set x2.toNat x6))
 else
  some (.done aS)
noncomputable def fE (p0:(List Opn)) (p1:Int) (p2:Int) (p3:Int):Option (List Opn):=
 (eQ (fun s=>lQ p1 p2 p3 s.1 s.2) (0,p0):Option (List Opn)).bind fun b1=>
 some b1
noncomputable def mV (p2:Int) (aO:Int) (aS:Int) (dS:(List Opn)):Option (Step (Int×Int×(List Opn)) (Int×(List Opn))):=
 if(!decide (aO=aS))=true then
  if(decide (aS<aO))=true then
   (inK .i64 (p2-aO)).bind fun x3=>
   (fE dS x3 p2 aS).bind fun x4=>
   (inK .i64 (aO-aS)).bind fun x5=>
   some (.next (x5,aS,x4))
  else
   (inK .i64 (p2-aO)).bind fun x6=>
   (inK .i64 (p2+aS)).bind fun x7=>
   (inK .i64 (x7-aO)).bind fun x8=>
   (fE dS x6 x8 aO).bind fun x9=>
   (inK .i64 (aS-aO)).bind fun x10=>
   some (.next (aO,x10,x9))
 else
  some (.done (aO,dS))
noncomputable def kE (p0:(List Opn)) (p1:Int) (p2:Int) (p3:Int):Option (List Opn):=
 (inK .i64 (p2-p1)).bind fun x1=>
 (inK .i64 (p3-p2)).bind fun x2=>
 (eQ (fun s=>mV p2 s.1 s.2.1 s.2.2) (x1,x2,p0):Option (Int×(List Opn))).bind fun b1=>
 (inK .i64 (p2-b1.1)).bind fun x11=>
 (fE b1.2 x11 p2 b1.1).bind fun x12=>
 some x12
noncomputable def kJ (p0:(List Opn)) (p1:Int) (aO:Int) (aS:Int):Option (Step (Int×Int) Int):=
 if(decide (aO<aS))=true then
  (inK .i64 (aO+aS)).bind fun x2=>
  (shrK .u64 (IntKind.wrap .u64 x2) 1).bind fun x3=>
  (inK .i64 x3).bind fun x4=>
  (idx p0 x4).bind fun x5=>
  (idx p0 p1).bind fun x6=>
  (pR x5 x6).bind fun x7=>
  if(decide (x7<0))=true then
   (inK .i64 (x4+1)).bind fun x8=>
   some (.next (x8,aS))
  else
   some (.next (aO,x4))
 else
  some (.done aO)
noncomputable def kK (b1:Int) (bK:Int) (dV:(List Opn)):Option (Step (Int×(List Opn)) (List Opn)):=
 (inK .i64 (b1-1)).bind fun x9=>
 if(decide (bK<x9))=true then
  (inK .i64 (bK+1)).bind fun x10=>
  (inK .i64 (bK+1)).bind fun x11=>
  (idx dV x11).bind fun x12=>
  (idx dV bK).bind fun x13=>
  (idx dV bK).bind fun x14=>
  (idx (dV.set bK.toNat x12) x10).bind fun x15=>
  (inK .i64 (bK+1)).bind fun x16=>
  some (.next (x16,(dV.set bK.toNat x12).set x10.toNat x13))
 else
  some (.done dV)
noncomputable def kL (p0:(List Opn)) (p2:Int) (gG:Int) (wZ:Int):Option (Step (Int×Int) Int):=
 if(decide (gG<wZ))=true then
  (inK .i64 (gG+wZ)).bind fun x18=>
  (shrK .u64 (IntKind.wrap .u64 x18) 1).bind fun x19=>
  (inK .i64 x19).bind fun x20=>
  (idx p0 p2).bind fun x21=>
  (idx p0 x20).bind fun x22=>
  (pR x21 x22).bind fun x23=>
  if(!(decide (x23<0)))=true then
   (inK .i64 (x20+1)).bind fun x24=>
   some (.next (x24,wZ))
  else
   some (.next (gG,x20))
 else
  some (.done gG)
noncomputable def kM (b15:Int) (mQ:Int) (nZ:(List Opn)):Option (Step (Int×(List Opn)) (List Opn)):=
 if(decide (b15<mQ))=true then
  (inK .i64 (mQ-1)).bind fun x25=>
  (inK .i64 (mQ-1)).bind fun x26=>
  (idx nZ x26).bind fun x27=>
  (idx nZ mQ).bind fun x28=>
  (idx nZ mQ).bind fun x29=>
  (idx (nZ.set mQ.toNat x27) x25).bind fun x30=>
  (inK .i64 (mQ-1)).bind fun x31=>
  some (.next (x31,(nZ.set mQ.toNat x27).set x25.toNat x28))
 else
  some (.done nZ)
noncomputable def kN (p0:(List Opn)) (x37:Int) (lp5_0:Int) (lp5_1:Int):Option (Step (Int×Int) Int):=
 if(decide (lp5_0<lp5_1))=true then
  (inK .i64 (lp5_0+lp5_1)).bind fun x38=>
  (shrK .u64 (IntKind.wrap .u64 x38) 1).bind fun x39=>
  (inK .i64 x39).bind fun x40=>
  (inK .i64 (x37-x40)).bind fun x41=>
  (idx p0 x41).bind fun x42=>
  (idx p0 x40).bind fun x43=>
  (pR x42 x43).bind fun x44=>
  if(!(decide (x44<0)))=true then
   (inK .i64 (x40+1)).bind fun x45=>
   some (.next (x45,lp5_1))
  else
   some (.next (lp5_0,x40))
 else
  some (.done lp5_0)
noncomputable def iL (self:(List Opn)→Int→Int→Int→Option (List Opn)) (p0:(List Opn)) (p1:Int) (p2:Int) (p3:Int):Option (List Opn):=
 (inK .i64 (p2-p1)).bind fun x1=>
 if(decide (x1=1))=true then
  (eQ (fun s=>kJ p0 p1 s.1 s.2) (p2,p3):Option Int).bind fun b1=>
  (eQ (fun s=>kK b1 s.1 s.2) (p1,p0):Option (List Opn)).bind fun b6=>
  some b6
 else
  (inK .i64 (p3-p2)).bind fun x17=>
  if(decide (x17=1))=true then
   (eQ (fun s=>kL p0 p2 s.1 s.2) (p1,p2):Option Int).bind fun b15=>
   (eQ (fun s=>kM b15 s.1 s.2) (p2,p0):Option (List Opn)).bind fun b20=>
   some b20
  else
   (inK .i64 (p1+p3)).bind fun x32=>
   (shrK .u64 (IntKind.wrap .u64 x32) 1).bind fun x33=>
   (inK .i64 x33).bind fun x34=>
   (inK .i64 (x34+p2)).bind fun x35=>
   ((if(decide (x34<p2))=true then
    (inK .i64 (x35-p3)).bind fun x36=>
    some (x36,x34)
   else
    some (p1,p2)):Option (Int×Int)).bind fun j1=>
   (inK .i64 (x35-1)).bind fun x37=>
   (eQ (fun s=>kN p0 x37 s.1 s.2) (j1.1,j1.2):Option Int).bind fun b29=>
   (inK .i64 (x35-b29)).bind fun x46=>
   ((if((decide (b29<p2))&&(decide (p2<x46)))=true then
    (kE p0 b29 p2 x46).bind fun x47=>
    some x47
   else
    some p0):Option (List Opn)).bind fun j2=>
   ((if((decide (p1<b29))&&(decide (b29<x34)))=true then
    (self j2 p1 b29 x34).bind fun x48=>
    some x48
   else
    some j2):Option (List Opn)).bind fun j3=>
   if((decide (x34<x46))&&(decide (x46<p3)))=true then
    (self j3 x34 x46 p3).bind fun x49=>
    some x49
   else
    some j3
noncomputable def gJ:Nat→(List Opn)→Int→Int→Int→Option (List Opn)
 |0=>fun _ _ _ _=>none
 |n+1=>iL (gJ n)
noncomputable def jK (p0:(List Opn)) (p1:Int) (p2:Int) (p3:Int):Option (List Opn):=gJ ((p3-p1).toNat+1) p0 p1 p2 p3
noncomputable def mW (p1:Int) (aO:Int) (aS:Int) (dS:(List Opn)):Option (Step (Int×Int×(List Opn)) (Int×(List Opn))):=
 if(decide (aS≤p1))=true then
  (fV dS aO aS).bind fun x1=>
  (inK .i64 (aS+20)).bind fun x2=>
  some (.next (aS,x2,x1))
 else
  some (.done (aO,dS))
noncomputable def mY (p1:Int) (bK:Int) (gG:Int) (wZ:Int) (lp3_2:(List Opn)):Option (Step (Int×Int×(List Opn)) (Int×(List Opn))):=
 if(decide (wZ≤p1))=true then
  (inK .i64 (gG+bK)).bind fun x5=>
  (jK lp3_2 gG x5 wZ).bind fun x6=>
  (inK .i64 (2*bK)).bind fun x7=>
  (inK .i64 (wZ+x7)).bind fun x8=>
  some (.next (wZ,x8,x6))
 else
  some (.done (gG,lp3_2))
noncomputable def mX (p1:Int) (bK:Int) (dV:(List Opn)):Option (Step (Int×(List Opn)) (List Opn)):=
 if(decide (bK<p1))=true then
  (inK .i64 (2*bK)).bind fun x4=>
  (eQ (fun s=>mY p1 bK s.1 s.2.1 s.2.2) (0,x4,dV):Option (Int×(List Opn))).bind fun b3=>
  (inK .i64 (b3.1+bK)).bind fun x9=>
  ((if(decide (x9<p1))=true then
   (jK b3.2 b3.1 x9 p1).bind fun x10=>
   some x10
  else
   some b3.2):Option (List Opn)).bind fun j1=>
  (inK .i64 (bK*2)).bind fun x11=>
  some (.next (x11,j1))
 else
  some (.done dV)
noncomputable def kF (p0:(List Opn)) (p1:Int):Option (List Opn):=
 (eQ (fun s=>mW p1 s.1 s.2.1 s.2.2) (0,20,p0):Option (Int×(List Opn))).bind fun b1=>
 (fV b1.2 b1.1 p1).bind fun x3=>
 (eQ (fun s=>mX p1 s.1 s.2) (20,x3):Option (List Opn)).bind fun b2=>
 some b2
noncomputable def jS (p0:(List Opn)):Option (List Opn):=
 (kF p0 (p0.length:Int)).bind fun x1=>
 some x1
noncomputable def yA (p0:(List Opn)):Option (List Opn):=
 (jS p0).bind fun x1=>
 some x1
noncomputable def J8 (p0:(List Opn)) (aO:Int) (aS:(List Opn)):Option (Step (Int×(List Opn)) (List Opn)):=
 if(decide (aO<(p0.length:Int)))=true then
  (idx p0 aO).bind fun x1=>
  (app aS [(Opn.mk x1.b x1.a)]).bind fun x2=>
  (inK .i64 (aO+1)).bind fun x3=>
  some (.next (x3,x2))
 else
  some (.done aS)
noncomputable def xY (p0:(List Opn)):Option (List Opn):=
 (eQ (fun s=>J8 p0 s.1 s.2) (0,[]):Option (List Opn)).bind fun b1=>
 (yA b1).bind fun x4=>
 some x4
noncomputable def E8 (p0:(List Opn)) (p1:(List Opn)) (aO:Int) (aS:(List Opn)) (dS:(List (Int×Bool))):Option (Step (Int×(List Opn)×(List (Int×Bool))) ((List Opn)×(List (Int×Bool)))):=
 if(decide (aO<(p0.length:Int)))=true then
  (((idx p0 aO).bind fun x1=>
  if(decide (x1.a<0))=true then
   some (aS,dS)
  else
   (wI p1 x1.b).bind fun x2=>
   ((if(!x2.2)=true then
    some (-1)
   else
    some x2.1):Option Int).bind fun j2=>
   (app aS [(Opn.mk x1.a j2)]).bind fun x3=>
   some (x3,Q5 dS j2 true)):Option ((List Opn)×(List (Int×Bool)))).bind fun j1=>
  (inK .i64 (aO+1)).bind fun x4=>
  some (.next (x4,j1.1,j1.2))
 else
  some (.done (aS,dS))
noncomputable def F5 (p1:(List Opn)) (b2:((List Opn)×(List (Int×Bool)))) (bK:Int) (dV:(List Opn)):Option (Step (Int×(List Opn)) (List Opn)):=
 if(decide (bK<(p1.length:Int)))=true then
  (idx p1 bK).bind fun x5=>
  if((decide (0≤x5.b))&&(!((kX (b2.2:List (Int×Bool)) x5.b).getD false)))=true then
   (app dV [(Opn.mk (-1) x5.b)]).bind fun x6=>
   (inK .i64 (bK+1)).bind fun x7=>
   some (.next (x7,x6))
  else
   (inK .i64 (bK+1)).bind fun x8=>
   some (.next (x8,dV))
 else
  some (.done dV)
noncomputable def D6 (p0:(List Opn)) (p1:(List Opn)):Option (List Opn):=
 (eQ (fun s=>E8 p0 p1 s.1 s.2.1 s.2.2) (0,[],[]):Option ((List Opn)×(List (Int×Bool)))).bind fun b2=>
 (eQ (fun s=>F5 p1 b2 s.1 s.2) (0,b2.1):Option (List Opn)).bind fun b6=>
 (yA b6).bind fun x9=>
 some x9
def Node.re (n:Node) (ks:List Node):Node:=⟨n.kind,n.text,n.at_,n.fin,ks⟩
mutual
def atN:Node→Nat→Option (List Node×Nat×(List Node→Node))
 |⟨a,b,c,d,kids⟩,k=>(atL [] kids k).map fun q=>(q.1,q.2.1,fun x=>⟨a,b,c,d,q.2.2 x⟩)
def atL:List Node→List Node→Nat→Option (List Node×Nat×(List Node→List Node))
 |_,[],_=>none
 |pre,n::r,k=>if k=0 then some (pre++n::r,pre.length,id) else if k<iJ n then(atN n (k-1)).map fun q=>(q.1,q.2.1,fun x=>pre++q.2.2 x::r) else atL (pre++[n]) r (k-iJ n)
end
theorem atN_eq (n:Node) (k:Nat):atN n k=(atL [] n.kids k).map fun q=>(q.1,q.2.1,fun x=>n.re (q.2.2 x)):=by obtain⟨a,b,c,d,kids⟩:=n;rw[atN];rfl
theorem atL_nil (pre:List Node) (k:Nat):atL pre [] k=none:=by rw[atL]
theorem xP (pre:List Node) (n:Node) (r:List Node) (k:Nat):atL pre (n::r) k=if k=0 then some (pre++n::r,pre.length,id) else if k<iJ n then(atN n (k-1)).map fun q=>(q.1,q.2.1,fun x=>pre++q.2.2 x::r) else atL (pre++[n]) r (k-iJ n):=by rw[atL]
theorem cntN_eq' (n:Node):iJ n=1+fD n.kids:=by obtain⟨a,b,c,d,k⟩:=n;rw[iJ]
theorem atL_ok:∀(m:Nat) (ts pre:List Node) (k:Nat),SizeOf.sizeOf ts≤m→k<fD ts→∃q,atL pre ts k=some q:=by
 intro m
 induction m with
 |zero=>intro ts pre k h;cases ts<;>simp at h
 |succ m ih=>
  intro ts pre k h hk
  cases ts with
  |nil=>rw[fD] at hk;omega
  |cons n r=>
   rw[xP]
   rw[fD] at hk
   simp only[List.cons.sizeOf_spec] at h
   split
   ·exact⟨_,rfl⟩
   split
   ·obtain⟨a,b,c,d,kids⟩:=n
    simp only[Node.mk.sizeOf_spec] at h
    rename_i h0 h1
    rw[iJ] at h1
    obtain⟨q,hq⟩:=ih kids [] (k-1) (by omega) (by omega)
    rw[atN,hq]
    exact⟨_,rfl⟩
   exact ih r _ _ (by omega) (by omega)
theorem atL_plug:∀(m:Nat) (ts pre:List Node) (k:Nat),SizeOf.sizeOf ts≤m→∀{t:List Node} {i:Nat} {p:List Node→List Node},atL pre ts k=some (t,i,p)→p t=pre++ts∧t.length≤pre.length+fD ts:=by
 intro m
 induction m with
 |zero=>intro ts pre k h;cases ts<;>simp at h
 |succ m ih=>
  intro ts pre k h t i p hat
  cases ts with
  |nil=>rw[atL_nil] at hat;cases hat
  |cons n r=>
   rw[xP] at hat
   have hc:=cntN_eq' n
   have hlen:∀(l:List Node),l.length≤fD l:=by
    intro l
    induction l with
    |nil=>exact Nat.zero_le _
    |cons a l ih2=>rw[fD,List.length_cons,cntN_eq'];omega
   have hr:=hlen r
   simp only[List.cons.sizeOf_spec] at h
   split at hat
   ·obtain⟨rfl,rfl,rfl⟩:pre++n::r=t∧pre.length=i∧id=p:=by simpa using hat
    refine⟨rfl,?_⟩
    rw[List.length_append,List.length_cons,fD];omega
   split at hat
   ·obtain⟨a,b,c,d,kids⟩:=n
    rw[atN] at hat
    cases hq:atL [] kids (k-1) with
    |none=>rw[hq] at hat;cases hat
    |some q=>
     obtain⟨t2,i2,p2⟩:=q
     rw[hq] at hat
     simp only[Option.map_some,Option.some.injEq,Prod.mk.injEq] at hat
     obtain⟨rfl,rfl,rfl⟩:=hat
     simp only[Node.mk.sizeOf_spec] at h
     obtain⟨h1,h2⟩:=ih kids [] (k-1) (by omega) hq
     refine⟨by simp[h1],?_⟩
     rw[fD,iJ]
     simp only[List.length_nil] at h2
     omega
   obtain⟨h1,h2⟩:=ih r (pre++[n]) (k-iJ n) (by omega) hat
   refine⟨by rw[h1];simp,?_⟩
   rw[List.length_append,List.length_singleton] at h2
   rw[fD];omega
theorem re_kids (n:Node):n.re n.kids=n:=by cases n;rfl
def m_at (ts:List Node) (n:Int):Option (Option (List Node×Nat×(List Node→List Node))):=if 0≤n∧n<9223372036854775808∧fD ts≤4294967296 then some (atL [] ts n.toNat) else none
def G7 (ts:List Node) (c:Chg):Option (Int×List Node):=(m_at ts c.node).bind fun q=>match q with
 |none=>some (2,ts)
 |some (t,i,p)=>(t[i]?).map fun x=>(0,p (t.set i ⟨c.kind,c.text,x.at_,x.fin,x.kids⟩))
def X5 (ts:List Node) (c:Chg):Option (Int×List Node):=(m_at ts c.node).bind fun q=>match q with
 |none=>some (2,ts)
 |some (t,i,p)=>(t[i]?).bind fun x=>if t.length+x.kids.length≤4294967296 then some (0,p (t.take i++x.kids++t.drop (i+1))) else none
def zH (l:List Node) (c:Chg):Option (List Node):=
 if c.index<0∨c.count<0∨(l.length:Int)<c.index∨(l.length:Int)-c.index<c.count then none
 else some (l.take c.index.toNat++⟨c.kind,c.text,0,0,(l.drop c.index.toNat).take c.count.toNat⟩::l.drop (c.index.toNat+c.count.toNat))
def zM (ts:List Node) (c:Chg):Option (Int×List Node):=
 ((if c.node= -1 then some (some (ts,id)) else(m_at ts c.node).bind fun q=>match q with
  |none=>some none
  |some (t,i,p)=>(t[i]?).map fun x=>some (x.kids,fun ks=>p (t.set i (x.re ks))):Option (Option (List Node×(List Node→List Node))))).bind fun q=>match q with
 |none=>some (2,ts)
 |some (l,P)=>if l.length+1≤4294967296 then(match zH l c with
  |none=>some (2,ts)
  |some ks=>some (0,P ks)) else none
def fieldsB (c:Chg):Bool:=
 if c.op=0 then decide (c.index=0)&&decide (c.count=0)
 else if c.op=1 then decide (c.op=c.op)&&decide (c.node=c.node)&&decide (c.index=0)&&decide (c.count=0)&&decide (c.kind=0)&&decide (c.text=ByteArray.empty)
 else decide (c.op=2)
def lN (ts:List Node) (c:Chg):Option (Int×List Node):=
 if fieldsB c=true then
  if c.node< -1∨(c.node= -1∧c.op≠2) then some (2,ts)
  else if c.op=0 then G7 ts c else if c.op=1 then X5 ts c else zM ts c
 else some (1,ts)
def chgs:List Node→List Chg→Option (List Node×Int)
 |ts,[]=>some (ts,0)
 |ts,c::cs=>(lN ts c).bind fun q=>if q.1=0 then chgs q.2 cs else some ([],q.1)
def aC2 (l:List Chg) (p:Nat×List Node):Option (Step (Nat×List Node) Unit):=match l[p.1]? with
 |none=>some (.done ())
 |some c=>(lN p.2 c).map fun q=>if q.1=0 then .next (p.1+1,q.2) else .done ()
theorem chLoop (l:List Chg):∀(j i:Nat) (ts:List Node) (r:List Node×Int),l.length≤i+j→chgs ts (l.drop i)=some r→∃u,eQ (aC2 l) (i,ts)=some u
 |0,i,ts,r,h,_=>⟨(),pW (by unfold aC2;simp only;rw[List.getElem?_eq_none (by omega)])⟩
 |j+1,i,ts,r,h,hr=>by
  cases hx:l[i]? with
  |none=>exact⟨(),pW (by unfold aC2;simp only;rw[hx])⟩
  |some c=>
   obtain⟨h3,h4⟩:=List.getElem?_eq_some_iff.1 hx
   rw[List.drop_eq_getElem_cons h3,h4,chgs] at hr
   obtain⟨q,hq,hr⟩:=Option.bind_eq_some_iff.1 hr
   by_cases h0:q.1=0
   ·rw[if_pos h0] at hr
    obtain⟨u,hu⟩:=chLoop l j (i+1) q.2 r (by omega) hr
    exact⟨u,by rw[yO (show aC2 l (i,ts)=some (.next (i+1,q.2)) by unfold aC2;simp only;rw[hx];simp only;rw[hq,Option.map_some,if_pos h0])];exact hu⟩
   exact⟨(),pW (by unfold aC2;simp only;rw[hx];simp only;rw[hq,Option.map_some,if_neg h0])⟩
def aD8 (l:List Node) (cs:List Chg):Option (List Node×Int):=if fD l<4294967296∧cs.length<4294967296 then chgs l cs else none
noncomputable def vV (p0:(List Chg)) (p1:(List Chg)) (aO:Int):Option (Step Int (Out Unit Bool)):=
 if(decide (aO<(p0.length:Int)))=true then
  (idx p0 aO).bind fun x1=>
  (idx p1 aO).bind fun x2=>
  if(!((decide (x1.op=x2.op))&&(decide (x1.node=x2.node))&&(decide (x1.index=x2.index))&&(decide (x1.count=x2.count))&&(decide (x1.kind=x2.kind))&&(decide (x1.text=x2.text))))=true then
   some (.done (.ret false))
  else
   (inK .i64 (aO+1)).bind fun x3=>
   some (.next x3)
 else
  some (.done (.brk ()))
noncomputable def uA (p0:(List Chg)) (p1:(List Chg)):Option Bool:=
 if(!decide ((p0.length:Int)=(p1.length:Int)))=true then
  some false
 else
  (eQ (fun s=>vV p0 p1 s) 0:Option (Out Unit Bool)).bind fun b1=>
  match b1 with
  | .brk b1s=>
   some true
  | .ret r=>some r
noncomputable def qC:Option Bool:=
 (jQ (ByteArray.mk #[97])).bind fun x1=>
 (jQ (ByteArray.mk #[98])).bind fun x2=>
 (jQ (ByteArray.mk #[99])).bind fun x3=>
 (lW (ByteArray.mk #[42]) x2 x3).bind fun x4=>
 (lW (ByteArray.mk #[43]) x1 x4).bind fun x5=>
 (jQ (ByteArray.mk #[97])).bind fun x6=>
 (jQ (ByteArray.mk #[99])).bind fun x7=>
 (lW (ByteArray.mk #[42]) x6 x7).bind fun x8=>
 (aA1 x5 x8 ([(Opn.mk 0 0),(Opn.mk 1 1),(Opn.mk 2 (-1)),(Opn.mk 3 (-1)),(Opn.mk 4 2)]:List Opn)).bind fun x9=>
 (D5 x5 x8 ([(Opn.mk 0 0),(Opn.mk 1 1),(Opn.mk 2 (-1)),(Opn.mk 3 (-1)),(Opn.mk 4 2)]:List Opn)).bind fun x10=>
 (aD8 ([x5]:List Node) x10.1).bind fun x11=>
 (U9 x5 x8).bind fun x12=>
 (wI ([(Opn.mk 0 0),(Opn.mk 1 1),(Opn.mk 2 (-1)),(Opn.mk 3 (-1)),(Opn.mk 4 2)]:List Opn) 4).bind fun x13=>
 (wH x5 x8 ([(Opn.mk 0 0),(Opn.mk 1 1),(Opn.mk 2 (-1)),(Opn.mk 3 (-1)),(Opn.mk 4 2)]:List Opn)).bind fun x14=>
 ((if(((x14&&(decide (x9.2=0)))&&(decide (x9.1=3)))&&(decide (x10.2=0)))=true then
  (uA x10.1 ([(Chg.mk 0 0 0 0 29 (ByteArray.mk #[42])),(Chg.mk 1 3 0 0 0 ByteArray.empty),(Chg.mk 1 2 0 0 0 ByteArray.empty)]:List Chg)).bind fun x15=>
  some x15
 else
  some false):Option Bool).bind fun m1=>
 ((if(m1&&(decide (x11.2=0)))=true then
  (iG x11.1 ([x8]:List Node)).bind fun x16=>
  some x16
 else
  some false):Option Bool).bind fun m2=>
 ((if((((m2&&(decide (x12.2=0)))&&(decide (0<(x12.1.length:Int))))&&x13.2)&&(decide (x13.1=2)))=true then
  (xY ([(Opn.mk 0 0),(Opn.mk 1 1),(Opn.mk 2 (-1)),(Opn.mk 3 (-1)),(Opn.mk 4 2)]:List Opn)).bind fun x17=>
  some (decide ((x17.length:Int)=5))
 else
  some false):Option Bool).bind fun m3=>
 ((if m3=true then
  (xY ([(Opn.mk 0 0),(Opn.mk 1 1),(Opn.mk 2 (-1)),(Opn.mk 3 (-1)),(Opn.mk 4 2)]:List Opn)).bind fun x18=>
  (D6 ([(Opn.mk 0 0),(Opn.mk 1 1),(Opn.mk 2 (-1)),(Opn.mk 3 (-1)),(Opn.mk 4 2)]:List Opn) x18).bind fun x19=>
  some (decide ((x19.length:Int)=7))
 else
  some false):Option Bool).bind fun m4=>
 some m4
noncomputable def fU (p0:(List Node)) (aO:Int):Option (Step Int (Out Unit Bool)):=
 if(decide (aO<(p0.length:Int)))=true then
  (idx p0 aO).bind fun x2=>
  (pF x2 12).bind fun x3=>
  if(!x3)=true then
   some (.done (.ret true))
  else
   (inK .i64 (aO+1)).bind fun x4=>
   some (.next x4)
 else
  some (.done (.brk ()))
noncomputable def jI (p1:(List Chg)) (bK:Int):Option (Step Int (Out Unit Bool)):=
 if(decide (bK<(p1.length:Int)))=true then
  (idx p1 bK).bind fun x5=>
  if(decide (40<(x5.text.size:Int)))=true then
   some (.done (.ret true))
  else
   (inK .i64 (bK+1)).bind fun x6=>
   some (.next x6)
 else
  some (.done (.brk ()))
noncomputable def lF (p0:(List Node)) (p1:(List Chg)):Option Bool:=
 (qC).bind fun x1=>
 if(!x1)=true then
  some false
 else
  if((decide (4<(p0.length:Int)))||(decide (10<(p1.length:Int))))=true then
   some true
  else
   (eQ (fun s=>fU p0 s) 0:Option (Out Unit Bool)).bind fun b1=>
   match b1 with
   | .brk b1s=>
    (eQ (fun s=>jI p1 s) 0:Option (Out Unit Bool)).bind fun b4=>
    match b4 with
    | .brk b4s=>
     (aD8 p0 p1).bind fun x7=>
     (nI p0 p1).bind fun x8=>
     ((if(decide (x7.2=x8.2))=true then
      (iG x7.1 x8.1).bind fun x9=>
      some x9
     else
      some false):Option Bool).bind fun m1=>
     some m1
    | .ret r=>some r
   | .ret r=>some r
class Rep1 (α:Type) [Rep α]:Prop where
 one:∀{ρ:PH} {a:α} {cs:List Value},Rep.ok ρ a cs→∀v∈cs,v.oneCell'=true
 pos:0<Rep.sz α
def jE {α:Type} [Rep α] (T:TypeId) (v:Value) (l:List α) (xs:List Value):bI:=Row T (Rep.sz α) v l.length xs
section
variable {α:Type} [Rep α] {ρ ρ':PH} {l m:List α} {xs ys:List Value}
theorem dE.nil:dE ρ ([]:List α) []:=rfl
theorem dE.mono (h:ρ.le ρ'):∀{l:List α} {xs:List Value},dE ρ l xs→dE ρ' l xs
 | [],_,e=>e
 |a::l,_,⟨c,r,e,hc,hr⟩=>⟨c,r,e,Rep.mono h hc,dE.mono h hr⟩
theorem dE.len:∀{l:List α} {xs:List Value},dE ρ l xs→xs.length=l.length*Rep.sz α
 | [],_,e=>by rw[e];simp
 |a::l,_,⟨c,r,e,hc,hr⟩=>by
  rw[e,List.length_append,Rep.len hc,dE.len hr,List.length_cons,Nat.add_mul];omega
theorem dE.app:∀{l:List α} {xs:List Value},dE ρ l xs→dE ρ m ys→dE ρ (l++m) (xs++ys)
 | [],_,e,h=>by rw[e];exact h
 |a::l,_,⟨c,r,e,hc,hr⟩,h=>⟨c,r++ys,by rw[e,List.append_assoc],hc,dE.app hr h⟩
theorem dE.one1 [Rep1 α]:∀{l:List α} {xs:List Value},dE ρ l xs→∀v∈xs,v.oneCell'=true
 | [],_,e,v,hv=>by rw[e] at hv;simp at hv
 |a::l,_,⟨c,r,e,hc,hr⟩,v,hv=>by
  rw[e,List.mem_append] at hv
  rcases hv with hv|hv
  ·exact Rep1.one hc v hv
  exact dE.one1 hr v hv
theorem dE.set:∀{l:List α} {xs:List Value} (i:Nat) {a:α} {cs:List Value},dE ρ l xs→i<l.length→Rep.ok ρ a cs→dE ρ (l.set i a) (xs.take (i*Rep.sz α)++cs++xs.drop ((i+1)*Rep.sz α))
 |b::l,_,0,a,cs,⟨c,r,e,hc,hr⟩,_,ha=>by
  rw[e,Nat.zero_mul,List.take_zero,List.nil_append,Nat.zero_add,Nat.one_mul,←Rep.len hc,List.drop_left,List.set_cons_zero]
  exact⟨cs,r,rfl,ha,hr⟩
 |b::l,_,i+1,a,cs,⟨c,r,e,hc,hr⟩,hi,ha=>by
  have:=dE.set i hr (by simpa using hi) ha
  have hl:=Rep.len hc
  rw[e,List.set_cons_succ,Nat.add_mul,Nat.one_mul,show i*Rep.sz α+Rep.sz α=c.length+i*Rep.sz α by omega,List.take_append,List.take_of_length_le (by omega),Nat.add_sub_cancel_left,
   show(i+1+1)*Rep.sz α=c.length+(i+1)*Rep.sz α by rw[Nat.add_mul (i+1)];omega,List.drop_append,List.drop_of_length_le (by omega),List.nil_append,Nat.add_sub_cancel_left]
  exact⟨c,_,by simp only[List.append_assoc],hc,this⟩
end
section
variable {α:Type} [Rep α] {Rn:Option Nat} {P:Program} {Z:World} {ρ:PH} {L:List bI} {w:World} {T El:TypeId} {v:Value} {l:List α} {xs:List Value}
theorem jE.nil (T:TypeId):jE T (.slice none 0 0) ([]:List α) [] PH.emp:=Row.nil T _ none
theorem yS {b:Nat} {l:List α} {n:Nat} {cs:List Value} (hn:l.length=n) (hl:n≤maxLen) (hc:cs.length=n*Rep.sz α):∀k,Pt b (.cells cs.toArray El) k→jE El (.slice (some ⟨b,0,none⟩) n n) l cs k:=fun k hk=>by
 subst hn
 refine⟨hc,Or.inr ⟨b,0,l.length,cs.toArray,rfl,hk,Nat.le_refl _,hl,?_,?_⟩⟩
 ·rw[List.size_toArray,hc,Nat.zero_add]
 rw[List.toList_toArray,List.drop_zero,List.take_of_length_le (by rw[hc];exact Nat.le_refl _)]
theorem jE.len {sz bytes:Nat} (hp:Hp Z ρ L w) (k:Nat) (hk:L[k]?=some (jE El v l xs)) (ht:SlTy P T El sz bytes) (w':World) (ty:TypeId):(Builtin.len_ #[T] ty #[v]).run P w'= .ok (.int .i64 l.length) w':=by
 rcases(hp.get k hk).row.2 with⟨A,rfl,hn⟩|⟨g,off,cap,cur,rfl,_,_⟩
 ·rw[hn];exact pJ ht A 0 0 w' ty
 exact pJ ht _ _ cap w' ty
theorem jE.cells (hp:Hp Z ρ L w) (k:Nat) (hk:L[k]?=some (jE El v l xs)):v.cells= #[v]:=by
 rcases(hp.get k hk).row.2 with⟨A,rfl,_⟩|⟨g,off,cap,cur,rfl,_⟩<;>rfl
theorem jE.one (hp:Hp Z ρ L w) (k:Nat) (hk:L[k]?=some (jE El v l xs)):v.oneCell'=true:=by
 rcases(hp.get k hk).row.2 with⟨A,rfl,_⟩|⟨g,off,cap,cur,rfl,_⟩<;>rfl
theorem jE.ro {k:PH} (d:ρ.dj k) (h:jE T v l xs k) (hR:dE ρ l xs):aH (ρ.un k) v l:=by
 obtain⟨hxl,h⟩:=h
 rcases h with⟨A,rfl,hn⟩|⟨g,off,cap,cur,rfl,rfl,h1,h2,h3,h4⟩
 ·obtain rfl:=List.eq_nil_of_length_eq_zero hn
  exact⟨A,0,rfl,Nat.le_refl _,fun i a h=>by simp at h⟩
 refine⟨some ⟨g,off,none⟩,cap,rfl,h1,fun i a hi=>?_⟩
 obtain⟨c,hc,hg⟩:=hR.get i a hi
 refine⟨g,off,c,rfl,Rep.mono (PH.le_un _ _) hc,fun j u hj=>?_⟩
 have hb:(ρ.un (PH.one g (.cells cur T (0,0)))) g=some (.cells cur T (0,0)):=PH.le_un_r d g _ (by simp[PH.one])
 unfold cellAt
 rw[hb]
 simp only
 have hf:=hg j u hj
 rw[←h4,List.getElem?_take] at hf
 split at hf
 ·rw[List.getElem?_drop,←Nat.add_assoc] at hf
  rw[←Array.getElem?_toList]
  exact hf
 cases hf
theorem jE.at {bytes:Nat} (hp:Hp Z ρ L w) (k:Nat) (hk:L[k]?=some (jE El v l xs)) (hR:dE ρ l xs) (ht:SlTy P T El (Rep.sz α) bytes) {i:Int} {e:α} (hi:idx l i=some e):
  ∃g off cs,(∀w,(Instr.indexAt T v (.int .i64 i)).run P w= .ok (.pointer (some ⟨g,off,none⟩)) w)∧(∃of0 cap,v= .slice (some ⟨g,of0,none⟩) l.length cap∧off=of0+i.toNat*Rep.sz α)∧Rep.ok ρ e cs∧∀(j:Nat) (u:Value),cs[j]?=some u→∀ρ' L' w,Hp Z ρ' (jE El v l xs::L') w→w.cell? ⟨g,off+j,none⟩=some u:=by
 obtain⟨i0,i1,i2⟩:=nY hi
 rcases(hp.get k hk).row.2 with⟨_,_,hn⟩|⟨g,of0,cap,cur,rfl,_,_⟩
 ·omega
 obtain⟨c,hc,hg⟩:=hR.get i.toNat e i2
 refine⟨g,of0+i.toNat*Rep.sz α,c,fun w=>run_index ht g of0 _ cap i0 i1 w,⟨of0,cap,rfl,rfl⟩,hc,fun j u hj ρ' L' w' hw'=>?_⟩
 rcases hw'.row.2 with⟨A,hA,hn⟩|⟨g',of1,cap',cur',e2,hpt,h2,h3,h4,h5⟩
 ·omega
 simp only[Value.slice.injEq,Option.some.injEq,Addr.mk.injEq,and_true,true_and] at e2
 obtain⟨⟨rfl,rfl⟩,rfl⟩:=e2
 have hlook:=hpt.look 0 rfl
 have hf:=hg j u hj
 rw[←h5,List.getElem?_take] at hf
 split at hf
 ·rw[List.getElem?_drop,←Nat.add_assoc] at hf
  simp[World.cell?,hlook,←Array.getElem?_toList,hf]
 cases hf
end
section
variable {α:Type} [Rep α] {ρ:PH}
theorem aH.rowR {v:Value} {l:List α} (h:aH ρ v l) (hl:0<l.length):∃b off c ys,v= .slice (some ⟨b,off,none⟩) l.length c∧dE ρ l ys∧AtP ρ b off ys:=by
 obtain⟨A,c,rfl,_,hh⟩:=h
 obtain⟨b,off,cs,e1,_,_⟩:=hh 0 l[0] (List.getElem?_eq_getElem hl)
 subst e1
 have key:∀(m:List α) (o:Nat),(∀i a,m[i]?=some a→∃cs,Rep.ok ρ a cs∧AtP ρ b (o+i*Rep.sz α) cs)→∃ys,dE ρ m ys∧AtP ρ b o ys:=by
  intro m
  induction m with
  |nil=>intro o _;exact⟨[],rfl,fun j u h=>by simp at h⟩
  |cons a m ih=>
   intro o hm
   obtain⟨cs,h1,h2⟩:=hm 0 a rfl
   rw[Nat.zero_mul,Nat.add_zero] at h2
   obtain⟨ys,h3,h4⟩:=ih (o+Rep.sz α) (fun i a' hi=>by
    obtain⟨cs,h5,h6⟩:=hm (i+1) a' (by simpa using hi)
    rw[Nat.add_mul,Nat.one_mul,show o+(i*Rep.sz α+Rep.sz α)=o+Rep.sz α+i*Rep.sz α by omega] at h6
    exact⟨cs,h5,h6⟩)
   refine⟨cs++ys,⟨cs,ys,rfl,h1,h3⟩,fun j u hj=>?_⟩
   have hc:=Rep.len h1
   rcases Nat.lt_or_ge j cs.length with h|h
   ·rw[List.getElem?_append_left h] at hj;exact h2 j u hj
   rw[List.getElem?_append_right h] at hj
   have:=h4 _ u hj
   rw[show o+Rep.sz α+(j-cs.length)=o+j by omega] at this
   exact this
 obtain⟨ys,h1,h2⟩:=key l off (fun i a hi=>by
  obtain⟨b2,o2,cs2,e2,h4,h5⟩:=hh i a hi
  simp only[Option.some.injEq,Addr.mk.injEq,and_true] at e2
  obtain⟨rfl,rfl⟩:=e2
  exact⟨cs2,h4,h5⟩)
 exact⟨b,off,c,ys,rfl,h1,h2⟩
end
section
variable {α:Type} [Rep α] [Rep1 α] {Rn:Option Nat} {P:Program} {ops:Array Oper} {Q:Exit→Act→World→Prop} {rest:List Oper} {o:Oper} {a:Act} {w:World} {Df:List Deferred} {N:Nat} {E:Ent} {d:Nat} {Z:World} {ρ:PH} {L:List bI}
theorem aA4 (wk:Region.wanted o (yielded ops a.tmps)=true) (hd:o.dst=some d) (hN:Nat.blt d N=true) (hE:EnvD Df N E a) (hp:Hp Z ρ L w) {x y:Operand} {t:TypeId} (ho:o.op= .call {callee:= .builtin .append,args:= #[x,y],argTypes:= #[t,t] }) {El:TypeId} {bytes:Nat} (ht:SlTy P t El (Rep.sz α) bytes) (hby:Nat.ble bytes 16384=true)
  {v:Value} (hx:evo E x=some v) (i:Nat) {l:List α} {xs:List Value} (hi:L[i]?=some (jE El v l xs)) {b off m c:Nat} (hy:evo E y=some (.slice (some ⟨b,off,none⟩) m c)) {l2 r:List α} {ys:List Value} (hm:l2.length=m) (hR2:dE ρ l2 ys) (hn:∀j u,ys[j]?=some u→w.cell? ⟨b,off+j,none⟩=some u) (hr:app l l2=some r)
  (K:∀v' a w,EnvD Df N ((d,v')::E) a→Hp Z ρ (L.set i (jE El v' r (xs++ys))) w→wpL Rn P ops Q rest a w):wpL Rn P ops Q (o::rest) a w:=by
 obtain⟨hlen,rfl⟩:=lJ hr
 have hby':bytes≤16384:=by simpa using hby
 have hb2:(l.length+m)*bytes≤4294967296*16384:=Nat.mul_le_mul (by omega) hby'
 obtain⟨v',w',hrun,hp'⟩:=aD9 (P:=P) ht Rep1.pos o.type (hp.get i hi) ⟨b,off,none⟩ m c ys (by rw[hR2.len,hm]) (fun j u hj=>by rw[Addr.add_lit];exact hn j u hj) hR2.one1 (by unfold maxLen;omega) (by omega)
 refine vX wk hd hN hE (v:=v') (w':=w') ?_ fun a' hE'=>K v' a' w' hE' ?_
 ·simp only[execOp,ho,resolve,invoke,builtin,Sem.run_bind,Sem.run_pure,Result.andThen_ok,List.map_toArray,List.map_cons,List.map_nil,hE.eval hx,hE.eval hy,hrun]
 refine Hp.put i (zB (A:=jE El v l xs) (_B:=jE El v l xs) hi).2 ?_
 unfold jE
 rw[List.length_append,hm]
 exact hp'
theorem aA5 (wk:Region.wanted o (yielded ops a.tmps)=true) (hd:o.dst=some d) (hN:Nat.blt d N=true) (hE:EnvD Df N E a) (hp:Hp Z ρ L w) {x y:Operand} {t:TypeId} (ho:o.op= .call {callee:= .builtin .append,args:= #[x,y],argTypes:= #[t,t] }) {El:TypeId} {bytes:Nat} (ht:SlTy P t El (Rep.sz α) bytes) (hby:Nat.ble bytes 16384=true)
  {v:Value} (hx:evo E x=some v) (i:Nat) {l:List α} {xs:List Value} (hi:L[i]?=some (jE El v l xs)) {v2:Value} (hy:evo E y=some v2) {l2 r:List α} (hs:aH ρ v2 l2) (hr:app l l2=some r)
  (K:∀v' ys a w,dE ρ l2 ys→EnvD Df N ((d,v')::E) a→Hp Z ρ (L.set i (jE El v' r (xs++ys))) w→wpL Rn P ops Q rest a w):wpL Rn P ops Q (o::rest) a w:=by
 rcases Nat.eq_zero_or_pos l2.length with h0|h0
 ·have hnil:=List.eq_nil_of_length_eq_zero h0
  subst hnil
  obtain⟨hlen,rfl⟩:=lJ hr
  obtain⟨A,c,rfl,_,_⟩:=hs
  cases A with
  |some ad=>
   obtain⟨b,off,sp⟩:=ad
   have hby':bytes≤16384:=by simpa using hby
   have hb2:(l.length+0)*bytes≤4294967296*16384:=Nat.mul_le_mul (by simp at hlen;omega) hby'
   obtain⟨v',w',hrun,hp'⟩:=aD9 (P:=P) ht Rep1.pos o.type (hp.get i hi) ⟨b,off,sp⟩ 0 c [] (by simp) (fun j u hj=>by simp at hj) (fun u hu=>by simp at hu) (by unfold maxLen;simp at hlen;omega) (by omega)
   refine vX wk hd hN hE (v:=v') (w':=w') ?_ fun a' hE'=>K v' [] a' w' rfl hE' ?_
   ·simp only[execOp,ho,resolve,invoke,builtin,Sem.run_bind,Sem.run_pure,Result.andThen_ok,List.map_toArray,List.map_cons,List.map_nil,hE.eval hx,hE.eval hy]
    simp only[List.length_nil,hrun]
    rfl
   refine Hp.put i (zB (A:=jE El v l xs) (_B:=jE El v l xs) hi).2 ?_
   unfold jE
   simpa using hp'
  |none=>
   refine vX wk hd hN hE (v:=v) (w':=w) ?_ fun a' hE'=>K v [] a' w rfl hE' ?_
   ·have hrun:=run_appN (P:=P) ht o.type (hp.get i hi) c
    simp only[execOp,ho,resolve,invoke,builtin,Sem.run_bind,Sem.run_pure,Result.andThen_ok,List.map_toArray,List.map_cons,List.map_nil,hE.eval hx,hE.eval hy]
    simp only[List.length_nil,hrun]
    rfl
   rw[List.append_nil,List.append_nil,aG6 hi]
   exact hp
 obtain⟨b,off,c,ys,rfl,hR,hat⟩:=hs.rowR h0
 exact aA4 wk hd hN hE hp ho ht hby hx i hi hy rfl hR (fun j u hj=>cell_of hp.le (hat j u hj)) hr (fun v' a w=>K v' ys a w hR)
theorem s_stelR (wk:Region.wanted o (yielded ops a.tmps)=true) (hd:o.dst=none) (hE:EnvD Df N E a) (hp:Hp Z ρ L w) {T:TypeId} {x y:Operand} (ho:o.op= .store T x y) {g off off':Nat} (hx:evo E x=some (.pointer (some ⟨g,off',none⟩))) {u:Value} (hy:evo E y=some u) (k:Nat) {El:TypeId} {v:Value} {l:List α} {xs:List Value} (hk:L[k]?=some (jE El v l xs))
  (hR:dE ρ l xs) {i:Int} {e e':α} (hi:idx l i=some e) (hv:∃of0 cap,v= .slice (some ⟨g,of0,none⟩) l.length cap∧off=of0+i.toNat*Rep.sz α) (j:Nat) {us cs:List Value} (ht:∀w,(sizeOf T).run P w= .ok us.length w) (hoff:off'=off+j) (hc:u.cells=us.toArray) (hcs:Rep.ok ρ e cs) (hgc:∀(q:Nat) (z:Value),cs[q]?=some z→w.cell? ⟨g,off+q,none⟩=some z)
  (hok:Rep.ok ρ e' (cs.take j++us++cs.drop (j+us.length))) (hju0:Nat.ble (j+us.length) (Rep.sz α)=true)
  (K:∀w xs',dE ρ (l.set i.toNat e') xs'→Hp Z ρ (L.set k (jE El v (l.set i.toNat e') xs')) w→wpL Rn P ops Q rest a w):wpL Rn P ops Q (o::rest) a w:=by
 subst hoff
 obtain⟨of0,cap,rfl,rfl⟩:=hv
 obtain⟨i0,i1,i2⟩:=nY hi
 have hlt:=(zB (A:=jE El (.slice (some ⟨g,of0,none⟩) l.length cap) l xs) (_B:=jE El (.slice (some ⟨g,of0,none⟩) l.length cap) l xs) hk).2
 have hll:=hR.len
 have hcl:=Rep.len hcs
 have hkl:=Rep.len hok
 rw[List.length_append,List.length_append,List.length_take,List.length_drop] at hkl
 have hju:j+us.length≤Rep.sz α:=by simpa using hju0
 rcases(hp.get k hk).row.2 with⟨_,_,hn⟩|⟨g',of1,cap',cur,e2,hpt,h2,h3,h4,h5⟩
 ·omega
 simp only[Value.slice.injEq,Option.some.injEq,Addr.mk.injEq,and_true,true_and] at e2
 obtain⟨⟨rfl,rfl⟩,rfl⟩:=e2
 have hg:=hpt.look 0 rfl
 have hpos:(i.toNat+1)*Rep.sz α≤l.length*Rep.sz α:=Nat.mul_le_mul_right _ (by omega)
 have hle:l.length*Rep.sz α≤cap*Rep.sz α:=Nat.mul_le_mul_right _ h2
 rw[Nat.add_mul,Nat.one_mul] at hpos
 generalize hiz:i.toNat*Rep.sz α=iz at*
 have one1:∀z∈us,z.oneCell'=true:=fun z hz=>Rep1.one hok z (by simp[hz])
 have r1:=run_storeCells_at P g (of0+iz+j) El us 0 cur w hg (by omega) one1
 simp only[Nat.add_zero] at r1
 refine s_unit wk hd hE (w':=w.setRow g (cur.toList.take (of0+iz+j)++us++cur.toList.drop (of0+iz+j+us.length)).toArray) ?_ (K _ (xs.take iz++(cs.take j++us++cs.drop (j+us.length))++xs.drop (iz+Rep.sz α)) ?_ ?_)
 ·simp[execOp,ho,hE.eval hx,hE.eval hy,Instr.storeAt,Instr.sureAddr,storeVar,ht w,hc,r1]
 ·have:=hR.set i.toNat (a:=e') (by omega) hok
  rw[Nat.add_mul,Nat.one_mul,hiz] at this
  exact this
 have hseg:cs=(xs.drop iz).take (Rep.sz α):=by
  apply List.ext_getElem?
  intro q
  rcases Nat.lt_or_ge q (Rep.sz α) with hq|hq
  ·obtain⟨z,hz⟩:∃z,cs[q]?=some z:=⟨_,List.getElem?_eq_getElem (by omega)⟩
   have hz2:=hgc q z hz
   rw[hz,List.getElem?_take,if_pos hq,List.getElem?_drop,←h5,List.getElem?_take,if_pos (by omega),List.getElem?_drop,Array.getElem?_toList]
   simp only[World.cell?,hg] at hz2
   simp at hz2
   rw[show of0+(iz+q)=of0+iz+q by omega]
   exact hz2.symm
  rw[List.getElem?_eq_none (by omega),List.getElem?_take,if_neg (by omega)]
 refine Hp.put k hlt ?_
 have hq:=(Hp.set (w':=w.setRow g (cur.toList.take (of0+iz+j)++us++cur.toList.drop (of0+iz+j+us.length)).toArray) hpt rfl rfl rfl (setRow_heap w g cur _ El _ hg) (fun k hk=>setRow_other w g k _ hk)).shutO (off:=of0) (n:=l.length) (cap:=cap) (sz:=Rep.sz α) (xs:=xs.take iz++(cs.take j++us++cs.drop (j+us.length))++xs.drop (iz+Rep.sz α)) h2 h3 (by
   simp only[List.size_toArray,List.length_append,List.length_take,List.length_drop,Array.length_toList];omega) (by
   rw[List.toList_toArray]
   have hlenx:(xs.take iz++(cs.take j++us++cs.drop (j+us.length))++xs.drop (iz+Rep.sz α)).length=l.length*Rep.sz α:=by
    simp only[List.length_append,List.length_take,List.length_drop];omega
   apply List.ext_getElem?
   intro q
   rcases Nat.lt_or_ge q (l.length*Rep.sz α) with hq|hq
   ·have hx5:∀q,q<l.length*Rep.sz α→xs[q]?=cur.toList[of0+q]?:=fun q hq=>by
     rw[←h5,List.getElem?_take,if_pos hq,List.getElem?_drop]
    have hcq:∀q,q<Rep.sz α→cs[q]?=cur.toList[of0+iz+q]?:=fun q hq=>by
     rw[hseg,List.getElem?_take,if_pos hq,List.getElem?_drop,hx5 _ (by omega)]
     congr 1;omega
    rw[List.getElem?_take,if_pos hq,List.getElem?_drop]
    have t1:(cur.toList.take (of0+iz+j)).length=of0+iz+j:=by rw[List.length_take,Array.length_toList];omega
    have t2:(xs.take iz).length=iz:=by rw[List.length_take];omega
    have t3:(cs.take j).length=j:=by rw[List.length_take];omega
    have t4:(cs.take j++us++cs.drop (j+us.length)).length=Rep.sz α:=by simp only[List.length_append,List.length_take,List.length_drop];omega
    simp only[List.append_assoc] at t4⊢
    rcases Nat.lt_or_ge q iz with c1|c1
    ·rw[List.getElem?_append_left (by omega),List.getElem?_take,if_pos (by omega),List.getElem?_append_left (by omega),List.getElem?_take,if_pos c1,hx5 q hq]
    rw[List.getElem?_append_right (l₁:=xs.take iz) (by omega),t2]
    rcases Nat.lt_or_ge q (iz+j) with c2|c2
    ·rw[List.getElem?_append_left (by omega),List.getElem?_take,if_pos (by omega),List.getElem?_append_left (by omega),List.getElem?_take,if_pos (by omega),hcq _ (by omega)]
     congr 1;omega
    rw[List.getElem?_append_right (l₁:=cur.toList.take (of0+iz+j)) (by omega),t1,List.getElem?_append_right (l₁:=cs.take j) (by omega),t3]
    rcases Nat.lt_or_ge q (iz+j+us.length) with c3|c3
    ·rw[List.getElem?_append_left (by omega),List.getElem?_append_left (by omega)]
     congr 1;omega
    rw[List.getElem?_append_right (l₁:=us) (by omega),List.getElem?_append_right (l₁:=us) (by omega),List.getElem?_drop]
    rcases Nat.lt_or_ge q (iz+Rep.sz α) with c4|c4
    ·rw[List.getElem?_append_left (by rw[List.length_drop];omega),List.getElem?_drop,hcq _ (by omega)]
     congr 1;omega
    rw[List.getElem?_append_right (by rw[List.length_drop];omega),List.getElem?_drop,List.length_drop,hx5 _ (by omega)]
    congr 1;omega
   rw[List.getElem?_eq_none (by rw[List.length_take];omega),List.getElem?_eq_none (by rw[hlenx];exact hq)])
 unfold jE
 rw[List.length_set]
 exact hq
end
instance rep1Enc {α:Type} [Enc α]:Rep1 α:=⟨fun h v hv=>by
 have h':_=Enc.enc _:=h
 rw[h'] at hv;exact Enc.one _ v hv,Enc.pos⟩
instance rep1Node:Rep1 Node:=⟨fun{ρ a cs} h v hv=>by
 obtain⟨u,rfl,hu⟩:=NodeAt.opens (show NodeAt ρ a cs from h)
 have h1:=aH.one hu
 simp only[List.mem_cons,List.not_mem_nil,or_false] at hv
 rcases hv with rfl|rfl|rfl|rfl|rfl<;>first|rfl|exact h1,by decide⟩
open Vl (vl)
open Go.ChangeMaps (setBlock)
instance vlSl:Vl Sl:=⟨fun s=>s.v⟩
def mset {κ β:Type} [DecidableEq κ] (l:List (κ×β)) (k:κ) (v:β):List (κ×β):=if mhas l k then Q5 l k v else l
section
variable {κ β:Type} [DecidableEq κ]
theorem mhas_iff {l:List (κ×β)} {k:κ}:mhas l k=true↔k∈l.map (·.1):=by
 unfold mhas kX
 rw[Option.isSome_map,List.find?_isSome]
 simp
theorem mget_mem {l:List (κ×β)} (hn:(l.map (·.1)).Nodup) {k:κ} {v:β} (h:(k,v)∈l):kX l k=some v:=by
 obtain⟨j,hj⟩:=List.getElem?_of_mem h
 exact mget_at hn hj
theorem F8 {l:List (κ×β)} (hn:(l.map (·.1)).Nodup) {k:κ} {j:Nat} (h:(l.map (·.1))[j]?=some k):l.filter (fun p=> !decide (p.1=k))=l.eraseIdx j:=by
 induction l generalizing j with
 |nil=>simp at h
 |cons p l ih=>
  rw[List.map_cons,List.nodup_cons] at hn
  cases j with
  |zero=>
   simp at h
   rw[List.filter_cons_of_neg (by simp[h]),List.eraseIdx_cons_zero]
   refine List.filter_eq_self.2 fun q hq=>?_
   simp only[Bool.not_eq_true',decide_eq_false_iff_not]
   intro e
   exact hn.1 (by rw[h,←e];exact List.mem_map_of_mem hq)
  |succ j=>
   simp only[List.map_cons,List.getElem?_cons_succ] at h
   have hne:¬p.1=k:=fun e=>hn.1 (by rw[e];exact List.mem_of_getElem? h)
   rw[List.filter_cons_of_pos (by simp[hne]),ih hn.2 h];rfl
theorem filter_all {l:List (κ×β)} {k:κ} (h:k∉l.map (·.1)):l.filter (fun p=> !decide (p.1=k))=l:=by
 refine List.filter_eq_self.2 fun q hq=>?_
 simp only[Bool.not_eq_true',decide_eq_false_iff_not]
 intro e
 exact h (by rw[←e];exact List.mem_map_of_mem hq)
theorem aC5 {l:List (κ×β)} (hn:(l.map (·.1)).Nodup) {k:κ} {j:Nat} (h:(l.map (·.1))[j]?=some k):∃v,l[j]?=some (k,v)∧kX l k=some v:=by
 rw[List.getElem?_map] at h
 obtain⟨p,hp,rfl⟩:=Option.map_eq_some_iff.1 h
 exact⟨p.2,hp,mget_at hn hp⟩
theorem map_eraseIdx {γ δ:Type} (f:γ→δ) (l:List γ) (i:Nat):(l.eraseIdx i).map f=(l.map f).eraseIdx i:=map_erase f l i
theorem mput_keys_eq {l:List (κ×β)} {γ:Type} {m:List (κ×γ)} (h:l.map (·.1)=m.map (·.1)) (k:κ) (v:β) (u:γ):(Q5 l k v).map (·.1)=(Q5 m k u).map (·.1):=by
 rw[yR,yR,h]
theorem mput_nodup {l:List (κ×β)} (h:(l.map (·.1)).Nodup) (k:κ) (v:β):((Q5 l k v).map (·.1)).Nodup:=by
 rw[yR]
 split
 ·exact h
 rename_i hk
 rw[List.nodup_append]
 refine⟨h,by simp,fun a ha b hb=>?_⟩
 rw[List.mem_singleton.1 hb]
 intro e;exact hk (e▸ha)
end
section
variable {κ α:Type} [DecidableEq κ] [Enc α]
def RowsM (Ti:TypeId) (us:List (κ×Sl)) (l:List (κ×List α)):bI:=fun h=>gB Ti (us.map Prod.snd) (l.map Prod.snd) h∧us.map (·.1)=l.map (·.1)∧(us.map (·.1)).Nodup
def RowsX (Ti:TypeId) (us:List (κ×Sl)) (l:List (κ×List α)) (k:κ):bI:=fun h=>gB Ti ((us.filter fun p=> !decide (p.1=k)).map Prod.snd) ((l.filter fun p=> !decide (p.1=k)).map Prod.snd) h∧us.map (·.1)=l.map (·.1)∧(us.map (·.1)).Nodup
omit [DecidableEq κ] in
theorem RowsM.nil (Ti:TypeId):RowsM Ti ([]:List (κ×Sl)) ([]:List (κ×List α)) PH.emp:=⟨rfl,rfl,by simp⟩
def aB7 (ρ:PH) (us:List (κ×Sl)) (l:List (κ×List α)):Prop:=us.map (·.1)=l.map (·.1)∧(us.map (·.1)).Nodup∧∀k,aH ρ ((kX us k).getD Sl.nil).v ((kX l k).getD [])
variable {Z:World} {ρ:PH} {L:List bI} {w:World} {Ti:TypeId} {us:List (κ×Sl)} {l:List (κ×List α)} {k:κ} {v:Value}
omit [DecidableEq κ] in
theorem RowsM.keys (h:Hp Z ρ (RowsM Ti us l::L) w):us.map (·.1)=l.map (·.1):=(Hp.fact (A:=gB Ti (us.map Prod.snd) (l.map Prod.snd)) h).2.1
omit [DecidableEq κ] [Enc α] in
theorem Hp.addFact {A:bI} {p:Prop} (h:Hp Z ρ (A::L) w) (hp:p):Hp Z ρ ((fun k=>A k∧p)::L) w:=h.imp fun _ a=>⟨a,hp⟩
theorem RowsM.take (h:Hp Z ρ (RowsM Ti us l::L) w) (k:κ):Hp Z ρ (aG Ti ((kX us k).getD Sl.nil).v ((kX l k).getD [])::RowsX Ti us l k::L) w:=by
 obtain⟨hr,hk,hn⟩:=Hp.fact (A:=gB Ti (us.map Prod.snd) (l.map Prod.snd)) h
 have hn2:(l.map (·.1)).Nodup:=hk▸hn
 have done:Hp Z ρ (aG Ti ((kX us k).getD Sl.nil).v ((kX l k).getD [])::gB Ti ((us.filter fun p=> !decide (p.1=k)).map Prod.snd) ((l.filter fun p=> !decide (p.1=k)).map Prod.snd)::L) w:=by
  by_cases hm:k∈us.map (·.1)
  ·obtain⟨j,hj⟩:=List.getElem?_of_mem hm
   obtain⟨u,hu,hu2⟩:=aC5 hn hj
   have hj2:(l.map (·.1))[j]?=some k:=hk▸hj
   obtain⟨r,hr1,hr2⟩:=aC5 hn2 hj2
   rw[hu2,hr2,F8 hn hj,F8 hn2 hj2,map_eraseIdx,map_eraseIdx]
   exact hr.to fun s=>(gB.take j (by rw[List.getElem?_map,hu];rfl) (by rw[List.getElem?_map,hr1];rfl)).1 s
  rw[X6 hm,X6 (hk▸hm),filter_all hm,filter_all (hk▸hm)]
  exact hr.emp (aG.nil Ti)
 exact(((done.get 1 rfl).addFact ⟨hk,hn⟩).get 1 rfl)
theorem RowsX.put {s:Sl} {v:Value} (he:s.v=v) {r:List α} (h:Hp Z ρ (aG Ti v r::RowsX Ti us l k::L) w):Hp Z ρ (RowsM Ti (Q5 us k s) (Q5 l k r)::L) w:=by
 subst he
 obtain⟨h1,hk,hn⟩:=Hp.fact (A:=gB Ti ((us.filter fun p=> !decide (p.1=k)).map Prod.snd) ((l.filter fun p=> !decide (p.1=k)).map Prod.snd)) (h.get 1 rfl)
 have hr:=h1.get 1 rfl
 have hn2:(l.map (·.1)).Nodup:=hk▸hn
 refine Hp.addFact ?_ ⟨mput_keys_eq hk k s r,mput_nodup hn k s⟩
 by_cases hm:k∈us.map (·.1)
 ·obtain⟨j,hj⟩:=List.getElem?_of_mem hm
  have hj2:(l.map (·.1))[j]?=some k:=hk▸hj
  have hl1:=(List.getElem?_eq_some_iff.1 hj).1
  have hl2:=(List.getElem?_eq_some_iff.1 hj2).1
  rw[List.length_map] at hl1 hl2
  rw[mput_at hn hj,mput_at hn2 hj2]
  rw[F8 hn hj,F8 hn2 hj2,map_eraseIdx,map_eraseIdx] at hr
  refine hr.to fun t=>(gB.take j (u:=s) (r:=r) (by rw[List.map_set,List.getElem?_set_self (by simpa using hl1)]) (by rw[List.map_set,List.getElem?_set_self (by simpa using hl2)])).2 ?_
  rw[List.map_set,List.map_set,List.eraseIdx_set_eq,List.eraseIdx_set_eq]
  exact t
 rw[mput_new hm,mput_new (hk▸hm),List.map_append,List.map_append]
 rw[filter_all hm,filter_all (hk▸hm)] at hr
 exact hr.to fun t=>gB.snoc t
theorem RowsX.back {v:Value} (he:((kX us k).getD Sl.nil).v=v) {r:List α} (h:Hp Z ρ (aG Ti v r::RowsX Ti us l k::L) w):Hp Z ρ (RowsM Ti us (mset l k r)::L) w:=by
 subst he
 obtain⟨h1,hk,hn⟩:=Hp.fact (A:=gB Ti ((us.filter fun p=> !decide (p.1=k)).map Prod.snd) ((l.filter fun p=> !decide (p.1=k)).map Prod.snd)) (h.get 1 rfl)
 have hr:=h1.get 1 rfl
 have hn2:(l.map (·.1)).Nodup:=hk▸hn
 unfold mset
 by_cases hm:k∈us.map (·.1)
 ·rw[if_pos (mhas_iff.2 (hk▸hm))]
  refine Hp.addFact ?_ ⟨by rw[yR,if_pos (hk▸hm)];exact hk,hn⟩
  obtain⟨j,hj⟩:=List.getElem?_of_mem hm
  have hj2:(l.map (·.1))[j]?=some k:=hk▸hj
  obtain⟨u,hu,hu2⟩:=aC5 hn hj
  have hl2:=(List.getElem?_eq_some_iff.1 hj2).1
  rw[List.length_map] at hl2
  rw[mput_at hn2 hj2]
  rw[hu2,F8 hn hj,F8 hn2 hj2,map_eraseIdx,map_eraseIdx] at hr
  refine hr.to fun t=>(gB.take j (u:=u) (r:=r) (by rw[List.getElem?_map,hu];rfl) (by rw[List.map_set,List.getElem?_set_self (by simpa using hl2)])).2 ?_
  rw[List.map_set,List.eraseIdx_set_eq]
  exact t
 rw[if_neg (fun h=>hm (hk▸mhas_iff.1 h))]
 refine Hp.addFact ?_ ⟨hk,hn⟩
 rw[filter_all hm,filter_all (hk▸hm)] at hr
 exact hr.drop
theorem RowsM.ro {h:PH} (d:ρ.dj h) (a:RowsM Ti us l h):aB7 (ρ.un h) us l:=by
 obtain⟨hr,hk,hn⟩:=a
 have hn2:(l.map (·.1)).Nodup:=hk▸hn
 refine⟨hk,hn,fun k=>?_⟩
 by_cases hm:k∈us.map (·.1)
 ·obtain⟨j,hj⟩:=List.getElem?_of_mem hm
  obtain⟨u,hu,hu2⟩:=aC5 hn hj
  obtain⟨r,hr1,hr2⟩:=aC5 hn2 (hk▸hj:(l.map (·.1))[j]?=some k)
  rw[hu2,hr2]
  obtain⟨k',h4,h5⟩:=gB.at_ j hr (by rw[List.getElem?_map,hu];rfl) (by rw[List.getElem?_map,hr1];rfl)
  have h6:aH (PH.emp.un k') u.v r:=aG.ro (PH.dj_emp k').symm h4
  exact h6.mono (by
   have:PH.emp.un k'=k':=by funext x;rfl
   rw[this];exact h5.tr (PH.le_un_r d))
 rw[X6 hm,X6 (hk▸hm)]
 exact aH.nil _
theorem aB7.mono {ρ':PH} (h:aB7 ρ us l) (hl:ρ.le ρ'):aB7 ρ' us l:=⟨h.1,h.2.1,fun k=>(h.2.2 k).mono hl⟩
theorem aB7.get (h:aB7 ρ us l) (k:κ):∃v,((kX us k).getD Sl.nil).v=v∧aH ρ v ((kX l k).getD []):=⟨_,rfl,h.2.2 k⟩
theorem aB7.at_ (h:aB7 ρ us l) {u:Sl} (hm:(k,u)∈us):aH ρ (vl u) ((kX l k).getD []):=by
 have:=h.2.2 k
 rw[mget_mem h.2.1 hm] at this
 exact this
end
section
variable {Rn:Option Nat} {P:Program} {ops:Array Oper} {Q:Exit→Act→World→Prop} {rest:List Oper} {o:Oper} {a:Act} {w:World} {Df:List Deferred} {N:Nat} {E:Ent} {d:Nat} {Z:World} {ρ:PH} {L:List bI}
variable {κ β:Type} [Vl κ] [Vl β]
theorem MapIt.sub {b r:Nat} {l rem:List (κ×β)} {cur:Option (κ×β)} (h:Hp Z ρ (MapIt b r l rem cur::L) w):rem.Sublist l:=by
 obtain⟨es,clock,since,seen,last,_,_,_,_,_,_,h5,_⟩:=h.it
 exact h5
variable [DecidableEq κ]
end
section
variable {Rn:Option Nat} {P:Program} {ops:Array Oper} {Q:Exit→Act→World→Prop} {rest:List Oper} {o:Oper} {a:Act} {w:World} {Df:List Deferred} {N:Nat} {E:Ent} {d:Nat} {Z:World} {ρ:PH} {L:List bI} {C:World→Prop}
variable {α:Type} [Enc α] {T Ti To Tr:TypeId} {v:Value} {us:List Sl} {l:List (List α)} {bytes:Nat}
theorem ex_nil {x:Operand} (ho:o.op= .nilCheck x) (hE:EnvD Df N E a) {p:Addr} (hx:evo E x=some (.pointer (some p))):Ex P C a o (.pointer (some p)):=fun w _=>by
 simp[execOp,ho,hE.eval hx]
theorem gB.app:∀{us us2:List Sl} {l l2:List (List α)} {ρ h:PH} {L:List bI},Sep ρ (gB Ti us2 l2::gB Ti us l::L) h→Sep ρ (gB Ti (us++us2) (l++l2)::L) h
 | [],us2,[],l2,ρ,h,L,hs=>Sep.cons_mono (fun ρ h s=>Sep.emp1.1 s) hs
 | [],_,_::_,_,_,_,_,hs=>by obtain⟨_,_,_,k,a,_⟩:=hs;exact a.elim
 |_::_,_,[],_,_,_,_,hs=>by obtain⟨_,_,_,k,a,_⟩:=hs;exact a.elim
 |u::us,us2,r::l,l2,ρ,h,L,hs=>
  Sep.two.2 (Sep.cons_mono (fun ρ h s=>gB.app s) (Sep.swap (Sep.cons_mono (fun ρ h s=>Sep.two.1 s) hs) |> fun s=>Sep.cons_mono (fun ρ h s=>s) s))
end
section
variable {Rn:Option Nat} {P:Program} {fn:Func} {R:Ending→World→Prop} {a:Act} {w:World} {Df:List Deferred} {N:Nat} {E:Ent}
end
def RoFull {α:Type} [Rep α] (ρ:PH) (v:Value) (l:List α):Prop:=aH ρ v l∧∃A,v= .slice A l.length l.length
theorem RoFull.mono {α:Type} [Rep α] {ρ ρ':PH} {v:Value} {l:List α} (h:RoFull ρ v l) (hl:ρ.le ρ'):RoFull ρ' v l:=⟨h.1.mono hl,h.2⟩
section
variable {P:Program} {o:Oper} {a:Act} {C:World→Prop} {Df:List Deferred} {N:Nat} {E:Ent}
end
section
variable {α:Type} [Rep α] [Rep1 α] {Rn:Option Nat} {P:Program} {ops:Array Oper} {Q:Exit→Act→World→Prop} {rest:List Oper} {o:Oper} {a:Act} {w:World} {Df:List Deferred} {N:Nat} {E:Ent} {d:Nat} {Z:World} {ρ:PH} {L:List bI}
end
instance rep1List {α:Type} [Rep α]:Rep1 (List α):=⟨fun h v hv=>by
 obtain⟨u,rfl,h⟩:=h
 rw[List.mem_singleton.1 hv];exact h.one,Nat.one_pos⟩
section
variable {Rn:Option Nat} {P:Program} {ops:Array Oper} {Q:Exit→Act→World→Prop} {rest:List Oper} {o:Oper} {a:Act} {w:World} {Df:List Deferred} {N:Nat} {E:Ent} {d:Nat} {Z:World} {ρ:PH} {L:List bI}
variable {α:Type} [Enc α] {T El:TypeId} {bytes:Nat} {v:Value} {l r:List α}
theorem aG.view (hp:Hp Z ρ L w) (k:Nat) (hk:L[k]?=some (aG El v l)) (ht:SlTy P T El (Enc.sz α) bytes) (lo hi:Option (IntKind×Int)) {i j:Int} (hlo:i=match lo with|none=>0|some p=>p.2) (hhi:j=match hi with|none=>(l.length:Int)|some p=>p.2) (hr:sub l i j=some r):
  ∃v',∀w,(Instr.sliceAt T v (lo.map fun p=> .int p.1 p.2) (hi.map fun p=> .int p.1 p.2) none).run P w= .ok v' w:=by
 obtain⟨κ,ha,hd,_⟩:=(hp.get k hk).lend
 obtain⟨v',h,_⟩:=aH.part (aG.ro hd ha) ht lo hi hlo hhi hr
 exact⟨v',h⟩
omit [Enc α] in
theorem sl_det [Rep α] (w:World) {x y:Option Value} {v1 v2:Value} (h1:∀w,(Instr.sliceAt T v x y none).run P w= .ok v1 w) (h2:∀w,(Instr.sliceAt T v x y none).run P w= .ok v2 w) (h:aH ρ v1 l):aH ρ v2 l:=by
 have:=(h1 w).symm.trans (h2 w)
 injection this with e
 exact e▸h
theorem repAll_flat:∀(l:List α),dE ρ l (flat l)
 | []=>rfl
 |a::l=>⟨Enc.enc a,flat l,by simp[flat],rfl,repAll_flat l⟩
theorem repAll_eq:∀{l:List α} {xs:List Value},dE ρ l xs→xs=flat l
 | [],_,e=>e
 |a::l,_,⟨c,r,e,hc,hr⟩=>by
  have hc':c=Enc.enc a:=hc
  rw[e,hc',repAll_eq hr];simp[flat]
theorem zA (wk:Region.wanted o (yielded ops a.tmps)=true) (hd:o.dst=none) (hE:EnvD Df N E a) (hp:Hp Z ρ L w) {x y:Operand} (ho:o.op= .store T x y) {g off:Nat} (hx:evo E x=some (.pointer (some ⟨g,off,none⟩))) {u:Value} (hy:evo E y=some u) (k:Nat) (hk:L[k]?=some (aG El v l))
  {i:Int} {e:α} (hi:idx l i=some e) (hv:∃of0 cap,v= .slice (some ⟨g,of0,none⟩) l.length cap∧off=of0+i.toNat*Enc.sz α) {e':α} (ht:∀w,(sizeOf T).run P w= .ok (Enc.enc e').length w) (hc:u.cells=(Enc.enc e').toArray) (hgc:∀(q:Nat) (z:Value),(Enc.enc e)[q]?=some z→w.cell? ⟨g,off+q,none⟩=some z)
  (K:∀w,Hp Z ρ (L.set k (aG El v (l.set i.toNat e'))) w→wpL Rn P ops Q rest a w):wpL Rn P ops Q (o::rest) a w:=by
 have h1:=Enc.len e'
 have h2:=Enc.len e
 refine s_stelR wk hd hE hp ho hx hy k (xs:=flat l) hk (repAll_flat l) hi hv 0 ht rfl hc (cs:=Enc.enc e) (e':=e') rfl hgc ?_ ?_ fun w xs' hR hw=>K w ?_
 ·show _=Enc.enc e'
  rw[List.take_zero,List.nil_append,Nat.zero_add,List.drop_of_length_le (by omega),List.append_nil]
 ·show Nat.ble (0+(Enc.enc e').length) (Enc.sz α)=true
  rw[Nat.ble_eq];omega
 rw[repAll_eq hR] at hw
 exact hw
omit [Enc α] in
theorem s_unitV (wk:Region.wanted o (yielded ops a.tmps)=true) (hd:o.dst=none) (hE:EnvD Df N E a) {u:Value} {w':World} (hx:(execOp a.eval o).run P w= .ok (.value u) w') (K:wpL Rn P ops Q rest a w'):wpL Rn P ops Q (o::rest) a w:=
 l_value wk hx (by rw[hd];exact K)
end
end Go.Proofs.YtopnldfjcciieaaGreat

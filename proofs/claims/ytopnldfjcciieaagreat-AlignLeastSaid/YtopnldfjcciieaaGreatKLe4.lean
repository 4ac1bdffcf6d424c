/- Models of: assessor/distance.subtrees, assessor/distance.Subtrees. (Printed by wip/sp/gen.py.) -/
import Derived.Test.YtopnldfjcciieaaGreatKLe3
import Derived.Test.YtopnldfjcciieaaGreatKLe2
set_option linter.unusedVariables false
set_option linter.unusedSimpArgs false
namespace Go.Proofs.YtopnldfjcciieaaGreat
open Go.RowKit
noncomputable def oP (I:DFlat) (H:DFlat) (G:Int) (B:(List Int)) (bP:Int) (eP:(List (List Int))):Option (Step (Int×(List (List Int))) (List (List Int))):=
 if(decide (bP<(B.length:Int)))=true then
  (idx B bP).bind fun F=>
  (qC G F I H eP).bind fun D=>
  (inK .i64 (bP+1)).bind fun A=>
  some (.next (A,D))
 else
  some (.done eP)
noncomputable def oO (H:DFlat) (D:DFlat) (B:(List Int)) (aQ:Int) (aU:(List (List Int))):Option (Step (Int×(List (List Int))) (List (List Int))):=
 if(decide (aQ<(B.length:Int)))=true then
  (idx B aQ).bind fun G=>
  (kS D).bind fun F=>
  (dY (fun s=>oP H D G F s.1 s.2) (0,aU):Option (List (List Int))).bind fun b28=>
  (inK .i64 (aQ+1)).bind fun A=>
  some (.next (A,b28))
 else
  some (.done aU)
noncomputable def oU (K:DFlat) (I:DFlat) (dR:Int) (F:(List Int)) (fZ:Int) (jK:(List (List Int))):Option (Step (Int×(List (List Int))) (List (List Int))):=
 if(decide (fZ<(F.length:Int)))=true then
  (idx F fZ).bind fun H=>
  (idx K.numbers dR).bind fun D=>
  (idx jK D).bind fun B=>
  (idx I.numbers fZ).bind fun A=>
  (idx B A).bind fun J=>
  (inK .i64 (fZ+1)).bind fun G=>
  some (.next (G,jK.set D.toNat (B.set A.toNat H)))
 else
  some (.done jK)
noncomputable def oQ (F:DFlat) (D:DFlat) (b26:(List (List Int))) (dR:Int) (vH:(List (List Int))):Option (Step (Int×(List (List Int))) (List (List Int))):=
 if(decide (dR<(b26.length:Int)))=true then
  (idx b26 dR).bind fun B=>
  (dY (fun s=>oU F D dR B s.1 s.2) (0,vH):Option (List (List Int))).bind fun b32=>
  (inK .i64 (dR+1)).bind fun A=>
  some (.next (A,b32))
 else
  some (.done vH)
noncomputable def sW (J:Node) (I:Node):Option (List (List Int)):=
 (qZ J).bind fun A=>
 (qZ I).bind fun B=>
 (rC (A.labels.length:Int) (B.labels.length:Int)).bind fun H=>
 (xZ A B H).bind fun G=>
 (kS A).bind fun F=>
 (dY (fun s=>oO A B F s.1 s.2) (0,G):Option (List (List Int))).bind fun b26=>
 (rC (A.labels.length:Int) (B.labels.length:Int)).bind fun D=>
 (dY (fun s=>oQ A B b26 s.1 s.2) (0,D):Option (List (List Int))).bind fun b30=>
 some b30
noncomputable def sV (B:Node) (A:Node):Option ((List (List Int))×Int):=
 (vX ([B,A]:List Node)).bind fun F=>
 if F=true then
  some ([],8)
 else
  (sW B A).bind fun D=>
  some (D,0)
noncomputable def aI3 (B:Int) (A:Int):Option (Int×Int):=
 (shrK .u64 B 32).bind fun D=>
 (shrK .u64 A 32).bind fun G=>
 (shrK .u64 (IntKind.wrap .u64 ((andK .u64 B 4294967295)*(andK .u64 A 4294967295))) 32).bind fun F=>
 (shrK .u64 (IntKind.wrap .u64 ((IntKind.wrap .u64 (D*(andK .u64 A 4294967295)))+F)) 32).bind fun I=>
 (shrK .u64 (IntKind.wrap .u64 ((andK .u64 (IntKind.wrap .u64 ((IntKind.wrap .u64 (D*(andK .u64 A 4294967295)))+F)) 4294967295)+(IntKind.wrap .u64 ((andK .u64 B 4294967295)*G)))) 32).bind fun H=>
 some (IntKind.wrap .u64 ((IntKind.wrap .u64 ((IntKind.wrap .u64 (D*G))+I))+H),IntKind.wrap .u64 (B*A))
noncomputable def aQ1 (D:Int) (B:Int):Option (Int×Int):=
 (aI3 D B).bind fun A=>
 some (A.1,A.2)
noncomputable def xB (aQ:Int) (aU:(List Int)):Option (Step (Int×(List Int)) (List Int)):=
 if(decide (aQ<(aU.length:Int)))=true then
  (sub aU aQ (aU.length:Int)).bind fun B=>
  (sub aU 0 aQ).bind fun A=>
  (inK .i64 (aQ+((min A.length B.length:Nat):Int))).bind fun D=>
  some (.next (D,aU.take aQ.toNat++cpy B A))
 else
  some (.done aU)
noncomputable def nX (B:(List Int)) (G:Int):Option (List Int):=
 ((if(decide (G<0))=true then
  none
 else
  some ()):Option Unit).bind fun j1=>
 (aQ1 (IntKind.wrap .u64 (B.length:Int)) (IntKind.wrap .u64 G)).bind fun A=>
 ((if((decide (0<A.1))||(decide (9223372036854775807<A.2)))=true then
  none
 else
  some ()):Option Unit).bind fun j2=>
 (inK .i64 A.2).bind fun F=>
 (mkc F F (0:Int)).bind fun D=>
 (dY (fun s=>xB s.1 s.2) (((min B.length D.length:Nat):Int),cpy D B):Option (List Int)).bind fun b1=>
 some b1
noncomputable def xR (A:Alg) (aQ:Int) (aU:(List Opn)):Option (Step (Int×(List Opn)) (List Opn)):=
 if(decide (aQ<(A.partner.length:Int)))=true then
  (idx A.partner aQ).bind fun F=>
  (app aU [(Opn.mk aQ F)]).bind fun D=>
  (inK .i64 (aQ+1)).bind fun B=>
  some (.next (B,D))
 else
  some (.done aU)
noncomputable def xU (A:Alg) (bP:Int) (eP:(List Opn)):Option (Step (Int×(List Opn)) (List Opn)):=
 if(decide (bP<(A.back.length:Int)))=true then
  (idx A.back bP).bind fun G=>
  if(decide (G<0))=true then
   (app eP [(Opn.mk (-1) bP)]).bind fun F=>
   (inK .i64 (bP+1)).bind fun D=>
   some (.next (D,F))
  else
   (inK .i64 (bP+1)).bind fun B=>
   some (.next (B,eP))
 else
  some (.done eP)
noncomputable def uY (J:Node) (I:Node):Option ((List Opn)×Int):=
 (sV J I).bind fun H=>
 if(!decide (H.2=0))=true then
  some ([],H.2)
 else
  (jX J).bind fun G=>
  (jX I).bind fun F=>
  (nS G).bind fun D=>
  (nS F).bind fun B=>
  (nX ([(-1)]:List Int) (G.nodes.length:Int)).bind fun U=>
  (nX ([(-1)]:List Int) (F.nodes.length:Int)).bind fun S=>
  (inK .i64 ((D.1.length:Int)-1)).bind fun M=>
  (inK .i64 ((B.1.length:Int)-1)).bind fun K=>
  (uN (Alg.mk G F D.1 D.2 B.1 B.2 H.1 U S) M K).bind fun A=>
  (dY (fun s=>xR A s.1 s.2) (0,[]):Option (List Opn)).bind fun b12=>
  (dY (fun s=>xU A s.1 s.2) (0,b12):Option (List Opn)).bind fun b15=>
  some (b15,0)
noncomputable def G8 (A:Opn) (cp0:Int):Option Bool:=
 some (decide (A.a=cp0))
noncomputable def rU (A:(List Opn)) (p1c0:Int) (aQ:Int):Option (Step Int (Out Unit Int)):=
 if(decide (aQ<(A.length:Int)))=true then
  (idx A aQ).bind fun F=>
  (G8 F p1c0).bind fun D=>
  if D=true then
   some (.done (.ret aQ))
  else
   (inK .i64 (aQ+1)).bind fun B=>
   some (.next B)
 else
  some (.done (.brk ()))
noncomputable def oH (A:(List Opn)) (p1c0:Int):Option Int:=
 (dY (fun s=>rU A p1c0 s) 0:Option (Out Unit Int)).bind fun b1=>
 match b1 with
 | .brk b1s=>
  some (-1)
 | .ret r=>some r
noncomputable def zV (B:(List Opn)) (D:Int):Option (Int×Bool):=
 (oH B D).bind fun A=>
 ((if((decide (A<0))||(decide (D<0)))=true then
  some true
 else
  (idx B A).bind fun G=>
  some (decide (G.b<0))):Option Bool).bind fun m1=>
 if m1=true then
  some (0,false)
 else
  (idx B A).bind fun F=>
  some (F.b,true)
noncomputable def zJ (A:Int):Option Bool:=
 some (!decide (A=A))
noncomputable def wV (B:Int) (A:Int):Option Int:=
 (zJ B).bind fun F=>
 (zJ A).bind fun D=>
 if F=true then
  if D=true then
   some 0
  else
   some (-1)
 else
  if D=true then
   some 1
  else
   if(decide (B<A))=true then
    some (-1)
   else
    if(decide (A<B))=true then
     some 1
    else
     some 0
noncomputable def tJ (A:Opn) (B:Opn):Option Int:=
 if((decide (0≤A.a))&&(decide (0≤B.a)))=true then
  (wV A.a B.a).bind fun F=>
  some F
 else
  if((decide (A.a<0))&&(decide (B.a<0)))=true then
   (wV A.b B.b).bind fun D=>
   some D
  else
   if(decide (0≤A.a))=true then
    some (-1)
   else
    some 1
noncomputable def mX (U:Int) (bP:Int) (eP:(List Opn)):Option (Step (Int×(List Opn)) (List Opn)):=
 ((if(decide (U<bP))=true then
  (idx eP bP).bind fun K=>
  (inK .i64 (bP-1)).bind fun J=>
  (idx eP J).bind fun I=>
  (tJ K I).bind fun H=>
  some (decide (H<0))
 else
  some false):Option Bool).bind fun m1=>
 if m1=true then
  (inK .i64 (bP-1)).bind fun D=>
  (inK .i64 (bP-1)).bind fun G=>
  (idx eP G).bind fun B=>
  (idx eP bP).bind fun F=>
  (idx eP bP).bind fun S=>
  (idx (eP.set bP.toNat B) D).bind fun M=>
  (inK .i64 (bP-1)).bind fun A=>
  some (.next (A,(eP.set bP.toNat B).set D.toNat F))
 else
  some (.done eP)
noncomputable def mW (D:Int) (B:Int) (aQ:Int) (aU:(List Opn)):Option (Step (Int×(List Opn)) (List Opn)):=
 if(decide (aQ<B))=true then
  (dY (fun s=>mX D s.1 s.2) (aQ,aU):Option (List Opn)).bind fun b2=>
  (inK .i64 (aQ+1)).bind fun A=>
  some (.next (A,b2))
 else
  some (.done aU)
noncomputable def iF (F:(List Opn)) (A:Int) (D:Int):Option (List Opn):=
 (inK .i64 (A+1)).bind fun B=>
 (dY (fun s=>mW A D s.1 s.2) (B,F):Option (List Opn)).bind fun b1=>
 some b1
noncomputable def oV (G:Int) (F:Int) (M:Int) (aQ:Int) (aU:(List Opn)):Option (Step (Int×(List Opn)) (List Opn)):=
 if(decide (aQ<M))=true then
  (inK .i64 (G+aQ)).bind fun A=>
  (inK .i64 (F+aQ)).bind fun D=>
  (inK .i64 (F+aQ)).bind fun K=>
  (idx aU K).bind fun B=>
  (inK .i64 (G+aQ)).bind fun J=>
  (idx aU J).bind fun I=>
  (idx aU A).bind fun x7=>
  (idx (aU.set A.toNat B) D).bind fun x8=>
  (inK .i64 (aQ+1)).bind fun H=>
  some (.next (H,(aU.set A.toNat B).set D.toNat I))
 else
  some (.done aU)
noncomputable def gQ (F:(List Opn)) (D:Int) (B:Int) (A:Int):Option (List Opn):=
 (dY (fun s=>oV D B A s.1 s.2) (0,F):Option (List Opn)).bind fun b1=>
 some b1
noncomputable def qI (A:Int) (aQ:Int) (aU:Int) (dS:(List Opn)):Option (Step (Int×Int×(List Opn)) (Int×(List Opn))):=
 if(!decide (aQ=aU))=true then
  if(decide (aU<aQ))=true then
   (inK .i64 (A-aQ)).bind fun K=>
   (gQ dS K A aU).bind fun J=>
   (inK .i64 (aQ-aU)).bind fun I=>
   some (.next (I,aU,J))
  else
   (inK .i64 (A-aQ)).bind fun H=>
   (inK .i64 (A+aU)).bind fun G=>
   (inK .i64 (G-aQ)).bind fun F=>
   (gQ dS H F aQ).bind fun D=>
   (inK .i64 (aU-aQ)).bind fun B=>
   some (.next (aQ,B,D))
 else
  some (.done (aQ,dS))
noncomputable def mF (J:(List Opn)) (I:Int) (A:Int) (H:Int):Option (List Opn):=
 (inK .i64 (A-I)).bind fun G=>
 (inK .i64 (H-A)).bind fun F=>
 (dY (fun s=>qI A s.1 s.2.1 s.2.2) (G,F,J):Option (Int×(List Opn))).bind fun b1=>
 (inK .i64 (A-b1.1)).bind fun D=>
 (gQ b1.2 D A b1.1).bind fun B=>
 some B
noncomputable def mY (B:(List Opn)) (K:Int) (aQ:Int) (aU:Int):Option (Step (Int×Int) Int):=
 if(decide (aQ<aU))=true then
  (inK .i64 (aQ+aU)).bind fun J=>
  (shrK .u64 (IntKind.wrap .u64 J) 1).bind fun I=>
  (inK .i64 I).bind fun A=>
  (idx B A).bind fun H=>
  (idx B K).bind fun G=>
  (tJ H G).bind fun F=>
  if(decide (F<0))=true then
   (inK .i64 (A+1)).bind fun D=>
   some (.next (D,aU))
  else
   some (.next (aQ,A))
 else
  some (.done aQ)
noncomputable def mZ (b1:Int) (bP:Int) (eP:(List Opn)):Option (Step (Int×(List Opn)) (List Opn)):=
 (inK .i64 (b1-1)).bind fun H=>
 if(decide (bP<H))=true then
  (inK .i64 (bP+1)).bind fun B=>
  (inK .i64 (bP+1)).bind fun G=>
  (idx eP G).bind fun A=>
  (idx eP bP).bind fun F=>
  (idx eP bP).bind fun J=>
  (idx (eP.set bP.toNat A) B).bind fun I=>
  (inK .i64 (bP+1)).bind fun D=>
  some (.next (D,(eP.set bP.toNat A).set B.toNat F))
 else
  some (.done eP)
noncomputable def nC (J:(List Opn)) (K:Int) (dR:Int) (vH:Int):Option (Step (Int×Int) Int):=
 if(decide (dR<vH))=true then
  (inK .i64 (dR+vH)).bind fun I=>
  (shrK .u64 (IntKind.wrap .u64 I) 1).bind fun H=>
  (inK .i64 H).bind fun A=>
  (idx J K).bind fun G=>
  (idx J A).bind fun F=>
  (tJ G F).bind fun D=>
  if(!(decide (D<0)))=true then
   (inK .i64 (A+1)).bind fun B=>
   some (.next (B,vH))
  else
   some (.next (dR,A))
 else
  some (.done dR)
noncomputable def nD (b15:Int) (fZ:Int) (jK:(List Opn)):Option (Step (Int×(List Opn)) (List Opn)):=
 if(decide (b15<fZ))=true then
  (inK .i64 (fZ-1)).bind fun B=>
  (inK .i64 (fZ-1)).bind fun G=>
  (idx jK G).bind fun A=>
  (idx jK fZ).bind fun F=>
  (idx jK fZ).bind fun I=>
  (idx (jK.set fZ.toNat A) B).bind fun H=>
  (inK .i64 (fZ-1)).bind fun D=>
  some (.next (D,(jK.set fZ.toNat A).set B.toNat F))
 else
  some (.done jK)
noncomputable def nG (M:(List Opn)) (K:Int) (lp5_0:Int) (lp5_1:Int):Option (Step (Int×Int) Int):=
 if(decide (lp5_0<lp5_1))=true then
  (inK .i64 (lp5_0+lp5_1)).bind fun J=>
  (shrK .u64 (IntKind.wrap .u64 J) 1).bind fun I=>
  (inK .i64 I).bind fun A=>
  (inK .i64 (K-A)).bind fun H=>
  (idx M H).bind fun G=>
  (idx M A).bind fun F=>
  (tJ G F).bind fun D=>
  if(!(decide (D<0)))=true then
   (inK .i64 (A+1)).bind fun B=>
   some (.next (B,lp5_1))
  else
   some (.next (lp5_0,A))
 else
  some (.done lp5_0)
noncomputable def jH (self:(List Opn)→Int→Int→Int→Option (List Opn)) (H:(List Opn)) (F:Int) (B:Int) (I:Int):Option (List Opn):=
 (inK .i64 (B-F)).bind fun Y=>
 if(decide (Y=1))=true then
  (dY (fun s=>mY H F s.1 s.2) (B,I):Option Int).bind fun b1=>
  (dY (fun s=>mZ b1 s.1 s.2) (F,H):Option (List Opn)).bind fun b6=>
  some b6
 else
  (inK .i64 (I-B)).bind fun X=>
  if(decide (X=1))=true then
   (dY (fun s=>nC H B s.1 s.2) (F,B):Option Int).bind fun b15=>
   (dY (fun s=>nD b15 s.1 s.2) (B,H):Option (List Opn)).bind fun b20=>
   some b20
  else
   (inK .i64 (F+I)).bind fun W=>
   (shrK .u64 (IntKind.wrap .u64 W) 1).bind fun V=>
   (inK .i64 V).bind fun A=>
   (inK .i64 (A+B)).bind fun G=>
   ((if(decide (A<B))=true then
    (inK .i64 (G-I)).bind fun U=>
    some (U,A)
   else
    some (F,B)):Option (Int×Int)).bind fun j1=>
   (inK .i64 (G-1)).bind fun S=>
   (dY (fun s=>nG H S s.1 s.2) (j1.1,j1.2):Option Int).bind fun b29=>
   (inK .i64 (G-b29)).bind fun D=>
   ((if((decide (b29<B))&&(decide (B<D)))=true then
    (mF H b29 B D).bind fun M=>
    some M
   else
    some H):Option (List Opn)).bind fun j2=>
   ((if((decide (F<b29))&&(decide (b29<A)))=true then
    (self j2 F b29 A).bind fun K=>
    some K
   else
    some j2):Option (List Opn)).bind fun j3=>
   if((decide (A<D))&&(decide (D<I)))=true then
    (self j3 A D I).bind fun J=>
    some J
   else
    some j3
noncomputable def iJ:Nat→(List Opn)→Int→Int→Int→Option (List Opn)
 |0=>fun _ _ _ _=>none
 |n+1=>jH (iJ n)
noncomputable def kW (F:(List Opn)) (B:Int) (D:Int) (A:Int):Option (List Opn):=iJ ((A-B).toNat+1) F B D A
noncomputable def qJ (D:Int) (aQ:Int) (aU:Int) (dS:(List Opn)):Option (Step (Int×Int×(List Opn)) (Int×(List Opn))):=
 if(decide (aU≤D))=true then
  (iF dS aQ aU).bind fun B=>
  (inK .i64 (aU+20)).bind fun A=>
  some (.next (aU,A,B))
 else
  some (.done (aQ,dS))
noncomputable def qL (G:Int) (bP:Int) (dR:Int) (vH:Int) (aK1:(List Opn)):Option (Step (Int×Int×(List Opn)) (Int×(List Opn))):=
 if(decide (vH≤G))=true then
  (inK .i64 (dR+bP)).bind fun F=>
  (kW aK1 dR F vH).bind fun D=>
  (inK .i64 (2*bP)).bind fun B=>
  (inK .i64 (vH+B)).bind fun A=>
  some (.next (vH,A,D))
 else
  some (.done (dR,aK1))
noncomputable def qK (A:Int) (bP:Int) (eP:(List Opn)):Option (Step (Int×(List Opn)) (List Opn)):=
 if(decide (bP<A))=true then
  (inK .i64 (2*bP)).bind fun G=>
  (dY (fun s=>qL A bP s.1 s.2.1 s.2.2) (0,G,eP):Option (Int×(List Opn))).bind fun b3=>
  (inK .i64 (b3.1+bP)).bind fun F=>
  ((if(decide (F<A))=true then
   (kW b3.2 b3.1 F A).bind fun D=>
   some D
  else
   some b3.2):Option (List Opn)).bind fun j1=>
  (inK .i64 (bP*2)).bind fun B=>
  some (.next (B,j1))
 else
  some (.done eP)
noncomputable def mG (D:(List Opn)) (A:Int):Option (List Opn):=
 (dY (fun s=>qJ A s.1 s.2.1 s.2.2) (0,20,D):Option (Int×(List Opn))).bind fun b1=>
 (iF b1.2 b1.1 A).bind fun B=>
 (dY (fun s=>qK A s.1 s.2) (20,B):Option (List Opn)).bind fun b2=>
 some b2
noncomputable def lL (A:(List Opn)):Option (List Opn):=
 (mG A (A.length:Int)).bind fun B=>
 some B
noncomputable def G9 (B:(List Opn)):Option (List Opn):=
 (lL B).bind fun A=>
 some A
noncomputable def aA9 (B:(List Opn)) (aQ:Int) (aU:(List Opn)):Option (Step (Int×(List Opn)) (List Opn)):=
 if(decide (aQ<(B.length:Int)))=true then
  (idx B aQ).bind fun A=>
  (app aU [(Opn.mk A.b A.a)]).bind fun F=>
  (inK .i64 (aQ+1)).bind fun D=>
  some (.next (D,F))
 else
  some (.done aU)
noncomputable def G7 (B:(List Opn)):Option (List Opn):=
 (dY (fun s=>aA9 B s.1 s.2) (0,[]):Option (List Opn)).bind fun b1=>
 (G9 b1).bind fun A=>
 some A
noncomputable def X4 (D:(List Opn)) (H:(List Opn)) (aQ:Int) (aU:(List Opn)) (dS:(List (Int×Bool))):Option (Step (Int×(List Opn)×(List (Int×Bool))) ((List Opn)×(List (Int×Bool)))):=
 if(decide (aQ<(D.length:Int)))=true then
  (((idx D aQ).bind fun A=>
  if(decide (A.a<0))=true then
   some (aU,dS)
  else
   (zV H A.b).bind fun B=>
   ((if(!B.2)=true then
    some (-1)
   else
    some B.1):Option Int).bind fun j2=>
   (app aU [(Opn.mk A.a j2)]).bind fun G=>
   some (G,Q7 dS j2 true)):Option ((List Opn)×(List (Int×Bool)))).bind fun j1=>
  (inK .i64 (aQ+1)).bind fun F=>
  some (.next (F,j1.1,j1.2))
 else
  some (.done (aU,dS))
noncomputable def X5 (B:(List Opn)) (b2:((List Opn)×(List (Int×Bool)))) (bP:Int) (eP:(List Opn)):Option (Step (Int×(List Opn)) (List Opn)):=
 if(decide (bP<(B.length:Int)))=true then
  (idx B bP).bind fun A=>
  if((decide (0≤A.b))&&(!((jW (b2.2:List (Int×Bool)) A.b).getD false)))=true then
   (app eP [(Opn.mk (-1) A.b)]).bind fun G=>
   (inK .i64 (bP+1)).bind fun F=>
   some (.next (F,G))
  else
   (inK .i64 (bP+1)).bind fun D=>
   some (.next (D,eP))
 else
  some (.done eP)
noncomputable def V6 (D:(List Opn)) (A:(List Opn)):Option (List Opn):=
 (dY (fun s=>X4 D A s.1 s.2.1 s.2.2) (0,[],[]):Option ((List Opn)×(List (Int×Bool)))).bind fun b2=>
 (dY (fun s=>X5 A b2 s.1 s.2) (0,b2.1):Option (List Opn)).bind fun b6=>
 (G9 b6).bind fun B=>
 some B
def Node.re (n:Node) (ks:List Node):Node:=⟨n.kind,n.text,n.at_,n.fin,ks⟩
mutual
def atN:Node→Nat→Option (List Node×Nat×(List Node→Node))
 |⟨a,b,c,d,kids⟩,k=>(atL [] kids k).map fun q=>(q.1,q.2.1,fun x=>⟨a,b,c,d,q.2.2 x⟩)
def atL:List Node→List Node→Nat→Option (List Node×Nat×(List Node→List Node))
 |_,[],_=>none
 |pre,n::r,k=>if k=0 then some (pre++n::r,pre.length,id) else if k<bK n then(atN n (k-1)).map fun q=>(q.1,q.2.1,fun x=>pre++q.2.2 x::r) else atL (pre++[n]) r (k-bK n)
end
theorem atN_eq (n:Node) (k:Nat):atN n k=(atL [] n.kids k).map fun q=>(q.1,q.2.1,fun x=>n.re (q.2.2 x)):=by obtain⟨a,b,c,d,kids⟩:=n;rw[atN];rfl
theorem atL_nil (pre:List Node) (k:Nat):atL pre [] k=none:=by rw[atL]
theorem aL0 (pre:List Node) (n:Node) (r:List Node) (k:Nat):atL pre (n::r) k=if k=0 then some (pre++n::r,pre.length,id) else if k<bK n then(atN n (k-1)).map fun q=>(q.1,q.2.1,fun x=>pre++q.2.2 x::r) else atL (pre++[n]) r (k-bK n):=by rw[atL]
theorem cntN_eq' (n:Node):bK n=1+gW n.kids:=by obtain⟨a,b,c,d,k⟩:=n;rw[bK]
theorem atL_ok:∀(m:Nat) (ts pre:List Node) (k:Nat),SizeOf.sizeOf ts≤m→k<gW ts→∃q,atL pre ts k=some q:=by
 intro m
 induction m with
 |zero=>intro ts pre k h;cases ts<;>simp at h
 |succ m ih=>
  intro ts pre k h hk
  cases ts with
  |nil=>rw[gW] at hk;omega
  |cons n r=>
   rw[aL0]
   rw[gW] at hk
   simp only[List.cons.sizeOf_spec] at h
   split
   ·exact⟨_,O⟩
   split
   ·obtain⟨a,b,c,d,kids⟩:=n
    simp only[Node.mk.sizeOf_spec] at h
    rename_i h0 h1
    rw[bK] at h1
    obtain⟨q,hq⟩:=ih kids [] (k-1) (by omega) (by omega)
    rw[atN,hq]
    exact⟨_,O⟩
   exact ih r _ _ (by omega) (by omega)
theorem atL_plug:∀(m:Nat) (ts pre:List Node) (k:Nat),SizeOf.sizeOf ts≤m→∀{t:List Node} {i:Nat} {p:List Node→List Node},atL pre ts k=some (t,i,p)→p t=pre++ts∧t.length≤pre.length+gW ts:=by
 intro m
 induction m with
 |zero=>intro ts pre k h;cases ts<;>simp at h
 |succ m ih=>
  intro ts pre k h t i p hat
  cases ts with
  |nil=>rw[atL_nil] at hat;cases hat
  |cons n r=>
   rw[aL0] at hat
   have hc:=cntN_eq' n
   have hlen:∀(l:List Node),l.length≤gW l:=by
    intro l
    induction l with
    |nil=>exact Nat.zero_le _
    |cons a l ih2=>rw[gW,uA0,cntN_eq'];omega
   have hr:=hlen r
   simp only[List.cons.sizeOf_spec] at h
   split at hat
   ·obtain⟨rfl,rfl,rfl⟩:pre++n::r=t∧pre.length=i∧id=p:=by simpa using hat
    refine⟨O,?_⟩
    rw[uW,uA0,gW];omega
   split at hat
   ·obtain⟨a,b,c,d,kids⟩:=n
    rw[atN] at hat
    cases hq:atL [] kids (k-1) with
    |none=>rw[hq] at hat;cases hat
    |some q=>
     obtain⟨t2,i2,p2⟩:=q
     rw[hq] at hat
     simp only[Option.map_some,wA,Prod.mk.injEq] at hat
     obtain⟨rfl,rfl,rfl⟩:=hat
     simp only[Node.mk.sizeOf_spec] at h
     obtain⟨h1,h2⟩:=ih kids [] (k-1) (by omega) hq
     refine⟨by simp[h1],?_⟩
     rw[gW,bK]
     simp only[List.length_nil] at h2
     omega
   obtain⟨h1,h2⟩:=ih r (pre++[n]) (k-bK n) (by omega) hat
   refine⟨by rw[h1];simp,?_⟩
   rw[uW,List.length_singleton] at h2
   rw[gW];omega
theorem re_kids (n:Node):n.re n.kids=n:=by cases n;rfl
def m_at (ts:List Node) (n:Int):Option (Option (List Node×Nat×(List Node→List Node))):=if 0≤n∧n<9223372036854775808∧gW ts≤4294967296 then some (atL [] ts n.toNat) else none
def aO1 (ts:List Node) (c:Chg):Option (Int×List Node):=(m_at ts c.node).bind fun q=>match q with
 |none=>some (2,ts)
 |some (t,i,p)=>(t[i]?).map fun x=>(0,p (t.set i ⟨c.kind,c.text,x.at_,x.fin,x.kids⟩))
def aR7 (ts:List Node) (c:Chg):Option (Int×List Node):=(m_at ts c.node).bind fun q=>match q with
 |none=>some (2,ts)
 |some (t,i,p)=>(t[i]?).bind fun x=>if t.length+x.kids.length≤4294967296 then some (0,p (t.take i++x.kids++t.drop (i+1))) else none
def insK (l:List Node) (c:Chg):Option (List Node):=
 if c.index<0∨c.count<0∨(l.length:Int)<c.index∨(l.length:Int)-c.index<c.count then none
 else some (l.take c.index.toNat++⟨c.kind,c.text,0,0,(l.drop c.index.toNat).take c.count.toNat⟩::l.drop (c.index.toNat+c.count.toNat))
def aL9 (ts:List Node) (c:Chg):Option (Int×List Node):=
 ((if c.node= -1 then some (some (ts,id)) else(m_at ts c.node).bind fun q=>match q with
  |none=>some none
  |some (t,i,p)=>(t[i]?).map fun x=>some (x.kids,fun ks=>p (t.set i (x.re ks))):Option (Option (List Node×(List Node→List Node))))).bind fun q=>match q with
 |none=>some (2,ts)
 |some (l,P)=>if l.length+1≤4294967296 then(match insK l c with
  |none=>some (2,ts)
  |some ks=>some (0,P ks)) else none
def fieldsB (c:Chg):Bool:=
 if c.op=0 then decide (c.index=0)&&decide (c.count=0)
 else if c.op=1 then decide (c.op=c.op)&&decide (c.node=c.node)&&decide (c.index=0)&&decide (c.count=0)&&decide (c.kind=0)&&decide (c.text=ByteArray.empty)
 else decide (c.op=2)
def qY (ts:List Node) (c:Chg):Option (Int×List Node):=
 if fieldsB c=true then
  if c.node< -1∨(c.node= -1∧c.op≠2) then some (2,ts)
  else if c.op=0 then aO1 ts c else if c.op=1 then aR7 ts c else aL9 ts c
 else some (1,ts)
def chgs:List Node→List Chg→Option (List Node×Int)
 |ts,[]=>some (ts,0)
 |ts,c::cs=>(qY ts c).bind fun q=>if q.1=0 then chgs q.2 cs else some ([],q.1)
def aL5 (l:List Chg) (p:Nat×List Node):Option (Step (Nat×List Node) Unit):=match l[p.1]? with
 |none=>some (.done ())
 |some c=>(qY p.2 c).map fun q=>if q.1=0 then .next (p.1+1,q.2) else .done ()
theorem chLoop (l:List Chg):∀(j i:Nat) (ts:List Node) (r:List Node×Int),l.length≤i+j→chgs ts (l.drop i)=some r→∃u,dY (aL5 l) (i,ts)=some u
 |0,i,ts,r,h,_=>⟨(),sN (by unfold aL5;simp only;rw[List.getElem?_eq_none (by omega)])⟩
 |j+1,i,ts,r,h,hr=>by
  cases A:l[i]? with
  |none=>exact⟨(),sN (by unfold aL5;simp only;rw[A])⟩
  |some c=>
   obtain⟨h3,h4⟩:=uR.1 A
   rw[List.drop_eq_getElem_cons h3,h4,chgs] at hr
   obtain⟨q,hq,hr⟩:=Option.bind_eq_some_iff.1 hr
   by_cases h0:q.1=0
   ·rw[if_pos h0] at hr
    obtain⟨u,hu⟩:=chLoop l j (i+1) q.2 r (by omega) hr
    exact⟨u,by rw[zX (show aL5 l (i,ts)=some (.next (i+1,q.2)) by unfold aL5;simp only;rw[A];simp only;rw[hq,Option.map_some,if_pos h0])];exact hu⟩
   exact⟨(),sN (by unfold aL5;simp only;rw[A];simp only;rw[hq,Option.map_some,if_neg h0])⟩
def m_Apply (l:List Node) (cs:List Chg):Option (List Node×Int):=if gW l<4294967296∧cs.length<4294967296 then chgs l cs else none
noncomputable def zM (D:(List Chg)) (G:(List Chg)) (aQ:Int):Option (Step Int (Out Unit Bool)):=
 if(decide (aQ<(D.length:Int)))=true then
  (idx D aQ).bind fun B=>
  (idx G aQ).bind fun A=>
  if(!((decide (B.op=A.op))&&(decide (B.node=A.node))&&(decide (B.index=A.index))&&(decide (B.count=A.count))&&(decide (B.kind=A.kind))&&(decide (B.text=A.text))))=true then
   some (.done (.ret false))
  else
   (inK .i64 (aQ+1)).bind fun F=>
   some (.next F)
 else
  some (.done (.brk ()))
noncomputable def xM (B:(List Chg)) (A:(List Chg)):Option Bool:=
 if(!decide ((B.length:Int)=(A.length:Int)))=true then
  some false
 else
  (dY (fun s=>zM B A s) 0:Option (Out Unit Bool)).bind fun b1=>
  match b1 with
  | .brk b1s=>
   some true
  | .ret r=>some r
noncomputable def uB:Option Bool:=
 (lK (ByteArray.mk #[97])).bind fun e=>
 (lK (ByteArray.mk #[98])).bind fun c=>
 (lK (ByteArray.mk #[99])).bind fun b=>
 (pK (ByteArray.mk #[42]) c b).bind fun Y=>
 (pK (ByteArray.mk #[43]) e Y).bind fun D=>
 (lK (ByteArray.mk #[97])).bind fun X=>
 (lK (ByteArray.mk #[99])).bind fun W=>
 (pK (ByteArray.mk #[42]) X W).bind fun B=>
 (zI D B ([(Opn.mk 0 0),(Opn.mk 1 1),(Opn.mk 2 (-1)),(Opn.mk 3 (-1)),(Opn.mk 4 2)]:List Opn)).bind fun V=>
 (V5 D B ([(Opn.mk 0 0),(Opn.mk 1 1),(Opn.mk 2 (-1)),(Opn.mk 3 (-1)),(Opn.mk 4 2)]:List Opn)).bind fun A=>
 (m_Apply ([D]:List Node) A.1).bind fun H=>
 (uY D B).bind fun G=>
 (zV ([(Opn.mk 0 0),(Opn.mk 1 1),(Opn.mk 2 (-1)),(Opn.mk 3 (-1)),(Opn.mk 4 2)]:List Opn) 4).bind fun F=>
 (uZ D B ([(Opn.mk 0 0),(Opn.mk 1 1),(Opn.mk 2 (-1)),(Opn.mk 3 (-1)),(Opn.mk 4 2)]:List Opn)).bind fun U=>
 ((if(((U&&(decide (V.2=0)))&&(decide (V.1=3)))&&(decide (A.2=0)))=true then
  (xM A.1 ([(Chg.mk 0 0 0 0 29 (ByteArray.mk #[42])),(Chg.mk 1 3 0 0 0 ByteArray.empty),(Chg.mk 1 2 0 0 0 ByteArray.empty)]:List Chg)).bind fun S=>
  some S
 else
  some false):Option Bool).bind fun m1=>
 ((if(m1&&(decide (H.2=0)))=true then
  (vF H.1 ([B]:List Node)).bind fun M=>
  some M
 else
  some false):Option Bool).bind fun m2=>
 ((if((((m2&&(decide (G.2=0)))&&(decide (0<(G.1.length:Int))))&&F.2)&&(decide (F.1=2)))=true then
  (G7 ([(Opn.mk 0 0),(Opn.mk 1 1),(Opn.mk 2 (-1)),(Opn.mk 3 (-1)),(Opn.mk 4 2)]:List Opn)).bind fun K=>
  some (decide ((K.length:Int)=5))
 else
  some false):Option Bool).bind fun m3=>
 ((if m3=true then
  (G7 ([(Opn.mk 0 0),(Opn.mk 1 1),(Opn.mk 2 (-1)),(Opn.mk 3 (-1)),(Opn.mk 4 2)]:List Opn)).bind fun J=>
  (V6 ([(Opn.mk 0 0),(Opn.mk 1 1),(Opn.mk 2 (-1)),(Opn.mk 3 (-1)),(Opn.mk 4 2)]:List Opn) J).bind fun I=>
  some (decide ((I.length:Int)=7))
 else
  some false):Option Bool).bind fun m4=>
 some m4
noncomputable def lZ (G:(List Span)) (A:Node) (self:(List Span)→Node→Int→Option (List Span)) (aQ:Int) (aU:(List Span)):Option (Step (Int×(List Span)) (List Span)):=
 if(decide (aQ<(A.kids.length:Int)))=true then
  (idx A.kids aQ).bind fun F=>
  (self aU F (G.length:Int)).bind fun D=>
  (inK .i64 (aQ+1)).bind fun B=>
  some (.next (B,D))
 else
  some (.done aU)
noncomputable def pO (self:(List Span)→Node→Int→Option (List Span)) (A:(List Span)) (D:Node) (G:Int):Option (List Span):=
 (app A [(Span.mk D.kind D.text 0 G)]).bind fun F=>
 (dY (fun s=>lZ A D self s.1 s.2) (0,F):Option (List Span)).bind fun b3=>
 (idx b3 (A.length:Int)).bind fun B=>
 some (b3.set (A.length:Int).toNat (Span.mk B.kind B.text (b3.length:Int) B.parent))
noncomputable def lC:Nat→(List Span)→Node→Int→Option (List Span)
 |0=>fun _ _ _=>none
 |n+1=>pO (lC n)
noncomputable def xN (D:(List Span)) (A:Node) (B:Int):Option (List Span):=lC (SizeOf.sizeOf A+1) D A B
noncomputable def nT (B:Node):Option (List Span):=
 (xN ([]:List Span) B (-1)).bind fun A=>
 some A
noncomputable def mO (J:(List Opn)) (U:(List Span)) (I:(List Span)) (aQ:Int) (aU:Int) (dS:Int) (fK:(List Bool)):Option (Step (Int×Int×Int×(List Bool)) (Out (Int×(List Bool)) Bool)):=
 if(decide (dS<(J.length:Int)))=true then
  (idx J dS).bind fun A=>
  if(decide (0≤A.a))=true then
   if((((!decide (A.a=dS))||(decide ((U.length:Int)≤A.a)))||(decide (A.b<(-1))))||(decide ((I.length:Int)≤A.b)))=true then
    some (.done (.ret false))
   else
    (inK .i64 (aQ+1)).bind fun H=>
    if(decide (0≤A.b))=true then
     (idx fK A.b).bind fun M=>
     if M=true then
      some (.done (.ret false))
     else
      (idx fK A.b).bind fun x8=>
      (inK .i64 (dS+1)).bind fun K=>
      some (.next (H,aU,K,fK.set A.b.toNat true))
    else
     (inK .i64 (dS+1)).bind fun G=>
     some (.next (H,aU,G,fK))
  else
   if(((!decide (A.a=(-1)))||(decide (A.b≤aU)))||(decide ((I.length:Int)≤A.b)))=true then
    some (.done (.ret false))
   else
    if(decide (0≤A.b))=true then
     (idx fK A.b).bind fun F=>
     if F=true then
      some (.done (.ret false))
     else
      (idx fK A.b).bind fun S=>
      (inK .i64 (dS+1)).bind fun D=>
      some (.next (aQ,A.b,D,fK.set A.b.toNat true))
    else
     (inK .i64 (dS+1)).bind fun B=>
     some (.next (aQ,A.b,B,fK))
 else
  some (.done (.brk (aQ,fK)))
noncomputable def mP (D:(List Span)) (b3s:(Int×(List Bool))) (bP:Int):Option (Step Int (Out Unit Bool)):=
 if(decide (bP<(D.length:Int)))=true then
  (idx b3s.2 bP).bind fun B=>
  if(!B)=true then
   some (.done (.ret false))
  else
   (inK .i64 (bP+1)).bind fun A=>
   some (.next A)
 else
  some (.done (.brk ()))
noncomputable def mQ (I:(List Opn)) (H:(List Span)) (J:(List Span)) (dR:Int) (fZ:Int):Option (Step Int (Out Unit Bool)):=
 if(decide (fZ<(H.length:Int)))=true then
  (idx I dR).bind fun B=>
  (idx I fZ).bind fun A=>
  ((if((decide (0≤B.b))&&(decide (0≤A.b)))=true then
   ((if(decide (A.b<B.b))=true then
    some true
   else
    (idx H dR).bind fun G=>
    (idx J B.b).bind fun F=>
    some (!((decide (fZ<G.last))==(decide (A.b<F.last))))):Option Bool).bind fun m2=>
   some m2
  else
   some false):Option Bool).bind fun m1=>
  if m1=true then
   some (.done (.ret false))
  else
   (inK .i64 (fZ+1)).bind fun D=>
   some (.next D)
 else
  some (.done (.brk ()))
noncomputable def iT (G:(List Opn)) (D:(List Span)) (F:(List Span)) (dR:Int):Option (Step Int (Out Unit Bool)):=
 if(decide (dR<(D.length:Int)))=true then
  (inK .i64 (dR+1)).bind fun B=>
  (dY (fun s=>mQ G D F dR s) B:Option (Out Unit Bool)).bind fun b13=>
  match b13 with
  | .brk b13s=>
   (inK .i64 (dR+1)).bind fun A=>
   some (.next A)
  | .ret r=>some (.done (.ret r))
 else
  some (.done (.brk ()))
noncomputable def qR (I:Node) (H:Node) (D:(List Opn)):Option Bool:=
 (nT I).bind fun B=>
 (nT H).bind fun A=>
 (inK .i64 ((B.length:Int)+(A.length:Int))).bind fun G=>
 if(decide (G<(D.length:Int)))=true then
  some false
 else
  (mkc (A.length:Int) (A.length:Int) (false:Bool)).bind fun F=>
  (dY (fun s=>mO D B A s.1 s.2.1 s.2.2.1 s.2.2.2) (0,(-1),0,F):Option (Out (Int×(List Bool)) Bool)).bind fun b3=>
  match b3 with
  | .brk b3s=>
   if(!decide (b3s.1=(B.length:Int)))=true then
    some false
   else
    (dY (fun s=>mP A b3s s) 0:Option (Out Unit Bool)).bind fun b10=>
    match b10 with
    | .brk b10s=>
     (dY (fun s=>iT D B A s) 0:Option (Out Unit Bool)).bind fun b12=>
     match b12 with
     | .brk b12s=>
      some true
     | .ret r=>some r
    | .ret r=>some r
  | .ret r=>some r
noncomputable def vC (G:(List Opn)) (F:(List Span)) (D:(List Span)) (aQ:Int) (aU:Int):Option (Step (Int×Int) Int):=
 if(decide (aU<(G.length:Int)))=true then
  (idx G aU).bind fun A=>
  ((if((decide (A.a<0))||(decide (A.b<0)))=true then
   some true
  else
   (idx F A.a).bind fun S=>
   (idx D A.b).bind fun M=>
   some (!decide (S.kind=M.kind))):Option Bool).bind fun m1=>
  ((if m1=true then
   some true
  else
   (idx F A.a).bind fun K=>
   (idx D A.b).bind fun J=>
   some (!decide (K.text=J.text))):Option Bool).bind fun m2=>
  if m2=true then
   (inK .i64 (aQ+1)).bind fun I=>
   (inK .i64 (aU+1)).bind fun H=>
   some (.next (I,H))
  else
   (inK .i64 (aU+1)).bind fun B=>
   some (.next (aQ,B))
 else
  some (.done aQ)
noncomputable def nN (B:Node) (self:RFlat→Node→Int→Option RFlat) (aQ:Int) (aU:Int) (dS:(List Int)) (fK:(List ByteArray)) (lp1_4:(List Int)) (lp1_5:(List Int)):Option (Step (Int×Int×(List Int)×(List ByteArray)×(List Int)×(List Int)) ((List Int)×(List ByteArray)×(List Int)×(List Int))):=
 if(decide (aU<(B.kids.length:Int)))=true then
  (idx B.kids aU).bind fun I=>
  (self (RFlat.mk dS fK lp1_4 lp1_5) I aQ).bind fun A=>
  (idx B.kids aU).bind fun H=>
  (uC H).bind fun G=>
  (inK .i64 (aQ+G)).bind fun F=>
  (inK .i64 (aU+1)).bind fun D=>
  some (.next (F,D,A.kinds,A.texts,A.left,A.numbers))
 else
  some (.done (dS,fK,lp1_4,lp1_5))
noncomputable def qO (self:RFlat→Node→Int→Option RFlat) (A:RFlat) (F:Node) (G:Int):Option RFlat:=
 (inK .i64 (G+1)).bind fun J=>
 (dY (fun s=>nN F self s.1 s.2.1 s.2.2.1 s.2.2.2.1 s.2.2.2.2.1 s.2.2.2.2.2) (J,0,A.kinds,A.texts,A.left,A.numbers):Option ((List Int)×(List ByteArray)×(List Int)×(List Int))).bind fun b4=>
 (app b4.1 [F.kind]).bind fun I=>
 (app b4.2.1 [F.text]).bind fun H=>
 (app b4.2.2.1 [(A.kinds.length:Int)]).bind fun D=>
 (app b4.2.2.2 [G]).bind fun B=>
 some (RFlat.mk I H D B)
noncomputable def lY:Nat→RFlat→Node→Int→Option RFlat
 |0=>fun _ _ _=>none
 |n+1=>qO (lY n)
noncomputable def rP (D:RFlat) (A:Node) (B:Int):Option RFlat:=lY (SizeOf.sizeOf A+1) D A B
noncomputable def mM (G:Int) (A:Int) (aQ:Int) (aU:(List (List Int))):Option (Step (Int×(List (List Int))) (List (List Int))):=
 if(decide (aQ<G))=true then
  (mkc A A (0:Int)).bind fun F=>
  (app aU [F]).bind fun D=>
  (inK .i64 (aQ+1)).bind fun B=>
  some (.next (B,D))
 else
  some (.done aU)
noncomputable def kR (B:Int) (A:Int):Option (List (List Int)):=
 (dY (fun s=>mM B A s.1 s.2) (0,[]):Option (List (List Int))).bind fun b2=>
 some b2
noncomputable def jB (I:Int) (H:Int) (aQ:Int) (aU:(List (List Int))):Option (Step (Int×(List (List Int))) (List (List Int))):=
 (inK .i64 (I-H)).bind fun F=>
 (inK .i64 (F+1)).bind fun D=>
 if(decide (aQ≤D))=true then
  (idx aU aQ).bind fun A=>
  (idx A 0).bind fun G=>
  (inK .i64 (aQ+1)).bind fun B=>
  some (.next (B,aU.set aQ.toNat (A.set (0:Int).toNat aQ)))
 else
  some (.done aU)
noncomputable def jC (I:Int) (G:Int) (bP:Int) (eP:(List (List Int))):Option (Step (Int×(List (List Int))) (List (List Int))):=
 (inK .i64 (I-G)).bind fun F=>
 (inK .i64 (F+1)).bind fun D=>
 if(decide (bP≤D))=true then
  (idx eP 0).bind fun A=>
  (idx A bP).bind fun H=>
  (inK .i64 (bP+1)).bind fun B=>
  some (.next (B,eP.set (0:Int).toNat (A.set bP.toNat bP)))
 else
  some (.done eP)
noncomputable def jD (K:RFlat) (J:RFlat) (p3:Int) (x1:Int) (I:Int) (dR:Int) (fZ:Int) (jK:(List (List Int))) (zU:(List (List Int))):Option (Step (Int×(List (List Int))×(List (List Int))) ((List (List Int))×(List (List Int)))):=
 (inK .i64 (p3-I)).bind fun x20=>
 (inK .i64 (x20+1)).bind fun x21=>
 if(decide (fZ≤x21))=true then
  (inK .i64 (x1+dR)).bind fun x22=>
  (inK .i64 (x22-1)).bind fun B=>
  (inK .i64 (I+fZ)).bind fun x24=>
  (inK .i64 (x24-1)).bind fun A=>
  (inK .i64 (dR-1)).bind fun x26=>
  (idx jK x26).bind fun z=>
  (idx z fZ).bind fun y=>
  (idx jK dR).bind fun x=>
  (inK .i64 (fZ-1)).bind fun u=>
  (idx x u).bind fun t=>
  (inK .i64 ((min y t)+1)).bind fun D=>
  (idx K.left B).bind fun s=>
  ((if(decide (s=x1))=true then
   (idx J.left A).bind fun r=>
   some (decide (r=I))
  else
   some false):Option Bool).bind fun m1=>
  ((if m1=true then
   (inK .i64 (dR-1)).bind fun q=>
   (idx jK q).bind fun p=>
   (inK .i64 (fZ-1)).bind fun n=>
   (idx p n).bind fun H=>
   (idx K.kinds B).bind fun j=>
   (idx J.kinds A).bind fun i=>
   ((if(!decide (j=i))=true then
    some true
   else
    (idx K.texts B).bind fun h=>
    (idx J.texts A).bind fun g=>
    some (!decide (h=g))):Option Bool).bind fun m2=>
   ((if m2=true then
    (inK .i64 (H+1)).bind fun f=>
    some f
   else
    some H):Option Int).bind fun j2=>
   (idx zU B).bind fun G=>
   (idx G A).bind fun x45=>
   some (min D j2,zU.set B.toNat (G.set A.toNat (min D j2)))
  else
   (idx K.left B).bind fun e=>
   (inK .i64 (e-x1)).bind fun c=>
   (idx jK c).bind fun b=>
   (idx J.left A).bind fun Y=>
   (inK .i64 (Y-I)).bind fun X=>
   (idx b X).bind fun W=>
   (idx zU B).bind fun V=>
   (idx V A).bind fun U=>
   (inK .i64 (W+U)).bind fun S=>
   some (min D S,zU)):Option (Int×(List (List Int)))).bind fun j1=>
  (idx jK dR).bind fun F=>
  (idx F fZ).bind fun x56=>
  (inK .i64 (fZ+1)).bind fun M=>
  some (.next (M,jK.set dR.toNat (F.set fZ.toNat j1.1),j1.2))
 else
  some (.done (jK,zU))
noncomputable def kV (K:RFlat) (J:RFlat) (I:Int) (H:Int) (F:Int) (G:Int) (dR:Int) (vH:(List (List Int))) (aK1:(List (List Int))):Option (Step (Int×(List (List Int))×(List (List Int))) ((List (List Int))×(List (List Int)))):=
 (inK .i64 (I-F)).bind fun D=>
 (inK .i64 (D+1)).bind fun B=>
 if(decide (dR≤B))=true then
  (dY (fun s=>jD K J H F G dR s.1 s.2.1 s.2.2) (1,vH,aK1):Option ((List (List Int))×(List (List Int)))).bind fun b12=>
  (inK .i64 (dR+1)).bind fun A=>
  some (.next (A,b12.1,b12.2))
 else
  some (.done (vH,aK1))
noncomputable def kZ (H:RFlat) (G:RFlat) (B:Int) (A:Int) (U:(List (List Int))):Option (List (List Int)):=
 (idx H.left B).bind fun F=>
 (idx G.left A).bind fun D=>
 (inK .i64 (B-F)).bind fun S=>
 (inK .i64 (S+2)).bind fun M=>
 (inK .i64 (A-D)).bind fun K=>
 (inK .i64 (K+2)).bind fun J=>
 (kR M J).bind fun I=>
 (dY (fun s=>jB B F s.1 s.2) (1,I):Option (List (List Int))).bind fun b5=>
 (dY (fun s=>jC A D s.1 s.2) (1,b5):Option (List (List Int))).bind fun b8=>
 (dY (fun s=>kV H G B A F D s.1 s.2.1 s.2.2) (1,b8,U):Option ((List (List Int))×(List (List Int)))).bind fun b11=>
 some b11.2
noncomputable def jZ (F:RFlat) (A:RFlat) (aQ:Int) (bP:Int) (eP:(List (List Int))):Option (Step (Int×(List (List Int))) (List (List Int))):=
 if(decide (bP<(A.kinds.length:Int)))=true then
  (kZ F A aQ bP eP).bind fun D=>
  (inK .i64 (bP+1)).bind fun B=>
  some (.next (B,D))
 else
  some (.done eP)
noncomputable def jY (A:RFlat) (D:RFlat) (aQ:Int) (aU:(List (List Int))):Option (Step (Int×(List (List Int))) (List (List Int))):=
 if(decide (aQ<(A.kinds.length:Int)))=true then
  (dY (fun s=>jZ A D aQ s.1 s.2) (0,aU):Option (List (List Int))).bind fun b24=>
  (inK .i64 (aQ+1)).bind fun B=>
  some (.next (B,b24))
 else
  some (.done aU)
noncomputable def kD (K:RFlat) (I:RFlat) (b23:(List (List Int))) (dR:Int) (fZ:Int) (jK:(List (List Int))):Option (Step (Int×(List (List Int))) (List (List Int))):=
 if(decide (fZ<(I.kinds.length:Int)))=true then
  (idx K.numbers dR).bind fun H=>
  (idx jK H).bind fun G=>
  (idx I.numbers fZ).bind fun A=>
  (idx b23 dR).bind fun F=>
  (idx F fZ).bind fun D=>
  (idx G A).bind fun J=>
  (inK .i64 (fZ+1)).bind fun B=>
  some (.next (B,jK.set H.toNat (G.set A.toNat D)))
 else
  some (.done jK)
noncomputable def kC (B:RFlat) (D:RFlat) (b23:(List (List Int))) (dR:Int) (vH:(List (List Int))):Option (Step (Int×(List (List Int))) (List (List Int))):=
 if(decide (dR<(B.kinds.length:Int)))=true then
  (dY (fun s=>kD B D b23 dR s.1 s.2) (0,vH):Option (List (List Int))).bind fun b26=>
  (inK .i64 (dR+1)).bind fun A=>
  some (.next (A,b26))
 else
  some (.done vH)
noncomputable def nV (H:Node) (G:Node):Option (List (List Int)):=
 (rP (RFlat.mk ([]) ([]) ([]) ([])) H 0).bind fun B=>
 (rP (RFlat.mk ([]) ([]) ([]) ([])) G 0).bind fun A=>
 (kR (B.kinds.length:Int) (A.kinds.length:Int)).bind fun F=>
 (dY (fun s=>jY B A s.1 s.2) (0,F):Option (List (List Int))).bind fun b23=>
 (kR (B.kinds.length:Int) (A.kinds.length:Int)).bind fun D=>
 (dY (fun s=>kC B A b23 s.1 s.2) (0,D):Option (List (List Int))).bind fun b25=>
 some b25
noncomputable def nU (G:Node) (F:Node):Option Int:=
 (nV G F).bind fun D=>
 (idx D 0).bind fun B=>
 (idx B 0).bind fun A=>
 some A
noncomputable def lW (D:((List Opn)×Int)) (aQ:Int):Option (Step Int (Out Unit Bool)):=
 if(decide (aQ<(D.1.length:Int)))=true then
  (idx D.1 aQ).bind fun B=>
  if(!((decide (B.a=aQ))&&(decide (B.b=aQ))))=true then
   some (.done (.ret false))
  else
   (inK .i64 (aQ+1)).bind fun A=>
   some (.next A)
 else
  some (.done (.brk ()))
noncomputable def pJ (A:Node) (B:Node):Option Bool:=
 (uB).bind fun M=>
 if(!M)=true then
  some false
 else
  (sU A B 15).bind fun K=>
  if(!K)=true then
   some true
  else
   (uY A B).bind fun F=>
   (zI A B F.1).bind fun G=>
   (uY A A).bind fun D=>
   ((if(((!decide (F.2=0))||(!decide (G.2=0)))||(!decide (D.2=0)))=true then
    some true
   else
    (qR A B F.1).bind fun J=>
    some (!J)):Option Bool).bind fun m1=>
   ((if m1=true then
    some true
   else
    (nU A B).bind fun I=>
    some (!decide (G.1=I))):Option Bool).bind fun m2=>
   ((if m2=true then
    some true
   else
    (uC A).bind fun H=>
    some (!decide ((D.1.length:Int)=H))):Option Bool).bind fun m3=>
   if m3=true then
    some false
   else
    (dY (fun s=>lW D s) 0:Option (Out Unit Bool)).bind fun b3=>
    match b3 with
    | .brk b3s=>
     some true
    | .ret r=>some r
class Rep1 (α:Type) [Rep α]:Prop where
 one:∀{ρ:PH} {a:α} {cs:List Value},Rep.ok ρ a cs→∀v∈cs,v.oneCell'=true
 pos:0<Rep.sz α
def sS {α:Type} [Rep α] (T:TypeId) (v:Value) (l:List α) (xs:List Value):bQ:=Row T (Rep.sz α) v l.length xs
section
variable {α:Type} [Rep α] {ρ ρ':PH} {l m:List α} {xs ys:List Value}
theorem gU.nil:gU ρ ([]:List α) []:=rfl
theorem gU.mono (h:ρ.le ρ'):∀{l:List α} {xs:List Value},gU ρ l xs→gU ρ' l xs
 | [],_,e=>e
 |a::l,_,⟨c,r,e,A,hr⟩=>⟨c,r,e,Rep.mono h A,gU.mono h hr⟩
theorem gU.len:∀{l:List α} {xs:List Value},gU ρ l xs→xs.length=l.length*Rep.sz α
 | [],_,e=>by rw[e];simp
 |a::l,_,⟨c,r,e,A,hr⟩=>by
  rw[e,uW,Rep.len A,gU.len hr,uA0,Nat.add_mul];omega
theorem gU.app:∀{l:List α} {xs:List Value},gU ρ l xs→gU ρ m ys→gU ρ (l++m) (xs++ys)
 | [],_,e,h=>by rw[e];exact h
 |a::l,_,⟨c,r,e,A,hr⟩,h=>⟨c,r++ys,by rw[e,vD],A,gU.app hr h⟩
theorem gU.one1 [Rep1 α]:∀{l:List α} {xs:List Value},gU ρ l xs→∀v∈xs,v.oneCell'=true
 | [],_,e,v,hv=>by rw[e] at hv;simp at hv
 |a::l,_,⟨c,r,e,A,hr⟩,v,hv=>by
  rw[e,List.mem_append] at hv
  rcases hv with hv|hv
  ·exact Rep1.one A v hv
  exact gU.one1 hr v hv
theorem gU.set:∀{l:List α} {xs:List Value} (i:Nat) {a:α} {cs:List Value},gU ρ l xs→i<l.length→Rep.ok ρ a cs→gU ρ (l.set i a) (xs.take (i*Rep.sz α)++cs++xs.drop ((i+1)*Rep.sz α))
 |b::l,_,0,a,cs,⟨c,r,e,A,hr⟩,_,ha=>by
  rw[e,Nat.zero_mul,List.take_zero,List.nil_append,Nat.zero_add,Nat.one_mul,←Rep.len A,List.drop_left,List.set_cons_zero]
  exact⟨cs,r,O,ha,hr⟩
 |b::l,_,i+1,a,cs,⟨c,r,e,A,hr⟩,hi,ha=>by
  have:=gU.set i hr (by simpa using hi) ha
  have hl:=Rep.len A
  rw[e,List.set_cons_succ,Nat.add_mul,Nat.one_mul,show i*Rep.sz α+Rep.sz α=c.length+i*Rep.sz α by omega,List.take_append,wN (by omega),Nat.add_sub_cancel_left,
   show(i+1+1)*Rep.sz α=c.length+(i+1)*Rep.sz α by rw[Nat.add_mul (i+1)];omega,List.drop_append,List.drop_of_length_le (by omega),List.nil_append,Nat.add_sub_cancel_left]
  exact⟨c,_,by simp only[vD],A,this⟩
end
section
variable {α:Type} [Rep α] {Rn:Option Nat} {P:Program} {Z:World} {ρ:PH} {L:List bQ} {w:World} {T El:TypeId} {v:Value} {l:List α} {xs:List Value}
theorem sS.nil (T:TypeId):sS T (.slice none 0 0) ([]:List α) [] PH.emp:=Row.nil T _ none
theorem sS.len {sz bytes:Nat} (B:Hp Z ρ L w) (k:Nat) (hk:L[k]?=some (sS El v l xs)) (ht:SlTy P T El sz bytes) (w':World) (ty:TypeId):(Builtin.len_ #[T] ty #[v]).run P w'= .ok (.int .i64 l.length) w':=by
 rcases(B.get k hk).row.2 with⟨A,rfl,hn⟩|⟨g,off,cap,cur,rfl,_,_⟩
 ·rw[hn];exact tC ht A 0 0 w' ty
 exact tC ht _ _ cap w' ty
theorem sS.cells (B:Hp Z ρ L w) (k:Nat) (hk:L[k]?=some (sS El v l xs)):v.cells= #[v]:=by
 rcases(B.get k hk).row.2 with⟨A,rfl,_⟩|⟨g,off,cap,cur,rfl,_⟩<;>rfl
theorem sS.one (B:Hp Z ρ L w) (k:Nat) (hk:L[k]?=some (sS El v l xs)):v.oneCell'=true:=by
 rcases(B.get k hk).row.2 with⟨A,rfl,_⟩|⟨g,off,cap,cur,rfl,_⟩<;>rfl
theorem sS.ro {k:PH} (d:ρ.dj k) (h:sS T v l xs k) (F:gU ρ l xs):aH (ρ.un k) v l:=by
 obtain⟨hxl,h⟩:=h
 rcases h with⟨A,rfl,hn⟩|⟨g,off,cap,cur,rfl,rfl,h1,h2,h3,h4⟩
 ·obtain rfl:=wT hn
  exact⟨A,0,O,zP _,fun i a h=>by simp at h⟩
 refine⟨some ⟨g,off,none⟩,cap,O,h1,fun i a hi=>?_⟩
 obtain⟨c,D,hg⟩:=F.get i a hi
 refine⟨g,off,c,O,Rep.mono (PH.le_un _ _) D,fun j u B=>?_⟩
 have hb:(ρ.un (PH.one g (.cells cur T (0,0)))) g=some (.cells cur T (0,0)):=PH.le_un_r d g _ (by simp[PH.one])
 unfold cellAt
 rw[hb]
 simp only
 have hf:=hg j u B
 rw[←h4,xD] at hf
 split at hf
 ·rw[yW,←Nat.add_assoc] at hf
  rw[←Array.getElem?_toList]
  exact hf
 cases hf
theorem sS.at {bytes:Nat} (B:Hp Z ρ L w) (k:Nat) (hk:L[k]?=some (sS El v l xs)) (G:gU ρ l xs) (ht:SlTy P T El (Rep.sz α) bytes) {i:Int} {e:α} (hi:idx l i=some e):
  ∃g off cs,(∀w,(Instr.indexAt T v (.int .i64 i)).run P w= .ok (.pointer (some ⟨g,off,none⟩)) w)∧(∃of0 cap,v= .slice (some ⟨g,of0,none⟩) l.length cap∧off=of0+i.toNat*Rep.sz α)∧Rep.ok ρ e cs∧∀(j:Nat) (u:Value),cs[j]?=some u→∀ρ' L' w,Hp Z ρ' (sS El v l xs::L') w→w.cell? ⟨g,off+j,none⟩=some u:=by
 obtain⟨i0,i1,i2⟩:=rO hi
 rcases(B.get k hk).row.2 with⟨_,_,hn⟩|⟨g,of0,cap,cur,rfl,_,_⟩
 ·omega
 obtain⟨c,F,hg⟩:=G.get i.toNat e i2
 refine⟨g,of0+i.toNat*Rep.sz α,c,fun w=>run_index ht g of0 _ cap i0 i1 w,⟨of0,cap,O,O⟩,F,fun j u D ρ' L' w' hw'=>?_⟩
 rcases hw'.row.2 with⟨A,hA,hn⟩|⟨g',of1,cap',cur',e2,hpt,h2,h3,h4,h5⟩
 ·omega
 simp only[Value.slice.injEq,wA,Addr.mk.injEq,and_true,true_and] at e2
 obtain⟨⟨rfl,rfl⟩,rfl⟩:=e2
 have hlook:=hpt.look 0 O
 have hf:=hg j u D
 rw[←h5,xD] at hf
 split at hf
 ·rw[yW,←Nat.add_assoc] at hf
  simp[World.cell?,hlook,←Array.getElem?_toList,hf]
 cases hf
end
section
variable {α:Type} [Rep α] {ρ:PH}
end
section
variable {α:Type} [Rep α] [Rep1 α] {Rn:Option Nat} {P:Program} {ops:Array Oper} {Q:Exit→Act→World→Prop} {rest:List Oper} {o:Oper} {a:Act} {w:World} {Df:List Deferred} {N:Nat} {E:Ent} {d:Nat} {Z:World} {ρ:PH} {L:List bQ}
theorem s_appR (wk:Region.wanted o (yielded ops a.tmps)=true) (hd:o.dst=some d) (hN:Nat.blt d N=true) (B:EnvD Df N E a) (G:Hp Z ρ L w) {x y:Operand} {t:TypeId} (H:o.op= .call {callee:= .builtin .append,args:= #[x,y],argTypes:= #[t,t] }) {El:TypeId} {bytes:Nat} (ht:SlTy P t El (Rep.sz α) bytes) (hby:Nat.ble bytes 16384=true)
  {v:Value} (F:evo E x=some v) (i:Nat) {l:List α} {xs:List Value} (hi:L[i]?=some (sS El v l xs)) {b off m c:Nat} (hy:evo E y=some (.slice (some ⟨b,off,none⟩) m c)) {l2 r:List α} {ys:List Value} (D:l2.length=m) (hR2:gU ρ l2 ys) (hn:∀j u,ys[j]?=some u→w.cell? ⟨b,off+j,none⟩=some u) (hr:app l l2=some r)
  (K:∀v' a w,EnvD Df N ((d,v')::E) a→Hp Z ρ (L.set i (sS El v' r (xs++ys))) w→wpL Rn P ops Q rest a w):wpL Rn P ops Q (o::rest) a w:=by
 obtain⟨hlen,rfl⟩:=O8 hr
 have hby':bytes≤16384:=by simpa using hby
 have J:(l.length+m)*bytes≤4294967296*16384:=Nat.mul_le_mul (by omega) hby'
 obtain⟨v',w',hrun,hp'⟩:=run_app (P:=P) ht Rep1.pos o.type (G.get i hi) ⟨b,off,none⟩ m c ys (by rw[hR2.len,D]) (fun j u I=>by rw[Addr.add_lit];exact hn j u I) hR2.one1 (by unfold maxLen;omega) (by omega)
 refine F7 wk hd hN B (v:=v') (w':=w') ?_ fun a' hE'=>K v' a' w' hE' ?_
 ·simp only[execOp,H,resolve,invoke,builtin,Sem.run_bind,Sem.run_pure,Result.andThen_ok,List.map_toArray,List.map_cons,List.map_nil,B.eval F,B.eval hy,hrun]
 refine Hp.put i (X8 (A:=sS El v l xs) (_B:=sS El v l xs) hi).2 ?_
 unfold sS
 rw[uW,D]
 exact hp'
theorem s_stelR (wk:Region.wanted o (yielded ops a.tmps)=true) (hd:o.dst=none) (B:EnvD Df N E a) (G:Hp Z ρ L w) {T:TypeId} {x y:Operand} (H:o.op= .store T x y) {g off off':Nat} (F:evo E x=some (.pointer (some ⟨g,off',none⟩))) {u:Value} (hy:evo E y=some u) (k:Nat) {El:TypeId} {v:Value} {l:List α} {xs:List Value} (hk:L[k]?=some (sS El v l xs))
  (D:gU ρ l xs) {i:Int} {e e':α} (hi:idx l i=some e) (hv:∃of0 cap,v= .slice (some ⟨g,of0,none⟩) l.length cap∧off=of0+i.toNat*Rep.sz α) (j:Nat) {us cs:List Value} (ht:∀w,(sizeOf T).run P w= .ok us.length w) (hoff:off'=off+j) (I:u.cells=us.toArray) (hcs:Rep.ok ρ e cs) (hgc:∀(q:Nat) (z:Value),cs[q]?=some z→w.cell? ⟨g,off+q,none⟩=some z)
  (hok:Rep.ok ρ e' (cs.take j++us++cs.drop (j+us.length))) (hju0:Nat.ble (j+us.length) (Rep.sz α)=true)
  (K:∀w xs',gU ρ (l.set i.toNat e') xs'→Hp Z ρ (L.set k (sS El v (l.set i.toNat e') xs')) w→wpL Rn P ops Q rest a w):wpL Rn P ops Q (o::rest) a w:=by
 subst hoff
 obtain⟨of0,cap,rfl,rfl⟩:=hv
 obtain⟨i0,i1,i2⟩:=rO hi
 have hlt:=(X8 (A:=sS El (.slice (some ⟨g,of0,none⟩) l.length cap) l xs) (_B:=sS El (.slice (some ⟨g,of0,none⟩) l.length cap) l xs) hk).2
 have hll:=D.len
 have hcl:=Rep.len hcs
 have hkl:=Rep.len hok
 rw[uW,uW,vQ,List.length_drop] at hkl
 have hju:j+us.length≤Rep.sz α:=by simpa using hju0
 rcases(G.get k hk).row.2 with⟨_,_,hn⟩|⟨g',of1,cap',cur,e2,hpt,h2,h3,h4,h5⟩
 ·omega
 simp only[Value.slice.injEq,wA,Addr.mk.injEq,and_true,true_and] at e2
 obtain⟨⟨rfl,rfl⟩,rfl⟩:=e2
 have hg:=hpt.look 0 O
 have hpos:(i.toNat+1)*Rep.sz α≤l.length*Rep.sz α:=zE _ (by omega)
 have hle:l.length*Rep.sz α≤cap*Rep.sz α:=zE _ h2
 rw[Nat.add_mul,Nat.one_mul] at hpos
 generalize hiz:i.toNat*Rep.sz α=iz at*
 have one1:∀z∈us,z.oneCell'=true:=fun z hz=>Rep1.one hok z (by simp[hz])
 have r1:=run_storeCells_at P g (of0+iz+j) El us 0 cur w hg (by omega) one1
 simp only[Nat.add_zero] at r1
 refine s_unit wk hd B (w':=w.setRow g (cur.toList.take (of0+iz+j)++us++cur.toList.drop (of0+iz+j+us.length)).toArray) ?_ (K _ (xs.take iz++(cs.take j++us++cs.drop (j+us.length))++xs.drop (iz+Rep.sz α)) ?_ ?_)
 ·simp[execOp,H,B.eval F,B.eval hy,Instr.storeAt,Instr.sureAddr,storeVar,ht w,I,r1]
 ·have:=D.set i.toNat (a:=e') (by omega) hok
  rw[Nat.add_mul,Nat.one_mul,hiz] at this
  exact this
 have hseg:cs=(xs.drop iz).take (Rep.sz α):=by
  apply List.ext_getElem?
  intro q
  rcases xV q (Rep.sz α) with hq|hq
  ·obtain⟨z,hz⟩:∃z,cs[q]?=some z:=⟨_,vB (by omega)⟩
   have hz2:=hgc q z hz
   rw[hz,xD,if_pos hq,yW,←h5,xD,if_pos (by omega),yW,Array.getElem?_toList]
   simp only[World.cell?,hg] at hz2
   simp at hz2
   rw[show of0+(iz+q)=of0+iz+q by omega]
   exact hz2.symm
  rw[List.getElem?_eq_none (by omega),xD,if_neg (by omega)]
 refine Hp.put k hlt ?_
 have hq:=(Hp.set (w':=w.setRow g (cur.toList.take (of0+iz+j)++us++cur.toList.drop (of0+iz+j+us.length)).toArray) hpt O O O (setRow_heap w g cur _ El _ hg) (fun k hk=>setRow_other w g k _ hk)).shutO (off:=of0) (n:=l.length) (cap:=cap) (sz:=Rep.sz α) (xs:=xs.take iz++(cs.take j++us++cs.drop (j+us.length))++xs.drop (iz+Rep.sz α)) h2 h3 (by
   simp only[List.size_toArray,uW,vQ,List.length_drop,Array.length_toList];omega) (by
   rw[List.toList_toArray]
   have hlenx:(xs.take iz++(cs.take j++us++cs.drop (j+us.length))++xs.drop (iz+Rep.sz α)).length=l.length*Rep.sz α:=by
    simp only[uW,vQ,List.length_drop];omega
   apply List.ext_getElem?
   intro q
   rcases xV q (l.length*Rep.sz α) with hq|hq
   ·have hx5:∀q,q<l.length*Rep.sz α→xs[q]?=cur.toList[of0+q]?:=fun q hq=>by
     rw[←h5,xD,if_pos hq,yW]
    have hcq:∀q,q<Rep.sz α→cs[q]?=cur.toList[of0+iz+q]?:=fun q hq=>by
     rw[hseg,xD,if_pos hq,yW,hx5 _ (by omega)]
     congr 1;omega
    rw[xD,if_pos hq,yW]
    have t1:(cur.toList.take (of0+iz+j)).length=of0+iz+j:=by rw[vQ,Array.length_toList];omega
    have t2:(xs.take iz).length=iz:=by rw[vQ];omega
    have t3:(cs.take j).length=j:=by rw[vQ];omega
    have t4:(cs.take j++us++cs.drop (j+us.length)).length=Rep.sz α:=by simp only[uW,vQ,List.length_drop];omega
    simp only[vD] at t4⊢
    rcases xV q iz with c1|c1
    ·rw[vR (by omega),xD,if_pos (by omega),vR (by omega),xD,if_pos c1,hx5 q hq]
    rw[vE (l₁:=xs.take iz) (by omega),t2]
    rcases xV q (iz+j) with c2|c2
    ·rw[vR (by omega),xD,if_pos (by omega),vR (by omega),xD,if_pos (by omega),hcq _ (by omega)]
     congr 1;omega
    rw[vE (l₁:=cur.toList.take (of0+iz+j)) (by omega),t1,vE (l₁:=cs.take j) (by omega),t3]
    rcases xV q (iz+j+us.length) with c3|c3
    ·rw[vR (by omega),vR (by omega)]
     congr 1;omega
    rw[vE (l₁:=us) (by omega),vE (l₁:=us) (by omega),yW]
    rcases xV q (iz+Rep.sz α) with c4|c4
    ·rw[vR (by rw[List.length_drop];omega),yW,hcq _ (by omega)]
     congr 1;omega
    rw[vE (by rw[List.length_drop];omega),yW,List.length_drop,hx5 _ (by omega)]
    congr 1;omega
   rw[List.getElem?_eq_none (by rw[vQ];omega),List.getElem?_eq_none (by rw[hlenx];exact hq)])
 unfold sS
 rw[List.length_set]
 exact hq
end
instance rep1Enc {α:Type} [Enc α]:Rep1 α:=⟨fun h v hv=>by
 have h':_=Enc.enc _:=h
 rw[h'] at hv;exact Enc.one _ v hv,Enc.pos⟩
instance rep1Node:Rep1 Node:=⟨fun{ρ a cs} h v hv=>by
 obtain⟨u,rfl,hu⟩:=NodeAt.opens (show NodeAt ρ a cs from h)
 have h1:=aH.one hu
 simp only[List.mem_cons,List.not_mem_nil,or_false] at hv
 rcases hv with rfl|rfl|rfl|rfl|rfl<;>first|rfl|exact h1,by decide⟩
open Vl (vl)
open Go.ChangeMaps (setBlock)
instance vlSl:Vl Sl:=⟨fun s=>s.v⟩
def mset {κ β:Type} [DecidableEq κ] (l:List (κ×β)) (k:κ) (v:β):List (κ×β):=if mhas l k then Q7 l k v else l
section
variable {κ β:Type} [DecidableEq κ]
theorem mhas_iff {l:List (κ×β)} {k:κ}:mhas l k=true↔k∈l.map (·.1):=by
 unfold mhas jW
 rw[Option.isSome_map,List.find?_isSome]
 simp
theorem mget_mem {l:List (κ×β)} (hn:(l.map (·.1)).Nodup) {k:κ} {v:β} (h:(k,v)∈l):jW l k=some v:=by
 obtain⟨j,A⟩:=List.getElem?_of_mem h
 exact mget_at hn A
theorem X9 {l:List (κ×β)} (hn:(l.map (·.1)).Nodup) {k:κ} {j:Nat} (h:(l.map (·.1))[j]?=some k):l.filter (fun p=> !decide (p.1=k))=l.eraseIdx j:=by
 induction l generalizing j with
 |nil=>simp at h
 |cons p l ih=>
  rw[List.map_cons,List.nodup_cons] at hn
  cases j with
  |zero=>
   simp at h
   rw[List.filter_cons_of_neg (by simp[h]),List.eraseIdx_cons_zero]
   refine List.filter_eq_self.2 fun q hq=>?_
   simp only[Bool.not_eq_true',decide_eq_false_iff_not]
   intro e
   exact hn.1 (by rw[h,←e];exact List.mem_map_of_mem hq)
  |succ j=>
   simp only[List.map_cons,List.getElem?_cons_succ] at h
   have hne:¬p.1=k:=fun e=>hn.1 (by rw[e];exact vL h)
   rw[List.filter_cons_of_pos (by simp[hne]),ih hn.2 h];rfl
theorem filter_all {l:List (κ×β)} {k:κ} (h:k∉l.map (·.1)):l.filter (fun p=> !decide (p.1=k))=l:=by
 refine List.filter_eq_self.2 fun q hq=>?_
 simp only[Bool.not_eq_true',decide_eq_false_iff_not]
 intro e
 exact h (by rw[←e];exact List.mem_map_of_mem hq)
theorem aM0 {l:List (κ×β)} (hn:(l.map (·.1)).Nodup) {k:κ} {j:Nat} (h:(l.map (·.1))[j]?=some k):∃v,l[j]?=some (k,v)∧jW l k=some v:=by
 rw[xF] at h
 obtain⟨p,A,rfl⟩:=Option.map_eq_some_iff.1 h
 exact⟨p.2,A,mget_at hn A⟩
theorem map_eraseIdx {γ δ:Type} (f:γ→δ) (l:List γ) (i:Nat):(l.eraseIdx i).map f=(l.map f).eraseIdx i:=map_erase f l i
theorem mput_keys_eq {l:List (κ×β)} {γ:Type} {m:List (κ×γ)} (h:l.map (·.1)=m.map (·.1)) (k:κ) (v:β) (u:γ):(Q7 l k v).map (·.1)=(Q7 m k u).map (·.1):=by
 rw[L9,L9,h]
theorem mput_nodup {l:List (κ×β)} (h:(l.map (·.1)).Nodup) (k:κ) (v:β):((Q7 l k v).map (·.1)).Nodup:=by
 rw[L9]
 split
 ·exact h
 rename_i hk
 rw[List.nodup_append]
 refine⟨h,by simp,fun a ha b hb=>?_⟩
 rw[List.mem_singleton.1 hb]
 intro e;exact hk (e▸ha)
end
section
variable {κ α:Type} [DecidableEq κ] [Enc α]
def RowsM (Ti:TypeId) (us:List (κ×Sl)) (l:List (κ×List α)):bQ:=fun h=>iG Ti (us.map Prod.snd) (l.map Prod.snd) h∧us.map (·.1)=l.map (·.1)∧(us.map (·.1)).Nodup
def RowsX (Ti:TypeId) (us:List (κ×Sl)) (l:List (κ×List α)) (k:κ):bQ:=fun h=>iG Ti ((us.filter fun p=> !decide (p.1=k)).map Prod.snd) ((l.filter fun p=> !decide (p.1=k)).map Prod.snd) h∧us.map (·.1)=l.map (·.1)∧(us.map (·.1)).Nodup
omit [DecidableEq κ] in
theorem RowsM.nil (Ti:TypeId):RowsM Ti ([]:List (κ×Sl)) ([]:List (κ×List α)) PH.emp:=⟨O,O,by simp⟩
def aK9 (ρ:PH) (us:List (κ×Sl)) (l:List (κ×List α)):Prop:=us.map (·.1)=l.map (·.1)∧(us.map (·.1)).Nodup∧∀k,aH ρ ((jW us k).getD Sl.nil).v ((jW l k).getD [])
variable {Z:World} {ρ:PH} {L:List bQ} {w:World} {Ti:TypeId} {us:List (κ×Sl)} {l:List (κ×List α)} {k:κ} {v:Value}
omit [DecidableEq κ] in
theorem RowsM.keys (h:Hp Z ρ (RowsM Ti us l::L) w):us.map (·.1)=l.map (·.1):=(Hp.fact (A:=iG Ti (us.map Prod.snd) (l.map Prod.snd)) h).2.1
omit [DecidableEq κ] [Enc α] in
theorem Hp.addFact {A:bQ} {p:Prop} (h:Hp Z ρ (A::L) w) (B:p):Hp Z ρ ((fun k=>A k∧p)::L) w:=h.imp fun _ a=>⟨a,B⟩
theorem RowsM.take (h:Hp Z ρ (RowsM Ti us l::L) w) (k:κ):Hp Z ρ (aC Ti ((jW us k).getD Sl.nil).v ((jW l k).getD [])::RowsX Ti us l k::L) w:=by
 obtain⟨hr,hk,hn⟩:=Hp.fact (A:=iG Ti (us.map Prod.snd) (l.map Prod.snd)) h
 have hn2:(l.map (·.1)).Nodup:=hk▸hn
 have done:Hp Z ρ (aC Ti ((jW us k).getD Sl.nil).v ((jW l k).getD [])::iG Ti ((us.filter fun p=> !decide (p.1=k)).map Prod.snd) ((l.filter fun p=> !decide (p.1=k)).map Prod.snd)::L) w:=by
  by_cases B:k∈us.map (·.1)
  ·obtain⟨j,D⟩:=List.getElem?_of_mem B
   obtain⟨u,hu,hu2⟩:=aM0 hn D
   have hj2:(l.map (·.1))[j]?=some k:=hk▸D
   obtain⟨r,hr1,hr2⟩:=aM0 hn2 hj2
   rw[hu2,hr2,X9 hn D,X9 hn2 hj2,map_eraseIdx,map_eraseIdx]
   exact hr.to fun s=>(iG.take j (by rw[xF,hu];rfl) (by rw[xF,hr1];rfl)).1 s
  rw[aG1 B,aG1 (hk▸B),filter_all B,filter_all (hk▸B)]
  exact hr.emp (aC.nil Ti)
 exact(((done.get 1 O).addFact ⟨hk,hn⟩).get 1 O)
theorem RowsX.put {s:Sl} {v:Value} (he:s.v=v) {r:List α} (h:Hp Z ρ (aC Ti v r::RowsX Ti us l k::L) w):Hp Z ρ (RowsM Ti (Q7 us k s) (Q7 l k r)::L) w:=by
 subst he
 obtain⟨h1,hk,hn⟩:=Hp.fact (A:=iG Ti ((us.filter fun p=> !decide (p.1=k)).map Prod.snd) ((l.filter fun p=> !decide (p.1=k)).map Prod.snd)) (h.get 1 O)
 have hr:=h1.get 1 O
 have hn2:(l.map (·.1)).Nodup:=hk▸hn
 refine Hp.addFact ?_ ⟨mput_keys_eq hk k s r,mput_nodup hn k s⟩
 by_cases B:k∈us.map (·.1)
 ·obtain⟨j,G⟩:=List.getElem?_of_mem B
  have hj2:(l.map (·.1))[j]?=some k:=hk▸G
  have F:=(uR.1 G).1
  have D:=(uR.1 hj2).1
  rw[List.length_map] at F D
  rw[mput_at hn G,mput_at hn2 hj2]
  rw[X9 hn G,X9 hn2 hj2,map_eraseIdx,map_eraseIdx] at hr
  refine hr.to fun t=>(iG.take j (u:=s) (r:=r) (by rw[List.map_set,xT (by simpa using F)]) (by rw[List.map_set,xT (by simpa using D)])).2 ?_
  rw[List.map_set,List.map_set,List.eraseIdx_set_eq,List.eraseIdx_set_eq]
  exact t
 rw[mput_new B,mput_new (hk▸B),List.map_append,List.map_append]
 rw[filter_all B,filter_all (hk▸B)] at hr
 exact hr.to fun t=>iG.snoc t
theorem RowsX.back {v:Value} (he:((jW us k).getD Sl.nil).v=v) {r:List α} (h:Hp Z ρ (aC Ti v r::RowsX Ti us l k::L) w):Hp Z ρ (RowsM Ti us (mset l k r)::L) w:=by
 subst he
 obtain⟨h1,hk,hn⟩:=Hp.fact (A:=iG Ti ((us.filter fun p=> !decide (p.1=k)).map Prod.snd) ((l.filter fun p=> !decide (p.1=k)).map Prod.snd)) (h.get 1 O)
 have hr:=h1.get 1 O
 have hn2:(l.map (·.1)).Nodup:=hk▸hn
 unfold mset
 by_cases B:k∈us.map (·.1)
 ·rw[if_pos (mhas_iff.2 (hk▸B))]
  refine Hp.addFact ?_ ⟨by rw[L9,if_pos (hk▸B)];exact hk,hn⟩
  obtain⟨j,F⟩:=List.getElem?_of_mem B
  have hj2:(l.map (·.1))[j]?=some k:=hk▸F
  obtain⟨u,hu,hu2⟩:=aM0 hn F
  have D:=(uR.1 hj2).1
  rw[List.length_map] at D
  rw[mput_at hn2 hj2]
  rw[hu2,X9 hn F,X9 hn2 hj2,map_eraseIdx,map_eraseIdx] at hr
  refine hr.to fun t=>(iG.take j (u:=u) (r:=r) (by rw[xF,hu];rfl) (by rw[List.map_set,xT (by simpa using D)])).2 ?_
  rw[List.map_set,List.eraseIdx_set_eq]
  exact t
 rw[if_neg (fun h=>B (hk▸mhas_iff.1 h))]
 refine Hp.addFact ?_ ⟨hk,hn⟩
 rw[filter_all B,filter_all (hk▸B)] at hr
 exact hr.drop
theorem RowsM.ro {h:PH} (d:ρ.dj h) (a:RowsM Ti us l h):aK9 (ρ.un h) us l:=by
 obtain⟨hr,hk,hn⟩:=a
 have hn2:(l.map (·.1)).Nodup:=hk▸hn
 refine⟨hk,hn,fun k=>?_⟩
 by_cases A:k∈us.map (·.1)
 ·obtain⟨j,B⟩:=List.getElem?_of_mem A
  obtain⟨u,hu,hu2⟩:=aM0 hn B
  obtain⟨r,hr1,hr2⟩:=aM0 hn2 (hk▸B:(l.map (·.1))[j]?=some k)
  rw[hu2,hr2]
  obtain⟨k',h4,h5⟩:=iG.at_ j hr (by rw[xF,hu];rfl) (by rw[xF,hr1];rfl)
  have h6:aH (PH.emp.un k') u.v r:=aC.ro (PH.dj_emp k').symm h4
  exact h6.mono (by
   have:PH.emp.un k'=k':=by funext x;rfl
   rw[this];exact h5.tr (PH.le_un_r d))
 rw[aG1 A,aG1 (hk▸A)]
 exact aH.nil _
theorem aK9.mono {ρ':PH} (h:aK9 ρ us l) (A:ρ.le ρ'):aK9 ρ' us l:=⟨h.1,h.2.1,fun k=>(h.2.2 k).mono A⟩
theorem aK9.get (h:aK9 ρ us l) (k:κ):∃v,((jW us k).getD Sl.nil).v=v∧aH ρ v ((jW l k).getD []):=⟨_,O,h.2.2 k⟩
theorem aK9.at_ (h:aK9 ρ us l) {u:Sl} (A:(k,u)∈us):aH ρ (vl u) ((jW l k).getD []):=by
 have:=h.2.2 k
 rw[mget_mem h.2.1 A] at this
 exact this
end
section
variable {Rn:Option Nat} {P:Program} {ops:Array Oper} {Q:Exit→Act→World→Prop} {rest:List Oper} {o:Oper} {a:Act} {w:World} {Df:List Deferred} {N:Nat} {E:Ent} {d:Nat} {Z:World} {ρ:PH} {L:List bQ}
variable {κ β:Type} [Vl κ] [Vl β]
theorem MapIt.sub {b r:Nat} {l rem:List (κ×β)} {cur:Option (κ×β)} (h:Hp Z ρ (MapIt b r l rem cur::L) w):rem.Sublist l:=by
 obtain⟨es,clock,since,seen,last,_,_,_,_,_,_,h5,_⟩:=h.it
 exact h5
theorem MapIt.mem {b r:Nat} {l rem rem':List (κ×β)} {cur:Option (κ×β)} {e:κ×β} (h:Hp Z ρ (MapIt b r l rem cur::L) w) (A:rem.Perm (e::rem')):e∈l:=(MapIt.sub h).subset (A.symm.subset (by simp))
variable [DecidableEq κ]
end
section
variable {Rn:Option Nat} {P:Program} {ops:Array Oper} {Q:Exit→Act→World→Prop} {rest:List Oper} {o:Oper} {a:Act} {w:World} {Df:List Deferred} {N:Nat} {E:Ent} {d:Nat} {Z:World} {ρ:PH} {L:List bQ} {C:World→Prop}
variable {α:Type} [Enc α] {T Ti To Tr:TypeId} {v:Value} {us:List Sl} {l:List (List α)} {bytes:Nat}
theorem ex_nil {x:Operand} (B:o.op= .nilCheck x) (D:EnvD Df N E a) {p:Addr} (A:evo E x=some (.pointer (some p))):Ex P C a o (.pointer (some p)):=fun w _=>by
 simp[execOp,B,D.eval A]
theorem iG.app:∀{us us2:List Sl} {l l2:List (List α)} {ρ h:PH} {L:List bQ},Sep ρ (iG Ti us2 l2::iG Ti us l::L) h→Sep ρ (iG Ti (us++us2) (l++l2)::L) h
 | [],us2,[],l2,ρ,h,L,hs=>Sep.cons_mono (fun ρ h s=>Sep.emp1.1 s) hs
 | [],_,_::_,_,_,_,_,hs=>by obtain⟨_,_,_,k,a,_⟩:=hs;exact a.elim
 |_::_,_,[],_,_,_,_,hs=>by obtain⟨_,_,_,k,a,_⟩:=hs;exact a.elim
 |u::us,us2,r::l,l2,ρ,h,L,hs=>
  Sep.two.2 (Sep.cons_mono (fun ρ h s=>iG.app s) (Sep.swap (Sep.cons_mono (fun ρ h s=>Sep.two.1 s) hs) |> fun s=>Sep.cons_mono (fun ρ h s=>s) s))
end
section
variable {Rn:Option Nat} {P:Program} {fn:Func} {R:Ending→World→Prop} {a:Act} {w:World} {Df:List Deferred} {N:Nat} {E:Ent}
end
def RoFull {α:Type} [Rep α] (ρ:PH) (v:Value) (l:List α):Prop:=aH ρ v l∧∃A,v= .slice A l.length l.length
theorem RoFull.mono {α:Type} [Rep α] {ρ ρ':PH} {v:Value} {l:List α} (h:RoFull ρ v l) (A:ρ.le ρ'):RoFull ρ' v l:=⟨h.1.mono A,h.2⟩
section
variable {P:Program} {o:Oper} {a:Act} {C:World→Prop} {Df:List Deferred} {N:Nat} {E:Ent}
end
section
variable {α:Type} [Rep α] [Rep1 α] {Rn:Option Nat} {P:Program} {ops:Array Oper} {Q:Exit→Act→World→Prop} {rest:List Oper} {o:Oper} {a:Act} {w:World} {Df:List Deferred} {N:Nat} {E:Ent} {d:Nat} {Z:World} {ρ:PH} {L:List bQ}
end
end Go.Proofs.YtopnldfjcciieaaGreat

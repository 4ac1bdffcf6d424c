/- Models of: math/bits.Mul32, math/bits.Mul64, math/bits.Mul, slices.Repeat[[]int,int], assessor/align.Align. (Printed by wip/sp/gen.py.) -/
import Derived.Test.YtopnldfjcciieaaGreatKCo3
import Derived.Test.YtopnldfjcciieaaGreatKCo2
set_option linter.unusedVariables false
set_option linter.unusedSimpArgs false
namespace Go.Proofs.YtopnldfjcciieaaGreat
open Go.RowKit
noncomputable def Z5 (B:Int) (A:Int):Option (Int×Int):=
 (shrK .u64 B 32).bind fun D=>
 (shrK .u64 A 32).bind fun G=>
 (shrK .u64 (IntKind.wrap .u64 ((andK .u64 B 4294967295)*(andK .u64 A 4294967295))) 32).bind fun F=>
 (shrK .u64 (IntKind.wrap .u64 ((IntKind.wrap .u64 (D*(andK .u64 A 4294967295)))+F)) 32).bind fun I=>
 (shrK .u64 (IntKind.wrap .u64 ((andK .u64 (IntKind.wrap .u64 ((IntKind.wrap .u64 (D*(andK .u64 A 4294967295)))+F)) 4294967295)+(IntKind.wrap .u64 ((andK .u64 B 4294967295)*G)))) 32).bind fun H=>
 some (IntKind.wrap .u64 ((IntKind.wrap .u64 ((IntKind.wrap .u64 (D*G))+I))+H),IntKind.wrap .u64 (B*A))
noncomputable def aE9 (D:Int) (B:Int):Option (Int×Int):=
 (Z5 D B).bind fun A=>
 some (A.1,A.2)
noncomputable def uD (aT:Int) (aU:(List Int)):Option (Step (Int×(List Int)) (List Int)):=
 if(decide (aT<(aU.length:Int)))=true then
  (sub aU aT (aU.length:Int)).bind fun B=>
  (sub aU 0 aT).bind fun A=>
  (inK .i64 (aT+((min A.length B.length:Nat):Int))).bind fun D=>
  some (.next (D,aU.take aT.toNat++cpy B A))
 else
  some (.done aU)
noncomputable def oG (B:(List Int)) (G:Int):Option (List Int):=
 ((if(decide (G<0))=true then
  none
 else
  some ()):Option Unit).bind fun j1=>
 (aE9 (IntKind.wrap .u64 (B.length:Int)) (IntKind.wrap .u64 G)).bind fun A=>
 ((if((decide (0<A.1))||(decide (9223372036854775807<A.2)))=true then
  none
 else
  some ()):Option Unit).bind fun j2=>
 (inK .i64 A.2).bind fun F=>
 (mkc F F (0:Int)).bind fun D=>
 (fH (fun s=>uD s.1 s.2) (((min B.length D.length:Nat):Int),cpy D B):Option (List Int)).bind fun b1=>
 some b1
noncomputable def Q4 (A:Alg) (aT:Int) (aU:(List Opn)):Option (Step (Int×(List Opn)) (List Opn)):=
 if(decide (aT<(A.partner.length:Int)))=true then
  (idx A.partner aT).bind fun F=>
  (app aU [(Opn.mk aT F)]).bind fun D=>
  (inK .i64 (aT+1)).bind fun B=>
  some (.next (B,D))
 else
  some (.done aU)
noncomputable def Q5 (A:Alg) (bK:Int) (eG:(List Opn)):Option (Step (Int×(List Opn)) (List Opn)):=
 if(decide (bK<(A.back.length:Int)))=true then
  (idx A.back bK).bind fun G=>
  if(decide (G<0))=true then
   (app eG [(Opn.mk (-1) bK)]).bind fun F=>
   (inK .i64 (bK+1)).bind fun D=>
   some (.next (D,F))
  else
   (inK .i64 (bK+1)).bind fun B=>
   some (.next (B,eG))
 else
  some (.done eG)
noncomputable def U1 (J:Node) (I:Node):Option ((List Opn)×Int):=
 (wH J I).bind fun H=>
 if(!decide (H.2=0))=true then
  some ([],H.2)
 else
  (jT J).bind fun G=>
  (jT I).bind fun F=>
  (qH G).bind fun D=>
  (qH F).bind fun B=>
  (oG ([(-1)]:List Int) (G.nodes.length:Int)).bind fun U=>
  (oG ([(-1)]:List Int) (F.nodes.length:Int)).bind fun S=>
  (inK .i64 ((D.1.length:Int)-1)).bind fun M=>
  (inK .i64 ((B.1.length:Int)-1)).bind fun K=>
  (zF (Alg.mk G F D.1 D.2 B.1 B.2 H.1 U S) M K).bind fun A=>
  (fH (fun s=>Q4 A s.1 s.2) (0,[]):Option (List Opn)).bind fun b12=>
  (fH (fun s=>Q5 A s.1 s.2) (0,b12):Option (List Opn)).bind fun b15=>
  some (b15,0)
noncomputable def uN (A:Opn) (cp0:Int):Option Bool:=
 some (decide (A.a=cp0))
noncomputable def gY (A:(List Opn)) (p1c0:Int) (aT:Int):Option (Step Int (Out Unit Int)):=
 if(decide (aT<(A.length:Int)))=true then
  (idx A aT).bind fun F=>
  (uN F p1c0).bind fun D=>
  if D=true then
   some (.done (.ret aT))
  else
   (inK .i64 (aT+1)).bind fun B=>
   some (.next B)
 else
  some (.done (.brk ()))
noncomputable def jP (A:(List Opn)) (p1c0:Int):Option Int:=
 (fH (fun s=>gY A p1c0 s) 0:Option (Out Unit Int)).bind fun b1=>
 match b1 with
 | .brk b1s=>
  some (-1)
 | .ret r=>some r
noncomputable def qU (B:(List Opn)) (D:Int):Option (Int×Bool):=
 (jP B D).bind fun A=>
 ((if((decide (A<0))||(decide (D<0)))=true then
  some true
 else
  (idx B A).bind fun G=>
  some (decide (G.b<0))):Option Bool).bind fun m1=>
 if m1=true then
  some (0,false)
 else
  (idx B A).bind fun F=>
  some (F.b,true)
noncomputable def sK (A:Int):Option Bool:=
 some (!decide (A=A))
noncomputable def nV (B:Int) (A:Int):Option Int:=
 (sK B).bind fun F=>
 (sK A).bind fun D=>
 if F=true then
  if D=true then
   some 0
  else
   some (-1)
 else
  if D=true then
   some 1
  else
   if(decide (B<A))=true then
    some (-1)
   else
    if(decide (A<B))=true then
     some 1
    else
     some 0
noncomputable def lW (A:Opn) (B:Opn):Option Int:=
 if((decide (0≤A.a))&&(decide (0≤B.a)))=true then
  (nV A.a B.a).bind fun F=>
  some F
 else
  if((decide (A.a<0))&&(decide (B.a<0)))=true then
   (nV A.b B.b).bind fun D=>
   some D
  else
   if(decide (0≤A.a))=true then
    some (-1)
   else
    some 1
noncomputable def eY (U:Int) (bK:Int) (eG:(List Opn)):Option (Step (Int×(List Opn)) (List Opn)):=
 ((if(decide (U<bK))=true then
  (idx eG bK).bind fun K=>
  (inK .i64 (bK-1)).bind fun J=>
  (idx eG J).bind fun I=>
  (lW K I).bind fun H=>
  some (decide (H<0))
 else
  some false):Option Bool).bind fun m1=>
 if m1=true then
  (inK .i64 (bK-1)).bind fun D=>
  (inK .i64 (bK-1)).bind fun G=>
  (idx eG G).bind fun B=>
  (idx eG bK).bind fun F=>
  (idx eG bK).bind fun S=>
  (idx (eG.set bK.toNat B) D).bind fun M=>
  (inK .i64 (bK-1)).bind fun A=>
  some (.next (A,(eG.set bK.toNat B).set D.toNat F))
 else
  some (.done eG)
noncomputable def gJ (D:Int) (B:Int) (aT:Int) (aU:(List Opn)):Option (Step (Int×(List Opn)) (List Opn)):=
 if(decide (aT<B))=true then
  (fH (fun s=>eY D s.1 s.2) (aT,aU):Option (List Opn)).bind fun b2=>
  (inK .i64 (aT+1)).bind fun A=>
  some (.next (A,b2))
 else
  some (.done aU)
noncomputable def eH (F:(List Opn)) (A:Int) (D:Int):Option (List Opn):=
 (inK .i64 (A+1)).bind fun B=>
 (fH (fun s=>gJ A D s.1 s.2) (B,F):Option (List Opn)).bind fun b1=>
 some b1
noncomputable def iE (G:Int) (F:Int) (M:Int) (aT:Int) (aU:(List Opn)):Option (Step (Int×(List Opn)) (List Opn)):=
 if(decide (aT<M))=true then
  (inK .i64 (G+aT)).bind fun A=>
  (inK .i64 (F+aT)).bind fun D=>
  (inK .i64 (F+aT)).bind fun K=>
  (idx aU K).bind fun B=>
  (inK .i64 (G+aT)).bind fun J=>
  (idx aU J).bind fun I=>
  (idx aU A).bind fun x7=>
  (idx (aU.set A.toNat B) D).bind fun x8=>
  (inK .i64 (aT+1)).bind fun H=>
  some (.next (H,(aU.set A.toNat B).set D.toNat I))
 else
  some (.done aU)
noncomputable def eF (F:(List Opn)) (D:Int) (B:Int) (A:Int):Option (List Opn):=
 (fH (fun s=>iE D B A s.1 s.2) (0,F):Option (List Opn)).bind fun b1=>
 some b1
noncomputable def iL (A:Int) (aT:Int) (aU:Int) (fV:(List Opn)):Option (Step (Int×Int×(List Opn)) (Int×(List Opn))):=
 if(!decide (aT=aU))=true then
  if(decide (aU<aT))=true then
   (inK .i64 (A-aT)).bind fun K=>
   (eF fV K A aU).bind fun J=>
   (inK .i64 (aT-aU)).bind fun I=>
   some (.next (I,aU,J))
  else
   (inK .i64 (A-aT)).bind fun H=>
   (inK .i64 (A+aU)).bind fun G=>
   (inK .i64 (G-aT)).bind fun F=>
   (eF fV H F aT).bind fun D=>
   (inK .i64 (aU-aT)).bind fun B=>
   some (.next (aT,B,D))
 else
  some (.done (aT,fV))
noncomputable def fU (J:(List Opn)) (I:Int) (A:Int) (H:Int):Option (List Opn):=
 (inK .i64 (A-I)).bind fun G=>
 (inK .i64 (H-A)).bind fun F=>
 (fH (fun s=>iL A s.1 s.2.1 s.2.2) (G,F,J):Option (Int×(List Opn))).bind fun b1=>
 (inK .i64 (A-b1.1)).bind fun D=>
 (eF b1.2 D A b1.1).bind fun B=>
 some B
noncomputable def fA (B:(List Opn)) (K:Int) (aT:Int) (aU:Int):Option (Step (Int×Int) Int):=
 if(decide (aT<aU))=true then
  (inK .i64 (aT+aU)).bind fun J=>
  (shrK .u64 (IntKind.wrap .u64 J) 1).bind fun I=>
  (inK .i64 I).bind fun A=>
  (idx B A).bind fun H=>
  (idx B K).bind fun G=>
  (lW H G).bind fun F=>
  if(decide (F<0))=true then
   (inK .i64 (A+1)).bind fun D=>
   some (.next (D,aU))
  else
   some (.next (aT,A))
 else
  some (.done aT)
noncomputable def gK (b1:Int) (bK:Int) (eG:(List Opn)):Option (Step (Int×(List Opn)) (List Opn)):=
 (inK .i64 (b1-1)).bind fun H=>
 if(decide (bK<H))=true then
  (inK .i64 (bK+1)).bind fun B=>
  (inK .i64 (bK+1)).bind fun G=>
  (idx eG G).bind fun A=>
  (idx eG bK).bind fun F=>
  (idx eG bK).bind fun J=>
  (idx (eG.set bK.toNat A) B).bind fun I=>
  (inK .i64 (bK+1)).bind fun D=>
  some (.next (D,(eG.set bK.toNat A).set B.toNat F))
 else
  some (.done eG)
noncomputable def fB (J:(List Opn)) (K:Int) (fP:Int) (rO:Int):Option (Step (Int×Int) Int):=
 if(decide (fP<rO))=true then
  (inK .i64 (fP+rO)).bind fun I=>
  (shrK .u64 (IntKind.wrap .u64 I) 1).bind fun H=>
  (inK .i64 H).bind fun A=>
  (idx J K).bind fun G=>
  (idx J A).bind fun F=>
  (lW G F).bind fun D=>
  if(!(decide (D<0)))=true then
   (inK .i64 (A+1)).bind fun B=>
   some (.next (B,rO))
  else
   some (.next (fP,A))
 else
  some (.done fP)
noncomputable def gQ (b15:Int) (lK:Int) (lF:(List Opn)):Option (Step (Int×(List Opn)) (List Opn)):=
 if(decide (b15<lK))=true then
  (inK .i64 (lK-1)).bind fun B=>
  (inK .i64 (lK-1)).bind fun G=>
  (idx lF G).bind fun A=>
  (idx lF lK).bind fun F=>
  (idx lF lK).bind fun I=>
  (idx (lF.set lK.toNat A) B).bind fun H=>
  (inK .i64 (lK-1)).bind fun D=>
  some (.next (D,(lF.set lK.toNat A).set B.toNat F))
 else
  some (.done lF)
noncomputable def fC (M:(List Opn)) (K:Int) (lp5_0:Int) (lp5_1:Int):Option (Step (Int×Int) Int):=
 if(decide (lp5_0<lp5_1))=true then
  (inK .i64 (lp5_0+lp5_1)).bind fun J=>
  (shrK .u64 (IntKind.wrap .u64 J) 1).bind fun I=>
  (inK .i64 I).bind fun A=>
  (inK .i64 (K-A)).bind fun H=>
  (idx M H).bind fun G=>
  (idx M A).bind fun F=>
  (lW G F).bind fun D=>
  if(!(decide (D<0)))=true then
   (inK .i64 (A+1)).bind fun B=>
   some (.next (B,lp5_1))
  else
   some (.next (lp5_0,A))
 else
  some (.done lp5_0)
noncomputable def iF (self:(List Opn)→Int→Int→Int→Option (List Opn)) (H:(List Opn)) (F:Int) (B:Int) (I:Int):Option (List Opn):=
 (inK .i64 (B-F)).bind fun Y=>
 if(decide (Y=1))=true then
  (fH (fun s=>fA H F s.1 s.2) (B,I):Option Int).bind fun b1=>
  (fH (fun s=>gK b1 s.1 s.2) (F,H):Option (List Opn)).bind fun b6=>
  some b6
 else
  (inK .i64 (I-B)).bind fun X=>
  if(decide (X=1))=true then
   (fH (fun s=>fB H B s.1 s.2) (F,B):Option Int).bind fun b15=>
   (fH (fun s=>gQ b15 s.1 s.2) (B,H):Option (List Opn)).bind fun b20=>
   some b20
  else
   (inK .i64 (F+I)).bind fun W=>
   (shrK .u64 (IntKind.wrap .u64 W) 1).bind fun V=>
   (inK .i64 V).bind fun A=>
   (inK .i64 (A+B)).bind fun G=>
   ((if(decide (A<B))=true then
    (inK .i64 (G-I)).bind fun U=>
    some (U,A)
   else
    some (F,B)):Option (Int×Int)).bind fun j1=>
   (inK .i64 (G-1)).bind fun S=>
   (fH (fun s=>fC H S s.1 s.2) (j1.1,j1.2):Option Int).bind fun b29=>
   (inK .i64 (G-b29)).bind fun D=>
   ((if((decide (b29<B))&&(decide (B<D)))=true then
    (fU H b29 B D).bind fun M=>
    some M
   else
    some H):Option (List Opn)).bind fun j2=>
   ((if((decide (F<b29))&&(decide (b29<A)))=true then
    (self j2 F b29 A).bind fun K=>
    some K
   else
    some j2):Option (List Opn)).bind fun j3=>
   if((decide (A<D))&&(decide (D<I)))=true then
    (self j3 A D I).bind fun J=>
    some J
   else
    some j3
noncomputable def dP:Nat→(List Opn)→Int→Int→Int→Option (List Opn)
 |0=>fun _ _ _ _=>none
 |n+1=>iF (dP n)
noncomputable def iT (F:(List Opn)) (B:Int) (D:Int) (A:Int):Option (List Opn):=dP ((A-B).toNat+1) F B D A
noncomputable def gB (D:Int) (aT:Int) (aU:Int) (fV:(List Opn)):Option (Step (Int×Int×(List Opn)) (Int×(List Opn))):=
 if(decide (aU≤D))=true then
  (eH fV aT aU).bind fun B=>
  (inK .i64 (aU+20)).bind fun A=>
  some (.next (aU,A,B))
 else
  some (.done (aT,fV))
noncomputable def jW (G:Int) (bK:Int) (fP:Int) (rO:Int) (lp3_2:(List Opn)):Option (Step (Int×Int×(List Opn)) (Int×(List Opn))):=
 if(decide (rO≤G))=true then
  (inK .i64 (fP+bK)).bind fun F=>
  (iT lp3_2 fP F rO).bind fun D=>
  (inK .i64 (2*bK)).bind fun B=>
  (inK .i64 (rO+B)).bind fun A=>
  some (.next (rO,A,D))
 else
  some (.done (fP,lp3_2))
noncomputable def fD (A:Int) (bK:Int) (eG:(List Opn)):Option (Step (Int×(List Opn)) (List Opn)):=
 if(decide (bK<A))=true then
  (inK .i64 (2*bK)).bind fun G=>
  (fH (fun s=>jW A bK s.1 s.2.1 s.2.2) (0,G,eG):Option (Int×(List Opn))).bind fun b3=>
  (inK .i64 (b3.1+bK)).bind fun F=>
  ((if(decide (F<A))=true then
   (iT b3.2 b3.1 F A).bind fun D=>
   some D
  else
   some b3.2):Option (List Opn)).bind fun j1=>
  (inK .i64 (bK*2)).bind fun B=>
  some (.next (B,j1))
 else
  some (.done eG)
noncomputable def iD (D:(List Opn)) (A:Int):Option (List Opn):=
 (fH (fun s=>gB A s.1 s.2.1 s.2.2) (0,20,D):Option (Int×(List Opn))).bind fun b1=>
 (eH b1.2 b1.1 A).bind fun B=>
 (fH (fun s=>fD A s.1 s.2) (20,B):Option (List Opn)).bind fun b2=>
 some b2
noncomputable def iY (A:(List Opn)):Option (List Opn):=
 (iD A (A.length:Int)).bind fun B=>
 some B
noncomputable def oK (B:(List Opn)):Option (List Opn):=
 (iY B).bind fun A=>
 some A
noncomputable def J6 (B:(List Opn)) (aT:Int) (aU:(List Opn)):Option (Step (Int×(List Opn)) (List Opn)):=
 if(decide (aT<(B.length:Int)))=true then
  (idx B aT).bind fun A=>
  (app aU [(Opn.mk A.b A.a)]).bind fun F=>
  (inK .i64 (aT+1)).bind fun D=>
  some (.next (D,F))
 else
  some (.done aU)
noncomputable def xY (B:(List Opn)):Option (List Opn):=
 (fH (fun s=>J6 B s.1 s.2) (0,[]):Option (List Opn)).bind fun b1=>
 (oK b1).bind fun A=>
 some A
noncomputable def pO (D:(List Opn)) (H:(List Opn)) (aT:Int) (aU:(List Opn)) (fV:(List (Int×Bool))):Option (Step (Int×(List Opn)×(List (Int×Bool))) ((List Opn)×(List (Int×Bool)))):=
 if(decide (aT<(D.length:Int)))=true then
  (((idx D aT).bind fun A=>
  if(decide (A.a<0))=true then
   some (aU,fV)
  else
   (qU H A.b).bind fun B=>
   ((if(!B.2)=true then
    some (-1)
   else
    some B.1):Option Int).bind fun j2=>
   (app aU [(Opn.mk A.a j2)]).bind fun G=>
   some (G,zY fV j2 true)):Option ((List Opn)×(List (Int×Bool)))).bind fun j1=>
  (inK .i64 (aT+1)).bind fun F=>
  some (.next (F,j1.1,j1.2))
 else
  some (.done (aU,fV))
noncomputable def rQ (B:(List Opn)) (b2:((List Opn)×(List (Int×Bool)))) (bK:Int) (eG:(List Opn)):Option (Step (Int×(List Opn)) (List Opn)):=
 if(decide (bK<(B.length:Int)))=true then
  (idx B bK).bind fun A=>
  if((decide (0≤A.b))&&(!((jS (b2.2:List (Int×Bool)) A.b).getD false)))=true then
   (app eG [(Opn.mk (-1) A.b)]).bind fun G=>
   (inK .i64 (bK+1)).bind fun F=>
   some (.next (F,G))
  else
   (inK .i64 (bK+1)).bind fun D=>
   some (.next (D,eG))
 else
  some (.done eG)
noncomputable def qR (D:(List Opn)) (A:(List Opn)):Option (List Opn):=
 (fH (fun s=>pO D A s.1 s.2.1 s.2.2) (0,[],[]):Option ((List Opn)×(List (Int×Bool)))).bind fun b2=>
 (fH (fun s=>rQ A b2 s.1 s.2) (0,b2.1):Option (List Opn)).bind fun b6=>
 (oK b6).bind fun B=>
 some B
def Node.re (n:Node) (ks:List Node):Node:=⟨n.kind,n.text,n.at_,n.fin,ks⟩
mutual
def atN:Node→Nat→Option (List Node×Nat×(List Node→Node))
 |⟨a,b,c,d,kids⟩,k=>(atL [] kids k).map fun q=>(q.1,q.2.1,fun x=>⟨a,b,c,d,q.2.2 x⟩)
def atL:List Node→List Node→Nat→Option (List Node×Nat×(List Node→List Node))
 |_,[],_=>none
 |pre,n::r,k=>if k=0 then some (pre++n::r,pre.length,id) else if k<iI n then(atN n (k-1)).map fun q=>(q.1,q.2.1,fun x=>pre++q.2.2 x::r) else atL (pre++[n]) r (k-iI n)
end
theorem atN_eq (n:Node) (k:Nat):atN n k=(atL [] n.kids k).map fun q=>(q.1,q.2.1,fun x=>n.re (q.2.2 x)):=by obtain⟨a,b,c,d,kids⟩:=n;rw[atN];rfl
theorem atL_nil (pre:List Node) (k:Nat):atL pre [] k=none:=by rw[atL]
theorem aB1 (pre:List Node) (n:Node) (r:List Node) (k:Nat):atL pre (n::r) k=if k=0 then some (pre++n::r,pre.length,id) else if k<iI n then(atN n (k-1)).map fun q=>(q.1,q.2.1,fun x=>pre++q.2.2 x::r) else atL (pre++[n]) r (k-iI n):=by rw[atL]
theorem cntN_eq' (n:Node):iI n=1+pY n.kids:=by obtain⟨a,b,c,d,k⟩:=n;rw[iI]
theorem atL_ok:∀(m:Nat) (ts pre:List Node) (k:Nat),SizeOf.sizeOf ts≤m→k<pY ts→∃q,atL pre ts k=some q:=by
 intro m
 induction m with
 |zero=>intro ts pre k h;cases ts<;>simp at h
 |succ m ih=>
  intro ts pre k h hk
  cases ts with
  |nil=>rw[pY] at hk;omega
  |cons n r=>
   rw[aB1]
   rw[pY] at hk
   simp only[List.cons.sizeOf_spec] at h
   split
   ·exact⟨_,O⟩
   split
   ·obtain⟨a,b,c,d,kids⟩:=n
    simp only[Node.mk.sizeOf_spec] at h
    rename_i h0 h1
    rw[iI] at h1
    obtain⟨q,hq⟩:=ih kids [] (k-1) (by omega) (by omega)
    rw[atN,hq]
    exact⟨_,O⟩
   exact ih r _ _ (by omega) (by omega)
theorem atL_plug:∀(m:Nat) (ts pre:List Node) (k:Nat),SizeOf.sizeOf ts≤m→∀{t:List Node} {i:Nat} {p:List Node→List Node},atL pre ts k=some (t,i,p)→p t=pre++ts∧t.length≤pre.length+pY ts:=by
 intro m
 induction m with
 |zero=>intro ts pre k h;cases ts<;>simp at h
 |succ m ih=>
  intro ts pre k h t i p hat
  cases ts with
  |nil=>rw[atL_nil] at hat;cases hat
  |cons n r=>
   rw[aB1] at hat
   have hc:=cntN_eq' n
   have hlen:∀(l:List Node),l.length≤pY l:=by
    intro l
    induction l with
    |nil=>exact Nat.zero_le _
    |cons a l ih2=>rw[pY,zP,cntN_eq'];omega
   have hr:=hlen r
   simp only[List.cons.sizeOf_spec] at h
   split at hat
   ·obtain⟨rfl,rfl,rfl⟩:pre++n::r=t∧pre.length=i∧id=p:=by simpa using hat
    refine⟨O,?_⟩
    rw[uR,zP,pY];omega
   split at hat
   ·obtain⟨a,b,c,d,kids⟩:=n
    rw[atN] at hat
    cases hq:atL [] kids (k-1) with
    |none=>rw[hq] at hat;cases hat
    |some q=>
     obtain⟨t2,i2,p2⟩:=q
     rw[hq] at hat
     simp only[Option.map_some,vR,Prod.mk.injEq] at hat
     obtain⟨rfl,rfl,rfl⟩:=hat
     simp only[Node.mk.sizeOf_spec] at h
     obtain⟨h1,h2⟩:=ih kids [] (k-1) (by omega) hq
     refine⟨by simp[h1],?_⟩
     rw[pY,iI]
     simp only[List.length_nil] at h2
     omega
   obtain⟨h1,h2⟩:=ih r (pre++[n]) (k-iI n) (by omega) hat
   refine⟨by rw[h1];simp,?_⟩
   rw[uR,List.length_singleton] at h2
   rw[pY];omega
theorem re_kids (n:Node):n.re n.kids=n:=by cases n;rfl
def m_at (ts:List Node) (n:Int):Option (Option (List Node×Nat×(List Node→List Node))):=if 0≤n∧n<9223372036854775808∧pY ts≤4294967296 then some (atL [] ts n.toNat) else none
def aD5 (ts:List Node) (c:Chg):Option (Int×List Node):=(m_at ts c.node).bind fun q=>match q with
 |none=>some (2,ts)
 |some (t,i,p)=>(t[i]?).map fun x=>(0,p (t.set i ⟨c.kind,c.text,x.at_,x.fin,x.kids⟩))
def aG2 (ts:List Node) (c:Chg):Option (Int×List Node):=(m_at ts c.node).bind fun q=>match q with
 |none=>some (2,ts)
 |some (t,i,p)=>(t[i]?).bind fun x=>if t.length+x.kids.length≤4294967296 then some (0,p (t.take i++x.kids++t.drop (i+1))) else none
def insK (l:List Node) (c:Chg):Option (List Node):=
 if c.index<0∨c.count<0∨(l.length:Int)<c.index∨(l.length:Int)-c.index<c.count then none
 else some (l.take c.index.toNat++⟨c.kind,c.text,0,0,(l.drop c.index.toNat).take c.count.toNat⟩::l.drop (c.index.toNat+c.count.toNat))
def aC1 (ts:List Node) (c:Chg):Option (Int×List Node):=
 ((if c.node= -1 then some (some (ts,id)) else(m_at ts c.node).bind fun q=>match q with
  |none=>some none
  |some (t,i,p)=>(t[i]?).map fun x=>some (x.kids,fun ks=>p (t.set i (x.re ks))):Option (Option (List Node×(List Node→List Node))))).bind fun q=>match q with
 |none=>some (2,ts)
 |some (l,P)=>if l.length+1≤4294967296 then(match insK l c with
  |none=>some (2,ts)
  |some ks=>some (0,P ks)) else none
def fieldsB (c:Chg):Bool:=
 if c.op=0 then decide (c.index=0)&&decide (c.count=0)
 else if c.op=1 then decide (c.op=c.op)&&decide (c.node=c.node)&&decide (c.index=0)&&decide (c.count=0)&&decide (c.kind=0)&&decide (c.text=ByteArray.empty)
 else decide (c.op=2)
def nU (ts:List Node) (c:Chg):Option (Int×List Node):=
 if fieldsB c=true then
  if c.node< -1∨(c.node= -1∧c.op≠2) then some (2,ts)
  else if c.op=0 then aD5 ts c else if c.op=1 then aG2 ts c else aC1 ts c
 else some (1,ts)
def chgs:List Node→List Chg→Option (List Node×Int)
 |ts,[]=>some (ts,0)
 |ts,c::cs=>(nU ts c).bind fun q=>if q.1=0 then chgs q.2 cs else some ([],q.1)
def aB6 (l:List Chg) (p:Nat×List Node):Option (Step (Nat×List Node) Unit):=match l[p.1]? with
 |none=>some (.done ())
 |some c=>(nU p.2 c).map fun q=>if q.1=0 then .next (p.1+1,q.2) else .done ()
theorem chLoop (l:List Chg):∀(j i:Nat) (ts:List Node) (r:List Node×Int),l.length≤i+j→chgs ts (l.drop i)=some r→∃u,fH (aB6 l) (i,ts)=some u
 |0,i,ts,r,h,_=>⟨(),kP (by unfold aB6;simp only;rw[List.getElem?_eq_none (by omega)])⟩
 |j+1,i,ts,r,h,hr=>by
  cases A:l[i]? with
  |none=>exact⟨(),kP (by unfold aB6;simp only;rw[A])⟩
  |some c=>
   obtain⟨h3,h4⟩:=uL.1 A
   rw[List.drop_eq_getElem_cons h3,h4,chgs] at hr
   obtain⟨q,hq,hr⟩:=Option.bind_eq_some_iff.1 hr
   by_cases h0:q.1=0
   ·rw[if_pos h0] at hr
    obtain⟨u,hu⟩:=chLoop l j (i+1) q.2 r (by omega) hr
    exact⟨u,by rw[vT (show aB6 l (i,ts)=some (.next (i+1,q.2)) by unfold aB6;simp only;rw[A];simp only;rw[hq,Option.map_some,if_pos h0])];exact hu⟩
   exact⟨(),kP (by unfold aB6;simp only;rw[A];simp only;rw[hq,Option.map_some,if_neg h0])⟩
def m_Apply (l:List Node) (cs:List Chg):Option (List Node×Int):=if pY l<4294967296∧cs.length<4294967296 then chgs l cs else none
noncomputable def mW (B:Opn) (A:Opn):Option Bool:=
 if((decide (0≤B.a))||(decide (0≤A.a)))=true then
  some ((decide (0≤B.a))&&((decide (A.a<0))||(decide (B.a<A.a))))
 else
  some (decide (B.b<A.b))
noncomputable def mV (H:(List Opn)) (aT:Int) (aU:(List Opn)) (bK:Int):Option (Step Int Int):=
 ((if(decide (0<bK))=true then
  (idx H aT).bind fun G=>
  (inK .i64 (bK-1)).bind fun F=>
  (idx aU F).bind fun D=>
  (mW G D).bind fun B=>
  some B
 else
  some false):Option Bool).bind fun m1=>
 if m1=true then
  (inK .i64 (bK-1)).bind fun A=>
  some (.next A)
 else
  some (.done bK)
noncomputable def kS (F:(List Opn)) (aT:Int) (aU:(List Opn)):Option (Step (Int×(List Opn)) (List Opn)):=
 if(decide (aT<(F.length:Int)))=true then
  (fH (fun s=>mV F aT aU s) (aU.length:Int):Option Int).bind fun b3=>
  (sub aU 0 b3).bind fun J=>
  (app ([]:List Opn) J).bind fun I=>
  (idx F aT).bind fun H=>
  (app I [H]).bind fun G=>
  (sub aU b3 (aU.length:Int)).bind fun D=>
  (app G D).bind fun B=>
  (inK .i64 (aT+1)).bind fun A=>
  some (.next (A,B))
 else
  some (.done aU)
noncomputable def jO (A:(List Opn)):Option (List Opn):=
 (fH (fun s=>kS A s.1 s.2) (0,([]:List Opn)):Option (List Opn)).bind fun b2=>
 some b2
noncomputable def jB (B:(List Opn)) (A:(List Opn)) (aT:Int) (bK:Int) (eG:Int):Option (Step (Int×Int) Int):=
 if(decide (eG<(A.length:Int)))=true then
  (idx B aT).bind fun J=>
  ((if(decide (0≤J.b))=true then
   (idx A eG).bind fun I=>
   (idx B aT).bind fun H=>
   some (decide (I.a=H.b))
  else
   some false):Option Bool).bind fun m1=>
  if m1=true then
   (idx A eG).bind fun G=>
   (inK .i64 (eG+1)).bind fun F=>
   some (.next (G.b,F))
  else
   (inK .i64 (eG+1)).bind fun D=>
   some (.next (bK,D))
 else
  some (.done bK)
noncomputable def lZ (A:(List Opn)) (I:(List Opn)) (aT:Int) (aU:(List Opn)):Option (Step (Int×(List Opn)) (List Opn)):=
 if(decide (aT<(A.length:Int)))=true then
  (idx A aT).bind fun H=>
  if(decide (0≤H.a))=true then
   (fH (fun s=>jB A I aT s.1 s.2) ((-1),0):Option Int).bind fun b4=>
   (idx A aT).bind fun G=>
   (app aU [(Opn.mk G.a b4)]).bind fun F=>
   (inK .i64 (aT+1)).bind fun D=>
   some (.next (D,F))
  else
   (inK .i64 (aT+1)).bind fun B=>
   some (.next (B,aU))
 else
  some (.done aU)
noncomputable def jC (A:(List Opn)) (J:(List Opn)) (fP:Int) (lK:Bool) (lF:Int):Option (Step (Bool×Int) Bool):=
 if(decide (lF<(A.length:Int)))=true then
  (idx A lF).bind fun I=>
  ((if(decide (0≤I.a))=true then
   (idx A lF).bind fun H=>
   some (decide (0≤H.b))
  else
   some false):Option Bool).bind fun m2=>
  ((if m2=true then
   (idx A lF).bind fun G=>
   (idx J fP).bind fun F=>
   some (decide (G.b=F.a))
  else
   some false):Option Bool).bind fun m3=>
  if m3=true then
   (inK .i64 (lF+1)).bind fun D=>
   some (.next (true,D))
  else
   (inK .i64 (lF+1)).bind fun B=>
   some (.next (lK,B))
 else
  some (.done lK)
noncomputable def mD (J:(List Opn)) (A:(List Opn)) (fP:Int) (rO:(List Opn)):Option (Step (Int×(List Opn)) (List Opn)):=
 if(decide (fP<(A.length:Int)))=true then
  (idx A fP).bind fun I=>
  if(decide (0≤I.b))=true then
   (fH (fun s=>jC J A fP s.1 s.2) (false,0):Option Bool).bind fun b13=>
   if(!b13)=true then
    (idx A fP).bind fun H=>
    (app rO [(Opn.mk (-1) H.b)]).bind fun G=>
    (inK .i64 (fP+1)).bind fun F=>
    some (.next (F,G))
   else
    (inK .i64 (fP+1)).bind fun D=>
    some (.next (D,rO))
  else
   (inK .i64 (fP+1)).bind fun B=>
   some (.next (B,rO))
 else
  some (.done rO)
noncomputable def lX (D:(List Opn)) (B:(List Opn)):Option (List Opn):=
 (fH (fun s=>lZ D B s.1 s.2) (0,([]:List Opn)):Option (List Opn)).bind fun b2=>
 (fH (fun s=>mD D B s.1 s.2) (0,b2):Option (List Opn)).bind fun b11=>
 (jO b11).bind fun A=>
 some A
noncomputable def lD (D:(List Opn)) (G:(List Opn)) (aT:Int):Option (Step Int (Out Unit Bool)):=
 if(decide (aT<(D.length:Int)))=true then
  (idx D aT).bind fun B=>
  (idx G aT).bind fun A=>
  if(!((decide (B.a=A.a))&&(decide (B.b=A.b))))=true then
   some (.done (.ret false))
  else
   (inK .i64 (aT+1)).bind fun F=>
   some (.next F)
 else
  some (.done (.brk ()))
noncomputable def kR (B:(List Opn)) (A:(List Opn)):Option Bool:=
 if(!decide ((B.length:Int)=(A.length:Int)))=true then
  some false
 else
  (fH (fun s=>lD B A s) 0:Option (Out Unit Bool)).bind fun b1=>
  match b1 with
  | .brk b1s=>
   some true
  | .ret r=>some r
noncomputable def wE (D:(List Chg)) (G:(List Chg)) (aT:Int):Option (Step Int (Out Unit Bool)):=
 if(decide (aT<(D.length:Int)))=true then
  (idx D aT).bind fun B=>
  (idx G aT).bind fun A=>
  if(!((decide (B.op=A.op))&&(decide (B.node=A.node))&&(decide (B.index=A.index))&&(decide (B.count=A.count))&&(decide (B.kind=A.kind))&&(decide (B.text=A.text))))=true then
   some (.done (.ret false))
  else
   (inK .i64 (aT+1)).bind fun F=>
   some (.next F)
 else
  some (.done (.brk ()))
noncomputable def uM (B:(List Chg)) (A:(List Chg)):Option Bool:=
 if(!decide ((B.length:Int)=(A.length:Int)))=true then
  some false
 else
  (fH (fun s=>wE B A s) 0:Option (Out Unit Bool)).bind fun b1=>
  match b1 with
  | .brk b1s=>
   some true
  | .ret r=>some r
noncomputable def qI:Option Bool:=
 (kQ (ByteArray.mk #[97])).bind fun e=>
 (kQ (ByteArray.mk #[98])).bind fun c=>
 (kQ (ByteArray.mk #[99])).bind fun b=>
 (mQ (ByteArray.mk #[42]) c b).bind fun Y=>
 (mQ (ByteArray.mk #[43]) e Y).bind fun D=>
 (kQ (ByteArray.mk #[97])).bind fun X=>
 (kQ (ByteArray.mk #[99])).bind fun W=>
 (mQ (ByteArray.mk #[42]) X W).bind fun B=>
 (qV D B ([(Opn.mk 0 0),(Opn.mk 1 1),(Opn.mk 2 (-1)),(Opn.mk 3 (-1)),(Opn.mk 4 2)]:List Opn)).bind fun V=>
 (zX D B ([(Opn.mk 0 0),(Opn.mk 1 1),(Opn.mk 2 (-1)),(Opn.mk 3 (-1)),(Opn.mk 4 2)]:List Opn)).bind fun A=>
 (m_Apply ([D]:List Node) A.1).bind fun H=>
 (U1 D B).bind fun G=>
 (qU ([(Opn.mk 0 0),(Opn.mk 1 1),(Opn.mk 2 (-1)),(Opn.mk 3 (-1)),(Opn.mk 4 2)]:List Opn) 4).bind fun F=>
 (mG D B ([(Opn.mk 0 0),(Opn.mk 1 1),(Opn.mk 2 (-1)),(Opn.mk 3 (-1)),(Opn.mk 4 2)]:List Opn)).bind fun U=>
 ((if(((U&&(decide (V.2=0)))&&(decide (V.1=3)))&&(decide (A.2=0)))=true then
  (uM A.1 ([(Chg.mk 0 0 0 0 29 (ByteArray.mk #[42])),(Chg.mk 1 3 0 0 0 ByteArray.empty),(Chg.mk 1 2 0 0 0 ByteArray.empty)]:List Chg)).bind fun S=>
  some S
 else
  some false):Option Bool).bind fun m1=>
 ((if(m1&&(decide (H.2=0)))=true then
  (rM H.1 ([B]:List Node)).bind fun M=>
  some M
 else
  some false):Option Bool).bind fun m2=>
 ((if((((m2&&(decide (G.2=0)))&&(decide (0<(G.1.length:Int))))&&F.2)&&(decide (F.1=2)))=true then
  (xY ([(Opn.mk 0 0),(Opn.mk 1 1),(Opn.mk 2 (-1)),(Opn.mk 3 (-1)),(Opn.mk 4 2)]:List Opn)).bind fun K=>
  some (decide ((K.length:Int)=5))
 else
  some false):Option Bool).bind fun m3=>
 ((if m3=true then
  (xY ([(Opn.mk 0 0),(Opn.mk 1 1),(Opn.mk 2 (-1)),(Opn.mk 3 (-1)),(Opn.mk 4 2)]:List Opn)).bind fun J=>
  (qR ([(Opn.mk 0 0),(Opn.mk 1 1),(Opn.mk 2 (-1)),(Opn.mk 3 (-1)),(Opn.mk 4 2)]:List Opn) J).bind fun I=>
  some (decide ((I.length:Int)=7))
 else
  some false):Option Bool).bind fun m4=>
 some m4
noncomputable def lL (D:Node) (B:Node) (A:Node) (G:(List Opn)) (F:(List Opn)):Option Bool:=
 (qI).bind fun c=>
 if(!c)=true then
  some false
 else
  (nD D B 12).bind fun b=>
  ((if(!b)=true then
   some true
  else
   (nD A A 12).bind fun Y=>
   some (!Y)):Option Bool).bind fun m1=>
  ((if m1=true then
   some true
  else
   (mG D B G).bind fun X=>
   some (!X)):Option Bool).bind fun m2=>
  ((if m2=true then
   some true
  else
   (mG B A F).bind fun W=>
   some (!W)):Option Bool).bind fun m3=>
  if m3=true then
   some true
  else
   (qR G F).bind fun H=>
   (qV D B G).bind fun V=>
   (qV B A F).bind fun U=>
   (qV D A H).bind fun S=>
   (mG D A H).bind fun M=>
   ((if(((M&&(decide (V.2=0)))&&(decide (U.2=0)))&&(decide (S.2=0)))=true then
    (inK .i64 (V.1+U.1)).bind fun K=>
    some (decide (S.1≤K))
   else
    some false):Option Bool).bind fun m4=>
   ((if m4=true then
    (lX G F).bind fun J=>
    (kR H J).bind fun I=>
    some I
   else
    some false):Option Bool).bind fun m5=>
   some m5
class Rep1 (α:Type) [Rep α]:Prop where
 one:∀{ρ:PH} {a:α} {cs:List Value},Rep.ok ρ a cs→∀v∈cs,v.oneCell'=true
 pos:0<Rep.sz α
def pM {α:Type} [Rep α] (T:TypeId) (v:Value) (l:List α) (xs:List Value):bP:=Row T (Rep.sz α) v l.length xs
section
variable {α:Type} [Rep α] {ρ ρ':PH} {l m:List α} {xs ys:List Value}
theorem gU.nil:gU ρ ([]:List α) []:=rfl
theorem gU.mono (h:ρ.le ρ'):∀{l:List α} {xs:List Value},gU ρ l xs→gU ρ' l xs
 | [],_,e=>e
 |a::l,_,⟨c,r,e,A,hr⟩=>⟨c,r,e,Rep.mono h A,gU.mono h hr⟩
theorem gU.len:∀{l:List α} {xs:List Value},gU ρ l xs→xs.length=l.length*Rep.sz α
 | [],_,e=>by rw[e];simp
 |a::l,_,⟨c,r,e,A,hr⟩=>by
  rw[e,uR,Rep.len A,gU.len hr,zP,Nat.add_mul];omega
theorem gU.app:∀{l:List α} {xs:List Value},gU ρ l xs→gU ρ m ys→gU ρ (l++m) (xs++ys)
 | [],_,e,h=>by rw[e];exact h
 |a::l,_,⟨c,r,e,A,hr⟩,h=>⟨c,r++ys,by rw[e,vB],A,gU.app hr h⟩
theorem gU.one1 [Rep1 α]:∀{l:List α} {xs:List Value},gU ρ l xs→∀v∈xs,v.oneCell'=true
 | [],_,e,v,hv=>by rw[e] at hv;simp at hv
 |a::l,_,⟨c,r,e,A,hr⟩,v,hv=>by
  rw[e,List.mem_append] at hv
  rcases hv with hv|hv
  ·exact Rep1.one A v hv
  exact gU.one1 hr v hv
theorem gU.set:∀{l:List α} {xs:List Value} (i:Nat) {a:α} {cs:List Value},gU ρ l xs→i<l.length→Rep.ok ρ a cs→gU ρ (l.set i a) (xs.take (i*Rep.sz α)++cs++xs.drop ((i+1)*Rep.sz α))
 |b::l,_,0,a,cs,⟨c,r,e,A,hr⟩,_,ha=>by
  rw[e,Nat.zero_mul,List.take_zero,List.nil_append,Nat.zero_add,Nat.one_mul,←Rep.len A,List.drop_left,List.set_cons_zero]
  exact⟨cs,r,O,ha,hr⟩
 |b::l,_,i+1,a,cs,⟨c,r,e,A,hr⟩,hi,ha=>by
  have:=gU.set i hr (by simpa using hi) ha
  have hl:=Rep.len A
  rw[e,List.set_cons_succ,Nat.add_mul,Nat.one_mul,show i*Rep.sz α+Rep.sz α=c.length+i*Rep.sz α by omega,List.take_append,wA (by omega),Nat.add_sub_cancel_left,
   show(i+1+1)*Rep.sz α=c.length+(i+1)*Rep.sz α by rw[Nat.add_mul (i+1)];omega,List.drop_append,List.drop_of_length_le (by omega),List.nil_append,Nat.add_sub_cancel_left]
  exact⟨c,_,by simp only[vB],A,this⟩
end
section
variable {α:Type} [Rep α] {Rn:Option Nat} {P:Program} {Z:World} {ρ:PH} {L:List bP} {w:World} {T El:TypeId} {v:Value} {l:List α} {xs:List Value}
theorem pM.nil (T:TypeId):pM T (.slice none 0 0) ([]:List α) [] PH.emp:=Row.nil T _ none
theorem pM.len {sz bytes:Nat} (B:Hp Z ρ L w) (k:Nat) (hk:L[k]?=some (pM El v l xs)) (ht:SlTy P T El sz bytes) (w':World) (ty:TypeId):(Builtin.len_ #[T] ty #[v]).run P w'= .ok (.int .i64 l.length) w':=by
 rcases(B.get k hk).row.2 with⟨A,rfl,hn⟩|⟨g,off,cap,cur,rfl,_,_⟩
 ·rw[hn];exact pW ht A 0 0 w' ty
 exact pW ht _ _ cap w' ty
theorem pM.cells (B:Hp Z ρ L w) (k:Nat) (hk:L[k]?=some (pM El v l xs)):v.cells= #[v]:=by
 rcases(B.get k hk).row.2 with⟨A,rfl,_⟩|⟨g,off,cap,cur,rfl,_⟩<;>rfl
theorem pM.one (B:Hp Z ρ L w) (k:Nat) (hk:L[k]?=some (pM El v l xs)):v.oneCell'=true:=by
 rcases(B.get k hk).row.2 with⟨A,rfl,_⟩|⟨g,off,cap,cur,rfl,_⟩<;>rfl
theorem pM.ro {k:PH} (d:ρ.dj k) (h:pM T v l xs k) (F:gU ρ l xs):aH (ρ.un k) v l:=by
 obtain⟨hxl,h⟩:=h
 rcases h with⟨A,rfl,hn⟩|⟨g,off,cap,cur,rfl,rfl,h1,h2,h3,h4⟩
 ·obtain rfl:=wD hn
  exact⟨A,0,O,yW _,fun i a h=>by simp at h⟩
 refine⟨some ⟨g,off,none⟩,cap,O,h1,fun i a hi=>?_⟩
 obtain⟨c,D,hg⟩:=F.get i a hi
 refine⟨g,off,c,O,Rep.mono (PH.le_un _ _) D,fun j u B=>?_⟩
 have hb:(ρ.un (PH.one g (.cells cur T (0,0)))) g=some (.cells cur T (0,0)):=PH.le_un_r d g _ (by simp[PH.one])
 unfold cellAt
 rw[hb]
 simp only
 have hf:=hg j u B
 rw[←h4,wN] at hf
 split at hf
 ·rw[xT,←Nat.add_assoc] at hf
  rw[←Array.getElem?_toList]
  exact hf
 cases hf
theorem pM.at {bytes:Nat} (B:Hp Z ρ L w) (k:Nat) (hk:L[k]?=some (pM El v l xs)) (G:gU ρ l xs) (ht:SlTy P T El (Rep.sz α) bytes) {i:Int} {e:α} (hi:idx l i=some e):
  ∃g off cs,(∀w,(Instr.indexAt T v (.int .i64 i)).run P w= .ok (.pointer (some ⟨g,off,none⟩)) w)∧(∃of0 cap,v= .slice (some ⟨g,of0,none⟩) l.length cap∧off=of0+i.toNat*Rep.sz α)∧Rep.ok ρ e cs∧∀(j:Nat) (u:Value),cs[j]?=some u→∀ρ' L' w,Hp Z ρ' (pM El v l xs::L') w→w.cell? ⟨g,off+j,none⟩=some u:=by
 obtain⟨i0,i1,i2⟩:=oJ hi
 rcases(B.get k hk).row.2 with⟨_,_,hn⟩|⟨g,of0,cap,cur,rfl,_,_⟩
 ·omega
 obtain⟨c,F,hg⟩:=G.get i.toNat e i2
 refine⟨g,of0+i.toNat*Rep.sz α,c,fun w=>run_index ht g of0 _ cap i0 i1 w,⟨of0,cap,O,O⟩,F,fun j u D ρ' L' w' hw'=>?_⟩
 rcases hw'.row.2 with⟨A,hA,hn⟩|⟨g',of1,cap',cur',e2,hpt,h2,h3,h4,h5⟩
 ·omega
 simp only[Value.slice.injEq,vR,Addr.mk.injEq,and_true,true_and] at e2
 obtain⟨⟨rfl,rfl⟩,rfl⟩:=e2
 have hlook:=hpt.look 0 O
 have hf:=hg j u D
 rw[←h5,wN] at hf
 split at hf
 ·rw[xT,←Nat.add_assoc] at hf
  simp[World.cell?,hlook,←Array.getElem?_toList,hf]
 cases hf
end
section
variable {α:Type} [Rep α] {ρ:PH}
end
section
variable {α:Type} [Rep α] [Rep1 α] {Rn:Option Nat} {P:Program} {ops:Array Oper} {Q:Exit→Act→World→Prop} {rest:List Oper} {o:Oper} {a:Act} {w:World} {Df:List Deferred} {N:Nat} {E:Ent} {d:Nat} {Z:World} {ρ:PH} {L:List bP}
theorem s_appR (wk:Region.wanted o (yielded ops a.tmps)=true) (hd:o.dst=some d) (hN:Nat.blt d N=true) (B:EnvD Df N E a) (G:Hp Z ρ L w) {x y:Operand} {t:TypeId} (H:o.op= .call {callee:= .builtin .append,args:= #[x,y],argTypes:= #[t,t] }) {El:TypeId} {bytes:Nat} (ht:SlTy P t El (Rep.sz α) bytes) (hby:Nat.ble bytes 16384=true)
  {v:Value} (F:evo E x=some v) (i:Nat) {l:List α} {xs:List Value} (hi:L[i]?=some (pM El v l xs)) {b off m c:Nat} (hy:evo E y=some (.slice (some ⟨b,off,none⟩) m c)) {l2 r:List α} {ys:List Value} (D:l2.length=m) (hR2:gU ρ l2 ys) (hn:∀j u,ys[j]?=some u→w.cell? ⟨b,off+j,none⟩=some u) (hr:app l l2=some r)
  (K:∀v' a w,EnvD Df N ((d,v')::E) a→Hp Z ρ (L.set i (pM El v' r (xs++ys))) w→wpL Rn P ops Q rest a w):wpL Rn P ops Q (o::rest) a w:=by
 obtain⟨hlen,rfl⟩:=H8 hr
 have hby':bytes≤16384:=by simpa using hby
 have J:(l.length+m)*bytes≤4294967296*16384:=Nat.mul_le_mul (by omega) hby'
 obtain⟨v',w',hrun,hp'⟩:=run_app (P:=P) ht Rep1.pos o.type (G.get i hi) ⟨b,off,none⟩ m c ys (by rw[hR2.len,D]) (fun j u I=>by rw[Addr.add_lit];exact hn j u I) hR2.one1 (by unfold maxLen;omega) (by omega)
 refine xO wk hd hN B (v:=v') (w':=w') ?_ fun a' hE'=>K v' a' w' hE' ?_
 ·simp only[execOp,H,resolve,invoke,builtin,Sem.run_bind,Sem.run_pure,Result.andThen_ok,List.map_toArray,List.map_cons,List.map_nil,B.eval F,B.eval hy,hrun]
 refine Hp.put i (E5 (A:=pM El v l xs) (_B:=pM El v l xs) hi).2 ?_
 unfold pM
 rw[uR,D]
 exact hp'
theorem s_stelR (wk:Region.wanted o (yielded ops a.tmps)=true) (hd:o.dst=none) (B:EnvD Df N E a) (G:Hp Z ρ L w) {T:TypeId} {x y:Operand} (H:o.op= .store T x y) {g off off':Nat} (F:evo E x=some (.pointer (some ⟨g,off',none⟩))) {u:Value} (hy:evo E y=some u) (k:Nat) {El:TypeId} {v:Value} {l:List α} {xs:List Value} (hk:L[k]?=some (pM El v l xs))
  (D:gU ρ l xs) {i:Int} {e e':α} (hi:idx l i=some e) (hv:∃of0 cap,v= .slice (some ⟨g,of0,none⟩) l.length cap∧off=of0+i.toNat*Rep.sz α) (j:Nat) {us cs:List Value} (ht:∀w,(sizeOf T).run P w= .ok us.length w) (hoff:off'=off+j) (I:u.cells=us.toArray) (hcs:Rep.ok ρ e cs) (hgc:∀(q:Nat) (z:Value),cs[q]?=some z→w.cell? ⟨g,off+q,none⟩=some z)
  (hok:Rep.ok ρ e' (cs.take j++us++cs.drop (j+us.length))) (hju0:Nat.ble (j+us.length) (Rep.sz α)=true)
  (K:∀w xs',gU ρ (l.set i.toNat e') xs'→Hp Z ρ (L.set k (pM El v (l.set i.toNat e') xs')) w→wpL Rn P ops Q rest a w):wpL Rn P ops Q (o::rest) a w:=by
 subst hoff
 obtain⟨of0,cap,rfl,rfl⟩:=hv
 obtain⟨i0,i1,i2⟩:=oJ hi
 have hlt:=(E5 (A:=pM El (.slice (some ⟨g,of0,none⟩) l.length cap) l xs) (_B:=pM El (.slice (some ⟨g,of0,none⟩) l.length cap) l xs) hk).2
 have hll:=D.len
 have hcl:=Rep.len hcs
 have hkl:=Rep.len hok
 rw[uR,uR,vL,List.length_drop] at hkl
 have hju:j+us.length≤Rep.sz α:=by simpa using hju0
 rcases(G.get k hk).row.2 with⟨_,_,hn⟩|⟨g',of1,cap',cur,e2,hpt,h2,h3,h4,h5⟩
 ·omega
 simp only[Value.slice.injEq,vR,Addr.mk.injEq,and_true,true_and] at e2
 obtain⟨⟨rfl,rfl⟩,rfl⟩:=e2
 have hg:=hpt.look 0 O
 have hpos:(i.toNat+1)*Rep.sz α≤l.length*Rep.sz α:=xV _ (by omega)
 have hle:l.length*Rep.sz α≤cap*Rep.sz α:=xV _ h2
 rw[Nat.add_mul,Nat.one_mul] at hpos
 generalize hiz:i.toNat*Rep.sz α=iz at*
 have one1:∀z∈us,z.oneCell'=true:=fun z hz=>Rep1.one hok z (by simp[hz])
 have r1:=run_storeCells_at P g (of0+iz+j) El us 0 cur w hg (by omega) one1
 simp only[Nat.add_zero] at r1
 refine s_unit wk hd B (w':=w.setRow g (cur.toList.take (of0+iz+j)++us++cur.toList.drop (of0+iz+j+us.length)).toArray) ?_ (K _ (xs.take iz++(cs.take j++us++cs.drop (j+us.length))++xs.drop (iz+Rep.sz α)) ?_ ?_)
 ·simp[execOp,H,B.eval F,B.eval hy,Instr.storeAt,Instr.sureAddr,storeVar,ht w,I,r1]
 ·have:=D.set i.toNat (a:=e') (by omega) hok
  rw[Nat.add_mul,Nat.one_mul,hiz] at this
  exact this
 have hseg:cs=(xs.drop iz).take (Rep.sz α):=by
  apply List.ext_getElem?
  intro q
  rcases xS q (Rep.sz α) with hq|hq
  ·obtain⟨z,hz⟩:∃z,cs[q]?=some z:=⟨_,vA (by omega)⟩
   have hz2:=hgc q z hz
   rw[hz,wN,if_pos hq,xT,←h5,wN,if_pos (by omega),xT,Array.getElem?_toList]
   simp only[World.cell?,hg] at hz2
   simp at hz2
   rw[show of0+(iz+q)=of0+iz+q by omega]
   exact hz2.symm
  rw[List.getElem?_eq_none (by omega),wN,if_neg (by omega)]
 refine Hp.put k hlt ?_
 have hq:=(Hp.set (w':=w.setRow g (cur.toList.take (of0+iz+j)++us++cur.toList.drop (of0+iz+j+us.length)).toArray) hpt O O O (setRow_heap w g cur _ El _ hg) (fun k hk=>setRow_other w g k _ hk)).shutO (off:=of0) (n:=l.length) (cap:=cap) (sz:=Rep.sz α) (xs:=xs.take iz++(cs.take j++us++cs.drop (j+us.length))++xs.drop (iz+Rep.sz α)) h2 h3 (by
   simp only[List.size_toArray,uR,vL,List.length_drop,Array.length_toList];omega) (by
   rw[List.toList_toArray]
   have hlenx:(xs.take iz++(cs.take j++us++cs.drop (j+us.length))++xs.drop (iz+Rep.sz α)).length=l.length*Rep.sz α:=by
    simp only[uR,vL,List.length_drop];omega
   apply List.ext_getElem?
   intro q
   rcases xS q (l.length*Rep.sz α) with hq|hq
   ·have hx5:∀q,q<l.length*Rep.sz α→xs[q]?=cur.toList[of0+q]?:=fun q hq=>by
     rw[←h5,wN,if_pos hq,xT]
    have hcq:∀q,q<Rep.sz α→cs[q]?=cur.toList[of0+iz+q]?:=fun q hq=>by
     rw[hseg,wN,if_pos hq,xT,hx5 _ (by omega)]
     congr 1;omega
    rw[wN,if_pos hq,xT]
    have t1:(cur.toList.take (of0+iz+j)).length=of0+iz+j:=by rw[vL,Array.length_toList];omega
    have t2:(xs.take iz).length=iz:=by rw[vL];omega
    have t3:(cs.take j).length=j:=by rw[vL];omega
    have t4:(cs.take j++us++cs.drop (j+us.length)).length=Rep.sz α:=by simp only[uR,vL,List.length_drop];omega
    simp only[vB] at t4⊢
    rcases xS q iz with c1|c1
    ·rw[vQ (by omega),wN,if_pos (by omega),vQ (by omega),wN,if_pos c1,hx5 q hq]
    rw[vD (l₁:=xs.take iz) (by omega),t2]
    rcases xS q (iz+j) with c2|c2
    ·rw[vQ (by omega),wN,if_pos (by omega),vQ (by omega),wN,if_pos (by omega),hcq _ (by omega)]
     congr 1;omega
    rw[vD (l₁:=cur.toList.take (of0+iz+j)) (by omega),t1,vD (l₁:=cs.take j) (by omega),t3]
    rcases xS q (iz+j+us.length) with c3|c3
    ·rw[vQ (by omega),vQ (by omega)]
     congr 1;omega
    rw[vD (l₁:=us) (by omega),vD (l₁:=us) (by omega),xT]
    rcases xS q (iz+Rep.sz α) with c4|c4
    ·rw[vQ (by rw[List.length_drop];omega),xT,hcq _ (by omega)]
     congr 1;omega
    rw[vD (by rw[List.length_drop];omega),xT,List.length_drop,hx5 _ (by omega)]
    congr 1;omega
   rw[List.getElem?_eq_none (by rw[vL];omega),List.getElem?_eq_none (by rw[hlenx];exact hq)])
 unfold pM
 rw[List.length_set]
 exact hq
end
instance rep1Enc {α:Type} [Enc α]:Rep1 α:=⟨fun h v hv=>by
 have h':_=Enc.enc _:=h
 rw[h'] at hv;exact Enc.one _ v hv,Enc.pos⟩
instance rep1Node:Rep1 Node:=⟨fun{ρ a cs} h v hv=>by
 obtain⟨u,rfl,hu⟩:=NodeAt.opens (show NodeAt ρ a cs from h)
 have h1:=aH.one hu
 simp only[List.mem_cons,List.not_mem_nil,or_false] at hv
 rcases hv with rfl|rfl|rfl|rfl|rfl<;>first|rfl|exact h1,by decide⟩
open Vl (vl)
open Go.ChangeMaps (setBlock)
instance vlSl:Vl Sl:=⟨fun s=>s.v⟩
def mset {κ β:Type} [DecidableEq κ] (l:List (κ×β)) (k:κ) (v:β):List (κ×β):=if mhas l k then zY l k v else l
section
variable {κ β:Type} [DecidableEq κ]
theorem mhas_iff {l:List (κ×β)} {k:κ}:mhas l k=true↔k∈l.map (·.1):=by
 unfold mhas jS
 rw[Option.isSome_map,List.find?_isSome]
 simp
theorem mget_mem {l:List (κ×β)} (hn:(l.map (·.1)).Nodup) {k:κ} {v:β} (h:(k,v)∈l):jS l k=some v:=by
 obtain⟨j,A⟩:=List.getElem?_of_mem h
 exact mget_at hn A
theorem E8 {l:List (κ×β)} (hn:(l.map (·.1)).Nodup) {k:κ} {j:Nat} (h:(l.map (·.1))[j]?=some k):l.filter (fun p=> !decide (p.1=k))=l.eraseIdx j:=by
 induction l generalizing j with
 |nil=>simp at h
 |cons p l ih=>
  rw[List.map_cons,List.nodup_cons] at hn
  cases j with
  |zero=>
   simp at h
   rw[List.filter_cons_of_neg (by simp[h]),List.eraseIdx_cons_zero]
   refine List.filter_eq_self.2 fun q hq=>?_
   simp only[Bool.not_eq_true',decide_eq_false_iff_not]
   intro e
   exact hn.1 (by rw[h,←e];exact List.mem_map_of_mem hq)
  |succ j=>
   simp only[List.map_cons,List.getElem?_cons_succ] at h
   have hne:¬p.1=k:=fun e=>hn.1 (by rw[e];exact vE h)
   rw[List.filter_cons_of_pos (by simp[hne]),ih hn.2 h];rfl
theorem filter_all {l:List (κ×β)} {k:κ} (h:k∉l.map (·.1)):l.filter (fun p=> !decide (p.1=k))=l:=by
 refine List.filter_eq_self.2 fun q hq=>?_
 simp only[Bool.not_eq_true',decide_eq_false_iff_not]
 intro e
 exact h (by rw[←e];exact List.mem_map_of_mem hq)
theorem aC2 {l:List (κ×β)} (hn:(l.map (·.1)).Nodup) {k:κ} {j:Nat} (h:(l.map (·.1))[j]?=some k):∃v,l[j]?=some (k,v)∧jS l k=some v:=by
 rw[wT] at h
 obtain⟨p,A,rfl⟩:=Option.map_eq_some_iff.1 h
 exact⟨p.2,A,mget_at hn A⟩
theorem map_eraseIdx {γ δ:Type} (f:γ→δ) (l:List γ) (i:Nat):(l.eraseIdx i).map f=(l.map f).eraseIdx i:=map_erase f l i
theorem mput_keys_eq {l:List (κ×β)} {γ:Type} {m:List (κ×γ)} (h:l.map (·.1)=m.map (·.1)) (k:κ) (v:β) (u:γ):(zY l k v).map (·.1)=(zY m k u).map (·.1):=by
 rw[F8,F8,h]
theorem mput_nodup {l:List (κ×β)} (h:(l.map (·.1)).Nodup) (k:κ) (v:β):((zY l k v).map (·.1)).Nodup:=by
 rw[F8]
 split
 ·exact h
 rename_i hk
 rw[List.nodup_append]
 refine⟨h,by simp,fun a ha b hb=>?_⟩
 rw[List.mem_singleton.1 hb]
 intro e;exact hk (e▸ha)
end
section
variable {κ α:Type} [DecidableEq κ] [Enc α]
def RowsM (Ti:TypeId) (us:List (κ×Sl)) (l:List (κ×List α)):bP:=fun h=>iH Ti (us.map Prod.snd) (l.map Prod.snd) h∧us.map (·.1)=l.map (·.1)∧(us.map (·.1)).Nodup
def RowsX (Ti:TypeId) (us:List (κ×Sl)) (l:List (κ×List α)) (k:κ):bP:=fun h=>iH Ti ((us.filter fun p=> !decide (p.1=k)).map Prod.snd) ((l.filter fun p=> !decide (p.1=k)).map Prod.snd) h∧us.map (·.1)=l.map (·.1)∧(us.map (·.1)).Nodup
omit [DecidableEq κ] in
theorem RowsM.nil (Ti:TypeId):RowsM Ti ([]:List (κ×Sl)) ([]:List (κ×List α)) PH.emp:=⟨O,O,by simp⟩
def aB0 (ρ:PH) (us:List (κ×Sl)) (l:List (κ×List α)):Prop:=us.map (·.1)=l.map (·.1)∧(us.map (·.1)).Nodup∧∀k,aH ρ ((jS us k).getD Sl.nil).v ((jS l k).getD [])
variable {Z:World} {ρ:PH} {L:List bP} {w:World} {Ti:TypeId} {us:List (κ×Sl)} {l:List (κ×List α)} {k:κ} {v:Value}
omit [DecidableEq κ] in
theorem RowsM.keys (h:Hp Z ρ (RowsM Ti us l::L) w):us.map (·.1)=l.map (·.1):=(Hp.fact (A:=iH Ti (us.map Prod.snd) (l.map Prod.snd)) h).2.1
omit [DecidableEq κ] [Enc α] in
theorem Hp.addFact {A:bP} {p:Prop} (h:Hp Z ρ (A::L) w) (B:p):Hp Z ρ ((fun k=>A k∧p)::L) w:=h.imp fun _ a=>⟨a,B⟩
theorem RowsM.take (h:Hp Z ρ (RowsM Ti us l::L) w) (k:κ):Hp Z ρ (aF Ti ((jS us k).getD Sl.nil).v ((jS l k).getD [])::RowsX Ti us l k::L) w:=by
 obtain⟨hr,hk,hn⟩:=Hp.fact (A:=iH Ti (us.map Prod.snd) (l.map Prod.snd)) h
 have hn2:(l.map (·.1)).Nodup:=hk▸hn
 have done:Hp Z ρ (aF Ti ((jS us k).getD Sl.nil).v ((jS l k).getD [])::iH Ti ((us.filter fun p=> !decide (p.1=k)).map Prod.snd) ((l.filter fun p=> !decide (p.1=k)).map Prod.snd)::L) w:=by
  by_cases B:k∈us.map (·.1)
  ·obtain⟨j,D⟩:=List.getElem?_of_mem B
   obtain⟨u,hu,hu2⟩:=aC2 hn D
   have hj2:(l.map (·.1))[j]?=some k:=hk▸D
   obtain⟨r,hr1,hr2⟩:=aC2 hn2 hj2
   rw[hu2,hr2,E8 hn D,E8 hn2 hj2,map_eraseIdx,map_eraseIdx]
   exact hr.to fun s=>(iH.take j (by rw[wT,hu];rfl) (by rw[wT,hr1];rfl)).1 s
  rw[V9 B,V9 (hk▸B),filter_all B,filter_all (hk▸B)]
  exact hr.emp (aF.nil Ti)
 exact(((done.get 1 O).addFact ⟨hk,hn⟩).get 1 O)
theorem RowsX.put {s:Sl} {v:Value} (he:s.v=v) {r:List α} (h:Hp Z ρ (aF Ti v r::RowsX Ti us l k::L) w):Hp Z ρ (RowsM Ti (zY us k s) (zY l k r)::L) w:=by
 subst he
 obtain⟨h1,hk,hn⟩:=Hp.fact (A:=iH Ti ((us.filter fun p=> !decide (p.1=k)).map Prod.snd) ((l.filter fun p=> !decide (p.1=k)).map Prod.snd)) (h.get 1 O)
 have hr:=h1.get 1 O
 have hn2:(l.map (·.1)).Nodup:=hk▸hn
 refine Hp.addFact ?_ ⟨mput_keys_eq hk k s r,mput_nodup hn k s⟩
 by_cases B:k∈us.map (·.1)
 ·obtain⟨j,G⟩:=List.getElem?_of_mem B
  have hj2:(l.map (·.1))[j]?=some k:=hk▸G
  have F:=(uL.1 G).1
  have D:=(uL.1 hj2).1
  rw[List.length_map] at F D
  rw[mput_at hn G,mput_at hn2 hj2]
  rw[E8 hn G,E8 hn2 hj2,map_eraseIdx,map_eraseIdx] at hr
  refine hr.to fun t=>(iH.take j (u:=s) (r:=r) (by rw[List.map_set,xL (by simpa using F)]) (by rw[List.map_set,xL (by simpa using D)])).2 ?_
  rw[List.map_set,List.map_set,List.eraseIdx_set_eq,List.eraseIdx_set_eq]
  exact t
 rw[mput_new B,mput_new (hk▸B),List.map_append,List.map_append]
 rw[filter_all B,filter_all (hk▸B)] at hr
 exact hr.to fun t=>iH.snoc t
theorem RowsX.back {v:Value} (he:((jS us k).getD Sl.nil).v=v) {r:List α} (h:Hp Z ρ (aF Ti v r::RowsX Ti us l k::L) w):Hp Z ρ (RowsM Ti us (mset l k r)::L) w:=by
 subst he
 obtain⟨h1,hk,hn⟩:=Hp.fact (A:=iH Ti ((us.filter fun p=> !decide (p.1=k)).map Prod.snd) ((l.filter fun p=> !decide (p.1=k)).map Prod.snd)) (h.get 1 O)
 have hr:=h1.get 1 O
 have hn2:(l.map (·.1)).Nodup:=hk▸hn
 unfold mset
 by_cases B:k∈us.map (·.1)
 ·rw[if_pos (mhas_iff.2 (hk▸B))]
  refine Hp.addFact ?_ ⟨by rw[F8,if_pos (hk▸B)];exact hk,hn⟩
  obtain⟨j,F⟩:=List.getElem?_of_mem B
  have hj2:(l.map (·.1))[j]?=some k:=hk▸F
  obtain⟨u,hu,hu2⟩:=aC2 hn F
  have D:=(uL.1 hj2).1
  rw[List.length_map] at D
  rw[mput_at hn2 hj2]
  rw[hu2,E8 hn F,E8 hn2 hj2,map_eraseIdx,map_eraseIdx] at hr
  refine hr.to fun t=>(iH.take j (u:=u) (r:=r) (by rw[wT,hu];rfl) (by rw[List.map_set,xL (by simpa using D)])).2 ?_
  rw[List.map_set,List.eraseIdx_set_eq]
  exact t
 rw[if_neg (fun h=>B (hk▸mhas_iff.1 h))]
 refine Hp.addFact ?_ ⟨hk,hn⟩
 rw[filter_all B,filter_all (hk▸B)] at hr
 exact hr.drop
theorem RowsM.ro {h:PH} (d:ρ.dj h) (a:RowsM Ti us l h):aB0 (ρ.un h) us l:=by
 obtain⟨hr,hk,hn⟩:=a
 have hn2:(l.map (·.1)).Nodup:=hk▸hn
 refine⟨hk,hn,fun k=>?_⟩
 by_cases A:k∈us.map (·.1)
 ·obtain⟨j,B⟩:=List.getElem?_of_mem A
  obtain⟨u,hu,hu2⟩:=aC2 hn B
  obtain⟨r,hr1,hr2⟩:=aC2 hn2 (hk▸B:(l.map (·.1))[j]?=some k)
  rw[hu2,hr2]
  obtain⟨k',h4,h5⟩:=iH.at_ j hr (by rw[wT,hu];rfl) (by rw[wT,hr1];rfl)
  have h6:aH (PH.emp.un k') u.v r:=aF.ro (PH.dj_emp k').symm h4
  exact h6.mono (by
   have:PH.emp.un k'=k':=by funext x;rfl
   rw[this];exact h5.tr (PH.le_un_r d))
 rw[V9 A,V9 (hk▸A)]
 exact aH.nil _
theorem aB0.mono {ρ':PH} (h:aB0 ρ us l) (A:ρ.le ρ'):aB0 ρ' us l:=⟨h.1,h.2.1,fun k=>(h.2.2 k).mono A⟩
theorem aB0.get (h:aB0 ρ us l) (k:κ):∃v,((jS us k).getD Sl.nil).v=v∧aH ρ v ((jS l k).getD []):=⟨_,O,h.2.2 k⟩
theorem aB0.at_ (h:aB0 ρ us l) {u:Sl} (A:(k,u)∈us):aH ρ (vl u) ((jS l k).getD []):=by
 have:=h.2.2 k
 rw[mget_mem h.2.1 A] at this
 exact this
end
section
variable {Rn:Option Nat} {P:Program} {ops:Array Oper} {Q:Exit→Act→World→Prop} {rest:List Oper} {o:Oper} {a:Act} {w:World} {Df:List Deferred} {N:Nat} {E:Ent} {d:Nat} {Z:World} {ρ:PH} {L:List bP}
variable {κ β:Type} [Vl κ] [Vl β]
theorem MapIt.sub {b r:Nat} {l rem:List (κ×β)} {cur:Option (κ×β)} (h:Hp Z ρ (MapIt b r l rem cur::L) w):rem.Sublist l:=by
 obtain⟨es,clock,since,seen,last,_,_,_,_,_,_,h5,_⟩:=h.it
 exact h5
variable [DecidableEq κ]
end
section
variable {Rn:Option Nat} {P:Program} {ops:Array Oper} {Q:Exit→Act→World→Prop} {rest:List Oper} {o:Oper} {a:Act} {w:World} {Df:List Deferred} {N:Nat} {E:Ent} {d:Nat} {Z:World} {ρ:PH} {L:List bP} {C:World→Prop}
variable {α:Type} [Enc α] {T Ti To Tr:TypeId} {v:Value} {us:List Sl} {l:List (List α)} {bytes:Nat}
theorem ex_nil {x:Operand} (B:o.op= .nilCheck x) (D:EnvD Df N E a) {p:Addr} (A:evo E x=some (.pointer (some p))):Ex P C a o (.pointer (some p)):=fun w _=>by
 simp[execOp,B,D.eval A]
theorem iH.app:∀{us us2:List Sl} {l l2:List (List α)} {ρ h:PH} {L:List bP},Sep ρ (iH Ti us2 l2::iH Ti us l::L) h→Sep ρ (iH Ti (us++us2) (l++l2)::L) h
 | [],us2,[],l2,ρ,h,L,hs=>Sep.cons_mono (fun ρ h s=>Sep.emp1.1 s) hs
 | [],_,_::_,_,_,_,_,hs=>by obtain⟨_,_,_,k,a,_⟩:=hs;exact a.elim
 |_::_,_,[],_,_,_,_,hs=>by obtain⟨_,_,_,k,a,_⟩:=hs;exact a.elim
 |u::us,us2,r::l,l2,ρ,h,L,hs=>
  Sep.two.2 (Sep.cons_mono (fun ρ h s=>iH.app s) (Sep.swap (Sep.cons_mono (fun ρ h s=>Sep.two.1 s) hs) |> fun s=>Sep.cons_mono (fun ρ h s=>s) s))
end
section
variable {Rn:Option Nat} {P:Program} {fn:Func} {R:Ending→World→Prop} {a:Act} {w:World} {Df:List Deferred} {N:Nat} {E:Ent}
end
def RoFull {α:Type} [Rep α] (ρ:PH) (v:Value) (l:List α):Prop:=aH ρ v l∧∃A,v= .slice A l.length l.length
theorem RoFull.mono {α:Type} [Rep α] {ρ ρ':PH} {v:Value} {l:List α} (h:RoFull ρ v l) (A:ρ.le ρ'):RoFull ρ' v l:=⟨h.1.mono A,h.2⟩
section
variable {P:Program} {o:Oper} {a:Act} {C:World→Prop} {Df:List Deferred} {N:Nat} {E:Ent}
end
section
variable {α:Type} [Rep α] [Rep1 α] {Rn:Option Nat} {P:Program} {ops:Array Oper} {Q:Exit→Act→World→Prop} {rest:List Oper} {o:Oper} {a:Act} {w:World} {Df:List Deferred} {N:Nat} {E:Ent} {d:Nat} {Z:World} {ρ:PH} {L:List bP}
end
instance rep1List {α:Type} [Rep α]:Rep1 (List α):=⟨fun h v hv=>by
 obtain⟨u,rfl,h⟩:=h
 rw[List.mem_singleton.1 hv];exact h.one,Nat.one_pos⟩
section
variable {Rn:Option Nat} {P:Program} {ops:Array Oper} {Q:Exit→Act→World→Prop} {rest:List Oper} {o:Oper} {a:Act} {w:World} {Df:List Deferred} {N:Nat} {E:Ent} {d:Nat} {Z:World} {ρ:PH} {L:List bP}
variable {α:Type} [Enc α] {T El:TypeId} {bytes:Nat} {v:Value} {l r:List α}
theorem aF.view (A:Hp Z ρ L w) (k:Nat) (hk:L[k]?=some (aF El v l)) (ht:SlTy P T El (Enc.sz α) bytes) (lo hi:Option (IntKind×Int)) {i j:Int} (hlo:i=match lo with|none=>0|some p=>p.2) (hhi:j=match hi with|none=>(l.length:Int)|some p=>p.2) (hr:sub l i j=some r):
  ∃v',∀w,(Instr.sliceAt T v (lo.map fun p=> .int p.1 p.2) (hi.map fun p=> .int p.1 p.2) none).run P w= .ok v' w:=by
 obtain⟨κ,ha,hd,_⟩:=(A.get k hk).lend
 obtain⟨v',h,_⟩:=aH.part (aF.ro hd ha) ht lo hi hlo hhi hr
 exact⟨v',h⟩
omit [Enc α] in
theorem dO [Rep α] (w:World) {x y:Option Value} {v1 v2:Value} (h1:∀w,(Instr.sliceAt T v x y none).run P w= .ok v1 w) (h2:∀w,(Instr.sliceAt T v x y none).run P w= .ok v2 w) (h:aH ρ v1 l):aH ρ v2 l:=by
 have:=(h1 w).symm.trans (h2 w)
 injection this with e
 exact e▸h
theorem repAll_flat:∀(l:List α),gU ρ l (flat l)
 | []=>rfl
 |a::l=>⟨Enc.enc a,flat l,by simp[flat],rfl,repAll_flat l⟩
theorem repAll_eq:∀{l:List α} {xs:List Value},gU ρ l xs→xs=flat l
 | [],_,e=>e
 |a::l,_,⟨c,r,e,A,hr⟩=>by
  have hc':c=Enc.enc a:=A
  rw[e,hc',repAll_eq hr];simp[flat]
theorem yZ (wk:Region.wanted o (yielded ops a.tmps)=true) (hd:o.dst=none) (I:EnvD Df N E a) (D:Hp Z ρ L w) {x y:Operand} (F:o.op= .store T x y) {g off:Nat} (B:evo E x=some (.pointer (some ⟨g,off,none⟩))) {u:Value} (hy:evo E y=some u) (k:Nat) (hk:L[k]?=some (aF El v l))
  {i:Int} {e:α} (hi:idx l i=some e) (hv:∃of0 cap,v= .slice (some ⟨g,of0,none⟩) l.length cap∧off=of0+i.toNat*Enc.sz α) {e':α} (ht:∀w,(sizeOf T).run P w= .ok (Enc.enc e').length w) (G:u.cells=(Enc.enc e').toArray) (hgc:∀(q:Nat) (z:Value),(Enc.enc e)[q]?=some z→w.cell? ⟨g,off+q,none⟩=some z)
  (K:∀w,Hp Z ρ (L.set k (aF El v (l.set i.toNat e'))) w→wpL Rn P ops Q rest a w):wpL Rn P ops Q (o::rest) a w:=by
 have h1:=Enc.len e'
 have h2:=Enc.len e
 refine s_stelR wk hd I D F B hy k (xs:=flat l) hk (repAll_flat l) hi hv 0 ht O G (cs:=Enc.enc e) (e':=e') O hgc ?_ ?_ fun w xs' H A=>K w ?_
 ·show _=Enc.enc e'
  rw[List.take_zero,List.nil_append,Nat.zero_add,List.drop_of_length_le (by omega),List.append_nil]
 ·show Nat.ble (0+(Enc.enc e').length) (Enc.sz α)=true
  rw[Nat.ble_eq];omega
 rw[repAll_eq H] at A
 exact A
omit [Enc α] in
theorem s_unitV (wk:Region.wanted o (yielded ops a.tmps)=true) (hd:o.dst=none) (hE:EnvD Df N E a) {u:Value} {w':World} (A:(execOp a.eval o).run P w= .ok (.value u) w') (K:wpL Rn P ops Q rest a w'):wpL Rn P ops Q (o::rest) a w:=
 l_value wk A (by rw[hd];exact K)
end
end Go.Proofs.YtopnldfjcciieaaGreat

/- Models of: math/bits.Mul32, math/bits.Mul64, math/bits.Mul, slices.Repeat[[]int,int], assessor/align.Align. (Printed by wip/sp/gen.py.) -/
import Derived.Test.YtopnldfjcciieaaGreatKCh3
import Derived.Test.YtopnldfjcciieaaGreatKCh2
set_option linter.unusedVariables false
set_option linter.unusedSimpArgs false
namespace Go.Proofs.YtopnldfjcciieaaGreat
open Go.RowKit
noncomputable def aE2 (B:Int) (A:Int):Option (Int×Int):=
 (shrK .u64 B 32).bind fun D=>
 (shrK .u64 A 32).bind fun G=>
 (shrK .u64 (IntKind.wrap .u64 ((andK .u64 B 4294967295)*(andK .u64 A 4294967295))) 32).bind fun F=>
 (shrK .u64 (IntKind.wrap .u64 ((IntKind.wrap .u64 (D*(andK .u64 A 4294967295)))+F)) 32).bind fun I=>
 (shrK .u64 (IntKind.wrap .u64 ((andK .u64 (IntKind.wrap .u64 ((IntKind.wrap .u64 (D*(andK .u64 A 4294967295)))+F)) 4294967295)+(IntKind.wrap .u64 ((andK .u64 B 4294967295)*G)))) 32).bind fun H=>
 some (IntKind.wrap .u64 ((IntKind.wrap .u64 ((IntKind.wrap .u64 (D*G))+I))+H),IntKind.wrap .u64 (B*A))
noncomputable def aK7 (D:Int) (B:Int):Option (Int×Int):=
 (aE2 D B).bind fun A=>
 some (A.1,A.2)
noncomputable def vN (aQ:Int) (aW:(List Int)):Option (Step (Int×(List Int)) (List Int)):=
 if(decide (aQ<(aW.length:Int)))=true then
  (sub aW aQ (aW.length:Int)).bind fun B=>
  (sub aW 0 aQ).bind fun A=>
  (inK .i64 (aQ+((min A.length B.length:Nat):Int))).bind fun D=>
  some (.next (D,aW.take aQ.toNat++cpy B A))
 else
  some (.done aW)
noncomputable def mP (B:(List Int)) (G:Int):Option (List Int):=
 ((if(decide (G<0))=true then
  none
 else
  some ()):Option Unit).bind fun j1=>
 (aK7 (IntKind.wrap .u64 (B.length:Int)) (IntKind.wrap .u64 G)).bind fun A=>
 ((if((decide (0<A.1))||(decide (9223372036854775807<A.2)))=true then
  none
 else
  some ()):Option Unit).bind fun j2=>
 (inK .i64 A.2).bind fun F=>
 (mkc F F (0:Int)).bind fun D=>
 (dZ (fun s=>vN s.1 s.2) (((min B.length D.length:Nat):Int),cpy D B):Option (List Int)).bind fun b1=>
 some b1
noncomputable def vX (A:Alg) (aQ:Int) (aW:(List Opn)):Option (Step (Int×(List Opn)) (List Opn)):=
 if(decide (aQ<(A.partner.length:Int)))=true then
  (idx A.partner aQ).bind fun F=>
  (app aW [(Opn.mk aQ F)]).bind fun D=>
  (inK .i64 (aQ+1)).bind fun B=>
  some (.next (B,D))
 else
  some (.done aW)
noncomputable def vY (A:Alg) (bU:Int) (eF:(List Opn)):Option (Step (Int×(List Opn)) (List Opn)):=
 if(decide (bU<(A.back.length:Int)))=true then
  (idx A.back bU).bind fun G=>
  if(decide (G<0))=true then
   (app eF [(Opn.mk (-1) bU)]).bind fun F=>
   (inK .i64 (bU+1)).bind fun D=>
   some (.next (D,F))
  else
   (inK .i64 (bU+1)).bind fun B=>
   some (.next (B,eF))
 else
  some (.done eF)
noncomputable def vU (J:Node) (I:Node):Option ((List Opn)×Int):=
 (rG J I).bind fun H=>
 if(!decide (H.2=0))=true then
  some ([],H.2)
 else
  (jO J).bind fun G=>
  (jO I).bind fun F=>
  (mM G).bind fun D=>
  (mM F).bind fun B=>
  (mP ([(-1)]:List Int) (G.nodes.length:Int)).bind fun U=>
  (mP ([(-1)]:List Int) (F.nodes.length:Int)).bind fun S=>
  (inK .i64 ((D.1.length:Int)-1)).bind fun M=>
  (inK .i64 ((B.1.length:Int)-1)).bind fun K=>
  (sQ (Alg.mk G F D.1 D.2 B.1 B.2 H.1 U S) M K).bind fun A=>
  (dZ (fun s=>vX A s.1 s.2) (0,[]):Option (List Opn)).bind fun b12=>
  (dZ (fun s=>vY A s.1 s.2) (0,b12):Option (List Opn)).bind fun b15=>
  some (b15,0)
noncomputable def zO (A:Opn) (cp0:Int):Option Bool:=
 some (decide (A.a=cp0))
noncomputable def qM (A:(List Opn)) (p1c0:Int) (aQ:Int):Option (Step Int (Out Unit Int)):=
 if(decide (aQ<(A.length:Int)))=true then
  (idx A aQ).bind fun F=>
  (zO F p1c0).bind fun D=>
  if D=true then
   some (.done (.ret aQ))
  else
   (inK .i64 (aQ+1)).bind fun B=>
   some (.next B)
 else
  some (.done (.brk ()))
noncomputable def nC (A:(List Opn)) (p1c0:Int):Option Int:=
 (dZ (fun s=>qM A p1c0 s) 0:Option (Out Unit Int)).bind fun b1=>
 match b1 with
 | .brk b1s=>
  some (-1)
 | .ret r=>some r
noncomputable def yI (B:(List Opn)) (D:Int):Option (Int×Bool):=
 (nC B D).bind fun A=>
 ((if((decide (A<0))||(decide (D<0)))=true then
  some true
 else
  (idx B A).bind fun G=>
  some (decide (G.b<0))):Option Bool).bind fun m1=>
 if m1=true then
  some (0,false)
 else
  (idx B A).bind fun F=>
  some (F.b,true)
noncomputable def xW (A:Int):Option Bool:=
 some (!decide (A=A))
noncomputable def vH (B:Int) (A:Int):Option Int:=
 (xW B).bind fun F=>
 (xW A).bind fun D=>
 if F=true then
  if D=true then
   some 0
  else
   some (-1)
 else
  if D=true then
   some 1
  else
   if(decide (B<A))=true then
    some (-1)
   else
    if(decide (A<B))=true then
     some 1
    else
     some 0
noncomputable def rQ (A:Opn) (B:Opn):Option Int:=
 if((decide (0≤A.a))&&(decide (0≤B.a)))=true then
  (vH A.a B.a).bind fun F=>
  some F
 else
  if((decide (A.a<0))&&(decide (B.a<0)))=true then
   (vH A.b B.b).bind fun D=>
   some D
  else
   if(decide (0≤A.a))=true then
    some (-1)
   else
    some 1
noncomputable def lS (U:Int) (bU:Int) (eF:(List Opn)):Option (Step (Int×(List Opn)) (List Opn)):=
 ((if(decide (U<bU))=true then
  (idx eF bU).bind fun K=>
  (inK .i64 (bU-1)).bind fun J=>
  (idx eF J).bind fun I=>
  (rQ K I).bind fun H=>
  some (decide (H<0))
 else
  some false):Option Bool).bind fun m1=>
 if m1=true then
  (inK .i64 (bU-1)).bind fun D=>
  (inK .i64 (bU-1)).bind fun G=>
  (idx eF G).bind fun B=>
  (idx eF bU).bind fun F=>
  (idx eF bU).bind fun S=>
  (idx (eF.set bU.toNat B) D).bind fun M=>
  (inK .i64 (bU-1)).bind fun A=>
  some (.next (A,(eF.set bU.toNat B).set D.toNat F))
 else
  some (.done eF)
noncomputable def lQ (D:Int) (B:Int) (aQ:Int) (aW:(List Opn)):Option (Step (Int×(List Opn)) (List Opn)):=
 if(decide (aQ<B))=true then
  (dZ (fun s=>lS D s.1 s.2) (aQ,aW):Option (List Opn)).bind fun b2=>
  (inK .i64 (aQ+1)).bind fun A=>
  some (.next (A,b2))
 else
  some (.done aW)
noncomputable def gW (F:(List Opn)) (A:Int) (D:Int):Option (List Opn):=
 (inK .i64 (A+1)).bind fun B=>
 (dZ (fun s=>lQ A D s.1 s.2) (B,F):Option (List Opn)).bind fun b1=>
 some b1
noncomputable def nS (G:Int) (F:Int) (M:Int) (aQ:Int) (aW:(List Opn)):Option (Step (Int×(List Opn)) (List Opn)):=
 if(decide (aQ<M))=true then
  (inK .i64 (G+aQ)).bind fun A=>
  (inK .i64 (F+aQ)).bind fun D=>
  (inK .i64 (F+aQ)).bind fun K=>
  (idx aW K).bind fun B=>
  (inK .i64 (G+aQ)).bind fun J=>
  (idx aW J).bind fun I=>
  (idx aW A).bind fun x7=>
  (idx (aW.set A.toNat B) D).bind fun x8=>
  (inK .i64 (aQ+1)).bind fun H=>
  some (.next (H,(aW.set A.toNat B).set D.toNat I))
 else
  some (.done aW)
noncomputable def fP (F:(List Opn)) (D:Int) (B:Int) (A:Int):Option (List Opn):=
 (dZ (fun s=>nS D B A s.1 s.2) (0,F):Option (List Opn)).bind fun b1=>
 some b1
noncomputable def oQ (A:Int) (aQ:Int) (aW:Int) (fF:(List Opn)):Option (Step (Int×Int×(List Opn)) (Int×(List Opn))):=
 if(!decide (aQ=aW))=true then
  if(decide (aW<aQ))=true then
   (inK .i64 (A-aQ)).bind fun K=>
   (fP fF K A aW).bind fun J=>
   (inK .i64 (aQ-aW)).bind fun I=>
   some (.next (I,aW,J))
  else
   (inK .i64 (A-aQ)).bind fun H=>
   (inK .i64 (A+aW)).bind fun G=>
   (inK .i64 (G-aQ)).bind fun F=>
   (fP fF H F aQ).bind fun D=>
   (inK .i64 (aW-aQ)).bind fun B=>
   some (.next (aQ,B,D))
 else
  some (.done (aQ,fF))
noncomputable def lJ (J:(List Opn)) (I:Int) (A:Int) (H:Int):Option (List Opn):=
 (inK .i64 (A-I)).bind fun G=>
 (inK .i64 (H-A)).bind fun F=>
 (dZ (fun s=>oQ A s.1 s.2.1 s.2.2) (G,F,J):Option (Int×(List Opn))).bind fun b1=>
 (inK .i64 (A-b1.1)).bind fun D=>
 (fP b1.2 D A b1.1).bind fun B=>
 some B
noncomputable def lT (B:(List Opn)) (K:Int) (aQ:Int) (aW:Int):Option (Step (Int×Int) Int):=
 if(decide (aQ<aW))=true then
  (inK .i64 (aQ+aW)).bind fun J=>
  (shrK .u64 (IntKind.wrap .u64 J) 1).bind fun I=>
  (inK .i64 I).bind fun A=>
  (idx B A).bind fun H=>
  (idx B K).bind fun G=>
  (rQ H G).bind fun F=>
  if(decide (F<0))=true then
   (inK .i64 (A+1)).bind fun D=>
   some (.next (D,aW))
  else
   some (.next (aQ,A))
 else
  some (.done aQ)
noncomputable def lU (b1:Int) (bU:Int) (eF:(List Opn)):Option (Step (Int×(List Opn)) (List Opn)):=
 (inK .i64 (b1-1)).bind fun H=>
 if(decide (bU<H))=true then
  (inK .i64 (bU+1)).bind fun B=>
  (inK .i64 (bU+1)).bind fun G=>
  (idx eF G).bind fun A=>
  (idx eF bU).bind fun F=>
  (idx eF bU).bind fun J=>
  (idx (eF.set bU.toNat A) B).bind fun I=>
  (inK .i64 (bU+1)).bind fun D=>
  some (.next (D,(eF.set bU.toNat A).set B.toNat F))
 else
  some (.done eF)
noncomputable def lV (J:(List Opn)) (K:Int) (iC:Int) (yZ:Int):Option (Step (Int×Int) Int):=
 if(decide (iC<yZ))=true then
  (inK .i64 (iC+yZ)).bind fun I=>
  (shrK .u64 (IntKind.wrap .u64 I) 1).bind fun H=>
  (inK .i64 H).bind fun A=>
  (idx J K).bind fun G=>
  (idx J A).bind fun F=>
  (rQ G F).bind fun D=>
  if(!(decide (D<0)))=true then
   (inK .i64 (A+1)).bind fun B=>
   some (.next (B,yZ))
  else
   some (.next (iC,A))
 else
  some (.done iC)
noncomputable def lW (b15:Int) (oP:Int) (qK:(List Opn)):Option (Step (Int×(List Opn)) (List Opn)):=
 if(decide (b15<oP))=true then
  (inK .i64 (oP-1)).bind fun B=>
  (inK .i64 (oP-1)).bind fun G=>
  (idx qK G).bind fun A=>
  (idx qK oP).bind fun F=>
  (idx qK oP).bind fun I=>
  (idx (qK.set oP.toNat A) B).bind fun H=>
  (inK .i64 (oP-1)).bind fun D=>
  some (.next (D,(qK.set oP.toNat A).set B.toNat F))
 else
  some (.done qK)
noncomputable def lX (M:(List Opn)) (K:Int) (lp5_0:Int) (lp5_1:Int):Option (Step (Int×Int) Int):=
 if(decide (lp5_0<lp5_1))=true then
  (inK .i64 (lp5_0+lp5_1)).bind fun J=>
  (shrK .u64 (IntKind.wrap .u64 J) 1).bind fun I=>
  (inK .i64 I).bind fun A=>
  (inK .i64 (K-A)).bind fun H=>
  (idx M H).bind fun G=>
  (idx M A).bind fun F=>
  (rQ G F).bind fun D=>
  if(!(decide (D<0)))=true then
   (inK .i64 (A+1)).bind fun B=>
   some (.next (B,lp5_1))
  else
   some (.next (lp5_0,A))
 else
  some (.done lp5_0)
noncomputable def iY (self:(List Opn)→Int→Int→Int→Option (List Opn)) (H:(List Opn)) (F:Int) (B:Int) (I:Int):Option (List Opn):=
 (inK .i64 (B-F)).bind fun b=>
 if(decide (b=1))=true then
  (dZ (fun s=>lT H F s.1 s.2) (B,I):Option Int).bind fun b1=>
  (dZ (fun s=>lU b1 s.1 s.2) (F,H):Option (List Opn)).bind fun b6=>
  some b6
 else
  (inK .i64 (I-B)).bind fun Y=>
  if(decide (Y=1))=true then
   (dZ (fun s=>lV H B s.1 s.2) (F,B):Option Int).bind fun b15=>
   (dZ (fun s=>lW b15 s.1 s.2) (B,H):Option (List Opn)).bind fun b20=>
   some b20
  else
   (inK .i64 (F+I)).bind fun X=>
   (shrK .u64 (IntKind.wrap .u64 X) 1).bind fun V=>
   (inK .i64 V).bind fun A=>
   (inK .i64 (A+B)).bind fun G=>
   ((if(decide (A<B))=true then
    (inK .i64 (G-I)).bind fun U=>
    some (U,A)
   else
    some (F,B)):Option (Int×Int)).bind fun j1=>
   (inK .i64 (G-1)).bind fun S=>
   (dZ (fun s=>lX H S s.1 s.2) (j1.1,j1.2):Option Int).bind fun b29=>
   (inK .i64 (G-b29)).bind fun D=>
   ((if((decide (b29<B))&&(decide (B<D)))=true then
    (lJ H b29 B D).bind fun M=>
    some M
   else
    some H):Option (List Opn)).bind fun j2=>
   ((if((decide (F<b29))&&(decide (b29<A)))=true then
    (self j2 F b29 A).bind fun K=>
    some K
   else
    some j2):Option (List Opn)).bind fun j3=>
   if((decide (A<D))&&(decide (D<I)))=true then
    (self j3 A D I).bind fun J=>
    some J
   else
    some j3
noncomputable def iD:Nat→(List Opn)→Int→Int→Int→Option (List Opn)
 |0=>fun _ _ _ _=>none
 |n+1=>iY (iD n)
noncomputable def kK (F:(List Opn)) (B:Int) (D:Int) (A:Int):Option (List Opn):=iD ((A-B).toNat+1) F B D A
noncomputable def oU (D:Int) (aQ:Int) (aW:Int) (fF:(List Opn)):Option (Step (Int×Int×(List Opn)) (Int×(List Opn))):=
 if(decide (aW≤D))=true then
  (gW fF aQ aW).bind fun B=>
  (inK .i64 (aW+20)).bind fun A=>
  some (.next (aW,A,B))
 else
  some (.done (aQ,fF))
noncomputable def oW (G:Int) (bU:Int) (iC:Int) (yZ:Int) (lp3_2:(List Opn)):Option (Step (Int×Int×(List Opn)) (Int×(List Opn))):=
 if(decide (yZ≤G))=true then
  (inK .i64 (iC+bU)).bind fun F=>
  (kK lp3_2 iC F yZ).bind fun D=>
  (inK .i64 (2*bU)).bind fun B=>
  (inK .i64 (yZ+B)).bind fun A=>
  some (.next (yZ,A,D))
 else
  some (.done (iC,lp3_2))
noncomputable def oV (A:Int) (bU:Int) (eF:(List Opn)):Option (Step (Int×(List Opn)) (List Opn)):=
 if(decide (bU<A))=true then
  (inK .i64 (2*bU)).bind fun G=>
  (dZ (fun s=>oW A bU s.1 s.2.1 s.2.2) (0,G,eF):Option (Int×(List Opn))).bind fun b3=>
  (inK .i64 (b3.1+bU)).bind fun F=>
  ((if(decide (F<A))=true then
   (kK b3.2 b3.1 F A).bind fun D=>
   some D
  else
   some b3.2):Option (List Opn)).bind fun j1=>
  (inK .i64 (bU*2)).bind fun B=>
  some (.next (B,j1))
 else
  some (.done eF)
noncomputable def lK (D:(List Opn)) (A:Int):Option (List Opn):=
 (dZ (fun s=>oU A s.1 s.2.1 s.2.2) (0,20,D):Option (Int×(List Opn))).bind fun b1=>
 (gW b1.2 b1.1 A).bind fun B=>
 (dZ (fun s=>oV A s.1 s.2) (20,B):Option (List Opn)).bind fun b2=>
 some b2
noncomputable def kW (A:(List Opn)):Option (List Opn):=
 (lK A (A.length:Int)).bind fun B=>
 some B
noncomputable def zQ (B:(List Opn)):Option (List Opn):=
 (kW B).bind fun A=>
 some A
noncomputable def W9 (B:(List Opn)) (aQ:Int) (aW:(List Opn)):Option (Step (Int×(List Opn)) (List Opn)):=
 if(decide (aQ<(B.length:Int)))=true then
  (idx B aQ).bind fun A=>
  (app aW [(Opn.mk A.b A.a)]).bind fun F=>
  (inK .i64 (aQ+1)).bind fun D=>
  some (.next (D,F))
 else
  some (.done aW)
noncomputable def zN (B:(List Opn)):Option (List Opn):=
 (dZ (fun s=>W9 B s.1 s.2) (0,[]):Option (List Opn)).bind fun b1=>
 (zQ b1).bind fun A=>
 some A
noncomputable def O8 (D:(List Opn)) (H:(List Opn)) (aQ:Int) (aW:(List Opn)) (fF:(List (Int×Bool))):Option (Step (Int×(List Opn)×(List (Int×Bool))) ((List Opn)×(List (Int×Bool)))):=
 if(decide (aQ<(D.length:Int)))=true then
  (((idx D aQ).bind fun A=>
  if(decide (A.a<0))=true then
   some (aW,fF)
  else
   (yI H A.b).bind fun B=>
   ((if(!B.2)=true then
    some (-1)
   else
    some B.1):Option Int).bind fun j2=>
   (app aW [(Opn.mk A.a j2)]).bind fun G=>
   some (G,I9 fF j2 true)):Option ((List Opn)×(List (Int×Bool)))).bind fun j1=>
  (inK .i64 (aQ+1)).bind fun F=>
  some (.next (F,j1.1,j1.2))
 else
  some (.done (aW,fF))
noncomputable def O9 (B:(List Opn)) (b2:((List Opn)×(List (Int×Bool)))) (bU:Int) (eF:(List Opn)):Option (Step (Int×(List Opn)) (List Opn)):=
 if(decide (bU<(B.length:Int)))=true then
  (idx B bU).bind fun A=>
  if((decide (0≤A.b))&&(!((jL (b2.2:List (Int×Bool)) A.b).getD false)))=true then
   (app eF [(Opn.mk (-1) A.b)]).bind fun G=>
   (inK .i64 (bU+1)).bind fun F=>
   some (.next (F,G))
  else
   (inK .i64 (bU+1)).bind fun D=>
   some (.next (D,eF))
 else
  some (.done eF)
noncomputable def O3 (D:(List Opn)) (A:(List Opn)):Option (List Opn):=
 (dZ (fun s=>O8 D A s.1 s.2.1 s.2.2) (0,[],[]):Option ((List Opn)×(List (Int×Bool)))).bind fun b2=>
 (dZ (fun s=>O9 A b2 s.1 s.2) (0,b2.1):Option (List Opn)).bind fun b6=>
 (zQ b6).bind fun B=>
 some B
def Node.re (n:Node) (ks:List Node):Node:=⟨n.kind,n.text,n.at_,n.fin,ks⟩
mutual
def atN:Node→Nat→Option (List Node×Nat×(List Node→Node))
 |⟨a,b,c,d,kids⟩,k=>(atL [] kids k).map fun q=>(q.1,q.2.1,fun x=>⟨a,b,c,d,q.2.2 x⟩)
def atL:List Node→List Node→Nat→Option (List Node×Nat×(List Node→List Node))
 |_,[],_=>none
 |pre,n::r,k=>if k=0 then some (pre++n::r,pre.length,id) else if k<aU n then(atN n (k-1)).map fun q=>(q.1,q.2.1,fun x=>pre++q.2.2 x::r) else atL (pre++[n]) r (k-aU n)
end
theorem atN_eq (n:Node) (k:Nat):atN n k=(atL [] n.kids k).map fun q=>(q.1,q.2.1,fun x=>n.re (q.2.2 x)):=by obtain⟨a,b,c,d,kids⟩:=n;rw[atN];rfl
theorem atL_nil (pre:List Node) (k:Nat):atL pre [] k=none:=by rw[atL]
theorem zH (pre:List Node) (n:Node) (r:List Node) (k:Nat):atL pre (n::r) k=if k=0 then some (pre++n::r,pre.length,id) else if k<aU n then(atN n (k-1)).map fun q=>(q.1,q.2.1,fun x=>pre++q.2.2 x::r) else atL (pre++[n]) r (k-aU n):=by rw[atL]
theorem cntN_eq' (n:Node):aU n=1+dQ n.kids:=by obtain⟨a,b,c,d,k⟩:=n;rw[aU]
theorem atL_ok:∀(m:Nat) (ts pre:List Node) (k:Nat),SizeOf.sizeOf ts≤m→k<dQ ts→∃q,atL pre ts k=some q:=by
 intro m
 induction m with
 |zero=>intro ts pre k h;cases ts<;>simp at h
 |succ m ih=>
  intro ts pre k h hk
  cases ts with
  |nil=>rw[dQ] at hk;omega
  |cons n r=>
   rw[zH]
   rw[dQ] at hk
   simp only[List.cons.sizeOf_spec] at h
   split
   ·exact⟨_,O⟩
   split
   ·obtain⟨a,b,c,d,kids⟩:=n
    simp only[Node.mk.sizeOf_spec] at h
    rename_i h0 h1
    rw[aU] at h1
    obtain⟨q,hq⟩:=ih kids [] (k-1) (by omega) (by omega)
    rw[atN,hq]
    exact⟨_,O⟩
   exact ih r _ _ (by omega) (by omega)
theorem atL_plug:∀(m:Nat) (ts pre:List Node) (k:Nat),SizeOf.sizeOf ts≤m→∀{t:List Node} {i:Nat} {p:List Node→List Node},atL pre ts k=some (t,i,p)→p t=pre++ts∧t.length≤pre.length+dQ ts:=by
 intro m
 induction m with
 |zero=>intro ts pre k h;cases ts<;>simp at h
 |succ m ih=>
  intro ts pre k h t i p hat
  cases ts with
  |nil=>rw[atL_nil] at hat;cases hat
  |cons n r=>
   rw[zH] at hat
   have hc:=cntN_eq' n
   have hlen:∀(l:List Node),l.length≤dQ l:=by
    intro l
    induction l with
    |nil=>exact Nat.zero_le _
    |cons a l ih2=>rw[dQ,List.length_cons,cntN_eq'];omega
   have hr:=hlen r
   simp only[List.cons.sizeOf_spec] at h
   split at hat
   ·obtain⟨rfl,rfl,rfl⟩:pre++n::r=t∧pre.length=i∧id=p:=by simpa using hat
    refine⟨O,?_⟩
    rw[List.length_append,List.length_cons,dQ];omega
   split at hat
   ·obtain⟨a,b,c,d,kids⟩:=n
    rw[atN] at hat
    cases hq:atL [] kids (k-1) with
    |none=>rw[hq] at hat;cases hat
    |some q=>
     obtain⟨t2,i2,p2⟩:=q
     rw[hq] at hat
     simp only[Option.map_some,Option.some.injEq,Prod.mk.injEq] at hat
     obtain⟨rfl,rfl,rfl⟩:=hat
     simp only[Node.mk.sizeOf_spec] at h
     obtain⟨h1,h2⟩:=ih kids [] (k-1) (by omega) hq
     refine⟨by simp[h1],?_⟩
     rw[dQ,aU]
     simp only[List.length_nil] at h2
     omega
   obtain⟨h1,h2⟩:=ih r (pre++[n]) (k-aU n) (by omega) hat
   refine⟨by rw[h1];simp,?_⟩
   rw[List.length_append,List.length_singleton] at h2
   rw[dQ];omega
theorem re_kids (n:Node):n.re n.kids=n:=by cases n;rfl
def m_at (ts:List Node) (n:Int):Option (Option (List Node×Nat×(List Node→List Node))):=if 0≤n∧n<9223372036854775808∧dQ ts≤4294967296 then some (atL [] ts n.toNat) else none
def Q9 (ts:List Node) (c:Chg):Option (Int×List Node):=(m_at ts c.node).bind fun q=>match q with
 |none=>some (2,ts)
 |some (t,i,p)=>(t[i]?).map fun x=>(0,p (t.set i ⟨c.kind,c.text,x.at_,x.fin,x.kids⟩))
def aC0 (ts:List Node) (c:Chg):Option (Int×List Node):=(m_at ts c.node).bind fun q=>match q with
 |none=>some (2,ts)
 |some (t,i,p)=>(t[i]?).bind fun x=>if t.length+x.kids.length≤4294967296 then some (0,p (t.take i++x.kids++t.drop (i+1))) else none
def zG (l:List Node) (c:Chg):Option (List Node):=
 if c.index<0∨c.count<0∨(l.length:Int)<c.index∨(l.length:Int)-c.index<c.count then none
 else some (l.take c.index.toNat++⟨c.kind,c.text,0,0,(l.drop c.index.toNat).take c.count.toNat⟩::l.drop (c.index.toNat+c.count.toNat))
def I8 (ts:List Node) (c:Chg):Option (Int×List Node):=
 ((if c.node= -1 then some (some (ts,id)) else(m_at ts c.node).bind fun q=>match q with
  |none=>some none
  |some (t,i,p)=>(t[i]?).map fun x=>some (x.kids,fun ks=>p (t.set i (x.re ks))):Option (Option (List Node×(List Node→List Node))))).bind fun q=>match q with
 |none=>some (2,ts)
 |some (l,P)=>if l.length+1≤4294967296 then(match zG l c with
  |none=>some (2,ts)
  |some ks=>some (0,P ks)) else none
def fieldsB (c:Chg):Bool:=
 if c.op=0 then decide (c.index=0)&&decide (c.count=0)
 else if c.op=1 then decide (c.op=c.op)&&decide (c.node=c.node)&&decide (c.index=0)&&decide (c.count=0)&&decide (c.kind=0)&&decide (c.text=ByteArray.empty)
 else decide (c.op=2)
def nK (ts:List Node) (c:Chg):Option (Int×List Node):=
 if fieldsB c=true then
  if c.node< -1∨(c.node= -1∧c.op≠2) then some (2,ts)
  else if c.op=0 then Q9 ts c else if c.op=1 then aC0 ts c else I8 ts c
 else some (1,ts)
def chgs:List Node→List Chg→Option (List Node×Int)
 |ts,[]=>some (ts,0)
 |ts,c::cs=>(nK ts c).bind fun q=>if q.1=0 then chgs q.2 cs else some ([],q.1)
def aG2 (l:List Chg) (p:Nat×List Node):Option (Step (Nat×List Node) Unit):=match l[p.1]? with
 |none=>some (.done ())
 |some c=>(nK p.2 c).map fun q=>if q.1=0 then .next (p.1+1,q.2) else .done ()
theorem chLoop (l:List Chg):∀(j i:Nat) (ts:List Node) (r:List Node×Int),l.length≤i+j→chgs ts (l.drop i)=some r→∃u,dZ (aG2 l) (i,ts)=some u
 |0,i,ts,r,h,_=>⟨(),kD (by unfold aG2;simp only;rw[List.getElem?_eq_none (by omega)])⟩
 |j+1,i,ts,r,h,hr=>by
  cases A:l[i]? with
  |none=>exact⟨(),kD (by unfold aG2;simp only;rw[A])⟩
  |some c=>
   obtain⟨h3,h4⟩:=List.getElem?_eq_some_iff.1 A
   rw[List.drop_eq_getElem_cons h3,h4,chgs] at hr
   obtain⟨q,hq,hr⟩:=Option.bind_eq_some_iff.1 hr
   by_cases h0:q.1=0
   ·rw[if_pos h0] at hr
    obtain⟨u,hu⟩:=chLoop l j (i+1) q.2 r (by omega) hr
    exact⟨u,by rw[vG (show aG2 l (i,ts)=some (.next (i+1,q.2)) by unfold aG2;simp only;rw[A];simp only;rw[hq,Option.map_some,if_pos h0])];exact hu⟩
   exact⟨(),kD (by unfold aG2;simp only;rw[A];simp only;rw[hq,Option.map_some,if_neg h0])⟩
def aI1 (l:List Node) (cs:List Chg):Option (List Node×Int):=if dQ l<4294967296∧cs.length<4294967296 then chgs l cs else none
noncomputable def yA (D:(List Chg)) (G:(List Chg)) (aQ:Int):Option (Step Int (Out Unit Bool)):=
 if(decide (aQ<(D.length:Int)))=true then
  (idx D aQ).bind fun B=>
  (idx G aQ).bind fun A=>
  if(!((decide (B.op=A.op))&&(decide (B.node=A.node))&&(decide (B.index=A.index))&&(decide (B.count=A.count))&&(decide (B.kind=A.kind))&&(decide (B.text=A.text))))=true then
   some (.done (.ret false))
  else
   (inK .i64 (aQ+1)).bind fun F=>
   some (.next F)
 else
  some (.done (.brk ()))
noncomputable def vW (B:(List Chg)) (A:(List Chg)):Option Bool:=
 if(!decide ((B.length:Int)=(A.length:Int)))=true then
  some false
 else
  (dZ (fun s=>yA B A s) 0:Option (Out Unit Bool)).bind fun b1=>
  match b1 with
  | .brk b1s=>
   some true
  | .ret r=>some r
noncomputable def sD:Option Bool:=
 (kV (ByteArray.mk #[97])).bind fun f=>
 (kV (ByteArray.mk #[98])).bind fun e=>
 (kV (ByteArray.mk #[99])).bind fun c=>
 (nX (ByteArray.mk #[42]) e c).bind fun b=>
 (nX (ByteArray.mk #[43]) f b).bind fun D=>
 (kV (ByteArray.mk #[97])).bind fun Y=>
 (kV (ByteArray.mk #[99])).bind fun X=>
 (nX (ByteArray.mk #[42]) Y X).bind fun B=>
 (xU D B ([(Opn.mk 0 0),(Opn.mk 1 1),(Opn.mk 2 (-1)),(Opn.mk 3 (-1)),(Opn.mk 4 2)]:List Opn)).bind fun V=>
 (sK D B ([(Opn.mk 0 0),(Opn.mk 1 1),(Opn.mk 2 (-1)),(Opn.mk 3 (-1)),(Opn.mk 4 2)]:List Opn)).bind fun A=>
 (aI1 ([D]:List Node) A.1).bind fun H=>
 (vU D B).bind fun G=>
 (yI ([(Opn.mk 0 0),(Opn.mk 1 1),(Opn.mk 2 (-1)),(Opn.mk 3 (-1)),(Opn.mk 4 2)]:List Opn) 4).bind fun F=>
 (rP D B ([(Opn.mk 0 0),(Opn.mk 1 1),(Opn.mk 2 (-1)),(Opn.mk 3 (-1)),(Opn.mk 4 2)]:List Opn)).bind fun U=>
 ((if(((U&&(decide (V.2=0)))&&(decide (V.1=3)))&&(decide (A.2=0)))=true then
  (vW A.1 ([(Chg.mk 0 0 0 0 29 (ByteArray.mk #[42])),(Chg.mk 1 3 0 0 0 ByteArray.empty),(Chg.mk 1 2 0 0 0 ByteArray.empty)]:List Chg)).bind fun S=>
  some S
 else
  some false):Option Bool).bind fun m1=>
 ((if(m1&&(decide (H.2=0)))=true then
  (jW H.1 ([B]:List Node)).bind fun M=>
  some M
 else
  some false):Option Bool).bind fun m2=>
 ((if((((m2&&(decide (G.2=0)))&&(decide (0<(G.1.length:Int))))&&F.2)&&(decide (F.1=2)))=true then
  (zN ([(Opn.mk 0 0),(Opn.mk 1 1),(Opn.mk 2 (-1)),(Opn.mk 3 (-1)),(Opn.mk 4 2)]:List Opn)).bind fun K=>
  some (decide ((K.length:Int)=5))
 else
  some false):Option Bool).bind fun m3=>
 ((if m3=true then
  (zN ([(Opn.mk 0 0),(Opn.mk 1 1),(Opn.mk 2 (-1)),(Opn.mk 3 (-1)),(Opn.mk 4 2)]:List Opn)).bind fun J=>
  (O3 ([(Opn.mk 0 0),(Opn.mk 1 1),(Opn.mk 2 (-1)),(Opn.mk 3 (-1)),(Opn.mk 4 2)]:List Opn) J).bind fun I=>
  some (decide ((I.length:Int)=7))
 else
  some false):Option Bool).bind fun m4=>
 some m4
noncomputable def iL (D:Node) (B:Node) (K:(List Opn)) (J:((List Opn)×Int)) (aQ:Int):Option (Step Int (Out Unit Bool)):=
 if(decide (aQ<(([J.1,K]:List (List Opn)).length:Int)))=true then
  (((idx ([J.1,K]:List (List Opn)) aQ).bind fun G=>
  (xU D B G).bind fun F=>
  (sK D B G).bind fun A=>
  if(!decide (F.2=0))=true then
   ((if(!decide (A.2=F.2))=true then
    some true
   else
    (rP D B G).bind fun S=>
    some S):Option Bool).bind fun m1=>
   if m1=true then
    some (.ret false)
   else
    some (.brk ())
  else
   (aI1 ([D]:List Node) A.1).bind fun I=>
   ((if(((!decide (A.2=0))||(!decide (I.2=0)))||(!decide ((A.1.length:Int)=F.1)))=true then
    some true
   else
    (jW I.1 ([B]:List Node)).bind fun M=>
    some (!M)):Option Bool).bind fun m2=>
   if m2=true then
    some (.ret false)
   else
    some (.brk ())):Option (Out Unit Bool)).bind fun j1=>
  match j1 with
  | .brk j1s=>
   (inK .i64 (aQ+1)).bind fun H=>
   some (.next H)
  | .ret r=>some (.done (.ret r))
 else
  some (.done (.brk ()))
noncomputable def mY (B:Node) (A:Node) (H:(List Opn)):Option Bool:=
 (sD).bind fun G=>
 if(!G)=true then
  some false
 else
  (rF B A 15).bind fun F=>
  if(!F)=true then
   some true
  else
   (vU B A).bind fun D=>
   if(!decide (D.2=0))=true then
    some false
   else
    (dZ (fun s=>iL B A H D s) 0:Option (Out Unit Bool)).bind fun b4=>
    match b4 with
    | .brk b4s=>
     some true
    | .ret r=>some r
class Rep1 (α:Type) [Rep α]:Prop where
 one:∀{ρ:PH} {a:α} {cs:List Value},Rep.ok ρ a cs→∀v∈cs,v.oneCell'=true
 pos:0<Rep.sz α
def rE {α:Type} [Rep α] (T:TypeId) (v:Value) (l:List α) (xs:List Value):bP:=Row T (Rep.sz α) v l.length xs
section
variable {α:Type} [Rep α] {ρ ρ':PH} {l m:List α} {xs ys:List Value}
theorem fU.nil:fU ρ ([]:List α) []:=rfl
theorem fU.mono (h:ρ.le ρ'):∀{l:List α} {xs:List Value},fU ρ l xs→fU ρ' l xs
 | [],_,e=>e
 |a::l,_,⟨c,r,e,A,hr⟩=>⟨c,r,e,Rep.mono h A,fU.mono h hr⟩
theorem fU.len:∀{l:List α} {xs:List Value},fU ρ l xs→xs.length=l.length*Rep.sz α
 | [],_,e=>by rw[e];simp
 |a::l,_,⟨c,r,e,A,hr⟩=>by
  rw[e,List.length_append,Rep.len A,fU.len hr,List.length_cons,Nat.add_mul];omega
theorem fU.app:∀{l:List α} {xs:List Value},fU ρ l xs→fU ρ m ys→fU ρ (l++m) (xs++ys)
 | [],_,e,h=>by rw[e];exact h
 |a::l,_,⟨c,r,e,A,hr⟩,h=>⟨c,r++ys,by rw[e,List.append_assoc],A,fU.app hr h⟩
theorem fU.one1 [Rep1 α]:∀{l:List α} {xs:List Value},fU ρ l xs→∀v∈xs,v.oneCell'=true
 | [],_,e,v,hv=>by rw[e] at hv;simp at hv
 |a::l,_,⟨c,r,e,A,hr⟩,v,hv=>by
  rw[e,List.mem_append] at hv
  rcases hv with hv|hv
  ·exact Rep1.one A v hv
  exact fU.one1 hr v hv
theorem fU.set:∀{l:List α} {xs:List Value} (i:Nat) {a:α} {cs:List Value},fU ρ l xs→i<l.length→Rep.ok ρ a cs→fU ρ (l.set i a) (xs.take (i*Rep.sz α)++cs++xs.drop ((i+1)*Rep.sz α))
 |b::l,_,0,a,cs,⟨c,r,e,A,hr⟩,_,ha=>by
  rw[e,Nat.zero_mul,List.take_zero,List.nil_append,Nat.zero_add,Nat.one_mul,←Rep.len A,List.drop_left,List.set_cons_zero]
  exact⟨cs,r,O,ha,hr⟩
 |b::l,_,i+1,a,cs,⟨c,r,e,A,hr⟩,hi,ha=>by
  have:=fU.set i hr (by simpa using hi) ha
  have hl:=Rep.len A
  rw[e,List.set_cons_succ,Nat.add_mul,Nat.one_mul,show i*Rep.sz α+Rep.sz α=c.length+i*Rep.sz α by omega,List.take_append,List.take_of_length_le (by omega),Nat.add_sub_cancel_left,
   show(i+1+1)*Rep.sz α=c.length+(i+1)*Rep.sz α by rw[Nat.add_mul (i+1)];omega,List.drop_append,List.drop_of_length_le (by omega),List.nil_append,Nat.add_sub_cancel_left]
  exact⟨c,_,by simp only[List.append_assoc],A,this⟩
end
section
variable {α:Type} [Rep α] {Rn:Option Nat} {P:Program} {Z:World} {ρ:PH} {L:List bP} {w:World} {T El:TypeId} {v:Value} {l:List α} {xs:List Value}
theorem rE.nil (T:TypeId):rE T (.slice none 0 0) ([]:List α) [] PH.emp:=Row.nil T _ none
theorem rE.len {sz bytes:Nat} (B:Hp Z ρ L w) (k:Nat) (hk:L[k]?=some (rE El v l xs)) (ht:SlTy P T El sz bytes) (w':World) (ty:TypeId):(Builtin.len_ #[T] ty #[v]).run P w'= .ok (.int .i64 l.length) w':=by
 rcases(B.get k hk).row.2 with⟨A,rfl,hn⟩|⟨g,off,cap,cur,rfl,_,_⟩
 ·rw[hn];exact rM ht A 0 0 w' ty
 exact rM ht _ _ cap w' ty
theorem rE.cells (B:Hp Z ρ L w) (k:Nat) (hk:L[k]?=some (rE El v l xs)):v.cells= #[v]:=by
 rcases(B.get k hk).row.2 with⟨A,rfl,_⟩|⟨g,off,cap,cur,rfl,_⟩<;>rfl
theorem rE.one (B:Hp Z ρ L w) (k:Nat) (hk:L[k]?=some (rE El v l xs)):v.oneCell'=true:=by
 rcases(B.get k hk).row.2 with⟨A,rfl,_⟩|⟨g,off,cap,cur,rfl,_⟩<;>rfl
theorem rE.ro {k:PH} (d:ρ.dj k) (h:rE T v l xs k) (F:fU ρ l xs):aH (ρ.un k) v l:=by
 obtain⟨hxl,h⟩:=h
 rcases h with⟨A,rfl,hn⟩|⟨g,off,cap,cur,rfl,rfl,h1,h2,h3,h4⟩
 ·obtain rfl:=List.eq_nil_of_length_eq_zero hn
  exact⟨A,0,O,Nat.le_refl _,fun i a h=>by simp at h⟩
 refine⟨some ⟨g,off,none⟩,cap,O,h1,fun i a hi=>?_⟩
 obtain⟨c,D,hg⟩:=F.get i a hi
 refine⟨g,off,c,O,Rep.mono (PH.le_un _ _) D,fun j u B=>?_⟩
 have hb:(ρ.un (PH.one g (.cells cur T (0,0)))) g=some (.cells cur T (0,0)):=PH.le_un_r d g _ (by simp[PH.one])
 unfold cellAt
 rw[hb]
 simp only
 have hf:=hg j u B
 rw[←h4,List.getElem?_take] at hf
 split at hf
 ·rw[List.getElem?_drop,←Nat.add_assoc] at hf
  rw[←Array.getElem?_toList]
  exact hf
 cases hf
theorem rE.at {bytes:Nat} (B:Hp Z ρ L w) (k:Nat) (hk:L[k]?=some (rE El v l xs)) (G:fU ρ l xs) (ht:SlTy P T El (Rep.sz α) bytes) {i:Int} {e:α} (hi:idx l i=some e):
  ∃g off cs,(∀w,(Instr.indexAt T v (.int .i64 i)).run P w= .ok (.pointer (some ⟨g,off,none⟩)) w)∧(∃of0 cap,v= .slice (some ⟨g,of0,none⟩) l.length cap∧off=of0+i.toNat*Rep.sz α)∧Rep.ok ρ e cs∧∀(j:Nat) (u:Value),cs[j]?=some u→∀ρ' L' w,Hp Z ρ' (rE El v l xs::L') w→w.cell? ⟨g,off+j,none⟩=some u:=by
 obtain⟨i0,i1,i2⟩:=qJ hi
 rcases(B.get k hk).row.2 with⟨_,_,hn⟩|⟨g,of0,cap,cur,rfl,_,_⟩
 ·omega
 obtain⟨c,F,hg⟩:=G.get i.toNat e i2
 refine⟨g,of0+i.toNat*Rep.sz α,c,fun w=>run_index ht g of0 _ cap i0 i1 w,⟨of0,cap,O,O⟩,F,fun j u D ρ' L' w' hw'=>?_⟩
 rcases hw'.row.2 with⟨A,hA,hn⟩|⟨g',of1,cap',cur',e2,hpt,h2,h3,h4,h5⟩
 ·omega
 simp only[Value.slice.injEq,Option.some.injEq,Addr.mk.injEq,and_true,true_and] at e2
 obtain⟨⟨rfl,rfl⟩,rfl⟩:=e2
 have hlook:=hpt.look 0 O
 have hf:=hg j u D
 rw[←h5,List.getElem?_take] at hf
 split at hf
 ·rw[List.getElem?_drop,←Nat.add_assoc] at hf
  simp[World.cell?,hlook,←Array.getElem?_toList,hf]
 cases hf
end
section
variable {α:Type} [Rep α] {ρ:PH}
end
section
variable {α:Type} [Rep α] [Rep1 α] {Rn:Option Nat} {P:Program} {ops:Array Oper} {Q:Exit→Act→World→Prop} {rest:List Oper} {o:Oper} {a:Act} {w:World} {Df:List Deferred} {N:Nat} {E:Ent} {d:Nat} {Z:World} {ρ:PH} {L:List bP}
theorem s_appR (wk:Region.wanted o (yielded ops a.tmps)=true) (hd:o.dst=some d) (hN:Nat.blt d N=true) (B:EnvD Df N E a) (G:Hp Z ρ L w) {x y:Operand} {t:TypeId} (H:o.op= .call {callee:= .builtin .append,args:= #[x,y],argTypes:= #[t,t] }) {El:TypeId} {bytes:Nat} (ht:SlTy P t El (Rep.sz α) bytes) (hby:Nat.ble bytes 16384=true)
  {v:Value} (F:evo E x=some v) (i:Nat) {l:List α} {xs:List Value} (hi:L[i]?=some (rE El v l xs)) {b off m c:Nat} (hy:evo E y=some (.slice (some ⟨b,off,none⟩) m c)) {l2 r:List α} {ys:List Value} (D:l2.length=m) (hR2:fU ρ l2 ys) (hn:∀j u,ys[j]?=some u→w.cell? ⟨b,off+j,none⟩=some u) (hr:app l l2=some r)
  (K:∀v' a w,EnvD Df N ((d,v')::E) a→Hp Z ρ (L.set i (rE El v' r (xs++ys))) w→wpL Rn P ops Q rest a w):wpL Rn P ops Q (o::rest) a w:=by
 obtain⟨hlen,rfl⟩:=U7 hr
 have hby':bytes≤16384:=by simpa using hby
 have J:(l.length+m)*bytes≤4294967296*16384:=Nat.mul_le_mul (by omega) hby'
 obtain⟨v',w',hrun,hp'⟩:=run_app (P:=P) ht Rep1.pos o.type (G.get i hi) ⟨b,off,none⟩ m c ys (by rw[hR2.len,D]) (fun j u I=>by rw[Addr.add_lit];exact hn j u I) hR2.one1 (by unfold maxLen;omega) (by omega)
 refine zC wk hd hN B (v:=v') (w':=w') ?_ fun a' hE'=>K v' a' w' hE' ?_
 ·simp only[execOp,H,resolve,invoke,builtin,Sem.run_bind,Sem.run_pure,Result.andThen_ok,List.map_toArray,List.map_cons,List.map_nil,B.eval F,B.eval hy,hrun]
 refine Hp.put i (P8 (A:=rE El v l xs) (_B:=rE El v l xs) hi).2 ?_
 unfold rE
 rw[List.length_append,D]
 exact hp'
theorem s_stelR (wk:Region.wanted o (yielded ops a.tmps)=true) (hd:o.dst=none) (B:EnvD Df N E a) (G:Hp Z ρ L w) {T:TypeId} {x y:Operand} (H:o.op= .store T x y) {g off off':Nat} (F:evo E x=some (.pointer (some ⟨g,off',none⟩))) {u:Value} (hy:evo E y=some u) (k:Nat) {El:TypeId} {v:Value} {l:List α} {xs:List Value} (hk:L[k]?=some (rE El v l xs))
  (D:fU ρ l xs) {i:Int} {e e':α} (hi:idx l i=some e) (hv:∃of0 cap,v= .slice (some ⟨g,of0,none⟩) l.length cap∧off=of0+i.toNat*Rep.sz α) (j:Nat) {us cs:List Value} (ht:∀w,(sizeOf T).run P w= .ok us.length w) (hoff:off'=off+j) (I:u.cells=us.toArray) (hcs:Rep.ok ρ e cs) (hgc:∀(q:Nat) (z:Value),cs[q]?=some z→w.cell? ⟨g,off+q,none⟩=some z)
  (hok:Rep.ok ρ e' (cs.take j++us++cs.drop (j+us.length))) (hju0:Nat.ble (j+us.length) (Rep.sz α)=true)
  (K:∀w xs',fU ρ (l.set i.toNat e') xs'→Hp Z ρ (L.set k (rE El v (l.set i.toNat e') xs')) w→wpL Rn P ops Q rest a w):wpL Rn P ops Q (o::rest) a w:=by
 subst hoff
 obtain⟨of0,cap,rfl,rfl⟩:=hv
 obtain⟨i0,i1,i2⟩:=qJ hi
 have hlt:=(P8 (A:=rE El (.slice (some ⟨g,of0,none⟩) l.length cap) l xs) (_B:=rE El (.slice (some ⟨g,of0,none⟩) l.length cap) l xs) hk).2
 have hll:=D.len
 have hcl:=Rep.len hcs
 have hkl:=Rep.len hok
 rw[List.length_append,List.length_append,List.length_take,List.length_drop] at hkl
 have hju:j+us.length≤Rep.sz α:=by simpa using hju0
 rcases(G.get k hk).row.2 with⟨_,_,hn⟩|⟨g',of1,cap',cur,e2,hpt,h2,h3,h4,h5⟩
 ·omega
 simp only[Value.slice.injEq,Option.some.injEq,Addr.mk.injEq,and_true,true_and] at e2
 obtain⟨⟨rfl,rfl⟩,rfl⟩:=e2
 have hg:=hpt.look 0 O
 have hpos:(i.toNat+1)*Rep.sz α≤l.length*Rep.sz α:=Nat.mul_le_mul_right _ (by omega)
 have hle:l.length*Rep.sz α≤cap*Rep.sz α:=Nat.mul_le_mul_right _ h2
 rw[Nat.add_mul,Nat.one_mul] at hpos
 generalize hiz:i.toNat*Rep.sz α=iz at*
 have one1:∀z∈us,z.oneCell'=true:=fun z hz=>Rep1.one hok z (by simp[hz])
 have r1:=run_storeCells_at P g (of0+iz+j) El us 0 cur w hg (by omega) one1
 simp only[Nat.add_zero] at r1
 refine s_unit wk hd B (w':=w.setRow g (cur.toList.take (of0+iz+j)++us++cur.toList.drop (of0+iz+j+us.length)).toArray) ?_ (K _ (xs.take iz++(cs.take j++us++cs.drop (j+us.length))++xs.drop (iz+Rep.sz α)) ?_ ?_)
 ·simp[execOp,H,B.eval F,B.eval hy,Instr.storeAt,Instr.sureAddr,storeVar,ht w,I,r1]
 ·have:=D.set i.toNat (a:=e') (by omega) hok
  rw[Nat.add_mul,Nat.one_mul,hiz] at this
  exact this
 have hseg:cs=(xs.drop iz).take (Rep.sz α):=by
  apply List.ext_getElem?
  intro q
  rcases Nat.lt_or_ge q (Rep.sz α) with hq|hq
  ·obtain⟨z,hz⟩:∃z,cs[q]?=some z:=⟨_,List.getElem?_eq_getElem (by omega)⟩
   have hz2:=hgc q z hz
   rw[hz,List.getElem?_take,if_pos hq,List.getElem?_drop,←h5,List.getElem?_take,if_pos (by omega),List.getElem?_drop,Array.getElem?_toList]
   simp only[World.cell?,hg] at hz2
   simp at hz2
   rw[show of0+(iz+q)=of0+iz+q by omega]
   exact hz2.symm
  rw[List.getElem?_eq_none (by omega),List.getElem?_take,if_neg (by omega)]
 refine Hp.put k hlt ?_
 have hq:=(Hp.set (w':=w.setRow g (cur.toList.take (of0+iz+j)++us++cur.toList.drop (of0+iz+j+us.length)).toArray) hpt O O O (setRow_heap w g cur _ El _ hg) (fun k hk=>setRow_other w g k _ hk)).shutO (off:=of0) (n:=l.length) (cap:=cap) (sz:=Rep.sz α) (xs:=xs.take iz++(cs.take j++us++cs.drop (j+us.length))++xs.drop (iz+Rep.sz α)) h2 h3 (by
   simp only[List.size_toArray,List.length_append,List.length_take,List.length_drop,Array.length_toList];omega) (by
   rw[List.toList_toArray]
   have hlenx:(xs.take iz++(cs.take j++us++cs.drop (j+us.length))++xs.drop (iz+Rep.sz α)).length=l.length*Rep.sz α:=by
    simp only[List.length_append,List.length_take,List.length_drop];omega
   apply List.ext_getElem?
   intro q
   rcases Nat.lt_or_ge q (l.length*Rep.sz α) with hq|hq
   ·have hx5:∀q,q<l.length*Rep.sz α→xs[q]?=cur.toList[of0+q]?:=fun q hq=>by
     rw[←h5,List.getElem?_take,if_pos hq,List.getElem?_drop]
    have hcq:∀q,q<Rep.sz α→cs[q]?=cur.toList[of0+iz+q]?:=fun q hq=>by
     rw[hseg,List.getElem?_take,if_pos hq,List.getElem?_drop,hx5 _ (by omega)]
     congr 1;omega
    rw[List.getElem?_take,if_pos hq,List.getElem?_drop]
    have t1:(cur.toList.take (of0+iz+j)).length=of0+iz+j:=by rw[List.length_take,Array.length_toList];omega
    have t2:(xs.take iz).length=iz:=by rw[List.length_take];omega
    have t3:(cs.take j).length=j:=by rw[List.length_take];omega
    have t4:(cs.take j++us++cs.drop (j+us.length)).length=Rep.sz α:=by simp only[List.length_append,List.length_take,List.length_drop];omega
    simp only[List.append_assoc] at t4⊢
    rcases Nat.lt_or_ge q iz with c1|c1
    ·rw[List.getElem?_append_left (by omega),List.getElem?_take,if_pos (by omega),List.getElem?_append_left (by omega),List.getElem?_take,if_pos c1,hx5 q hq]
    rw[List.getElem?_append_right (l₁:=xs.take iz) (by omega),t2]
    rcases Nat.lt_or_ge q (iz+j) with c2|c2
    ·rw[List.getElem?_append_left (by omega),List.getElem?_take,if_pos (by omega),List.getElem?_append_left (by omega),List.getElem?_take,if_pos (by omega),hcq _ (by omega)]
     congr 1;omega
    rw[List.getElem?_append_right (l₁:=cur.toList.take (of0+iz+j)) (by omega),t1,List.getElem?_append_right (l₁:=cs.take j) (by omega),t3]
    rcases Nat.lt_or_ge q (iz+j+us.length) with c3|c3
    ·rw[List.getElem?_append_left (by omega),List.getElem?_append_left (by omega)]
     congr 1;omega
    rw[List.getElem?_append_right (l₁:=us) (by omega),List.getElem?_append_right (l₁:=us) (by omega),List.getElem?_drop]
    rcases Nat.lt_or_ge q (iz+Rep.sz α) with c4|c4
    ·rw[List.getElem?_append_left (by rw[List.length_drop];omega),List.getElem?_drop,hcq _ (by omega)]
     congr 1;omega
    rw[List.getElem?_append_right (by rw[List.length_drop];omega),List.getElem?_drop,List.length_drop,hx5 _ (by omega)]
    congr 1;omega
   rw[List.getElem?_eq_none (by rw[List.length_take];omega),List.getElem?_eq_none (by rw[hlenx];exact hq)])
 unfold rE
 rw[List.length_set]
 exact hq
end
instance rep1Enc {α:Type} [Enc α]:Rep1 α:=⟨fun h v hv=>by
 have h':_=Enc.enc _:=h
 rw[h'] at hv;exact Enc.one _ v hv,Enc.pos⟩
instance rep1Node:Rep1 Node:=⟨fun{ρ a cs} h v hv=>by
 obtain⟨u,rfl,hu⟩:=NodeAt.opens (show NodeAt ρ a cs from h)
 have h1:=aH.one hu
 simp only[List.mem_cons,List.not_mem_nil,or_false] at hv
 rcases hv with rfl|rfl|rfl|rfl|rfl<;>first|rfl|exact h1,by decide⟩
open Vl (vl)
open Go.ChangeMaps (setBlock)
instance vlSl:Vl Sl:=⟨fun s=>s.v⟩
def mset {κ β:Type} [DecidableEq κ] (l:List (κ×β)) (k:κ) (v:β):List (κ×β):=if mhas l k then I9 l k v else l
section
variable {κ β:Type} [DecidableEq κ]
theorem mhas_iff {l:List (κ×β)} {k:κ}:mhas l k=true↔k∈l.map (·.1):=by
 unfold mhas jL
 rw[Option.isSome_map,List.find?_isSome]
 simp
theorem mget_mem {l:List (κ×β)} (hn:(l.map (·.1)).Nodup) {k:κ} {v:β} (h:(k,v)∈l):jL l k=some v:=by
 obtain⟨j,A⟩:=List.getElem?_of_mem h
 exact mget_at hn A
theorem Q3 {l:List (κ×β)} (hn:(l.map (·.1)).Nodup) {k:κ} {j:Nat} (h:(l.map (·.1))[j]?=some k):l.filter (fun p=> !decide (p.1=k))=l.eraseIdx j:=by
 induction l generalizing j with
 |nil=>simp at h
 |cons p l ih=>
  rw[List.map_cons,List.nodup_cons] at hn
  cases j with
  |zero=>
   simp at h
   rw[List.filter_cons_of_neg (by simp[h]),List.eraseIdx_cons_zero]
   refine List.filter_eq_self.2 fun q hq=>?_
   simp only[Bool.not_eq_true',decide_eq_false_iff_not]
   intro e
   exact hn.1 (by rw[h,←e];exact List.mem_map_of_mem hq)
  |succ j=>
   simp only[List.map_cons,List.getElem?_cons_succ] at h
   have hne:¬p.1=k:=fun e=>hn.1 (by rw[e];exact List.mem_of_getElem? h)
   rw[List.filter_cons_of_pos (by simp[hne]),ih hn.2 h];rfl
theorem filter_all {l:List (κ×β)} {k:κ} (h:k∉l.map (·.1)):l.filter (fun p=> !decide (p.1=k))=l:=by
 refine List.filter_eq_self.2 fun q hq=>?_
 simp only[Bool.not_eq_true',decide_eq_false_iff_not]
 intro e
 exact h (by rw[←e];exact List.mem_map_of_mem hq)
theorem aG6 {l:List (κ×β)} (hn:(l.map (·.1)).Nodup) {k:κ} {j:Nat} (h:(l.map (·.1))[j]?=some k):∃v,l[j]?=some (k,v)∧jL l k=some v:=by
 rw[List.getElem?_map] at h
 obtain⟨p,A,rfl⟩:=Option.map_eq_some_iff.1 h
 exact⟨p.2,A,mget_at hn A⟩
theorem map_eraseIdx {γ δ:Type} (f:γ→δ) (l:List γ) (i:Nat):(l.eraseIdx i).map f=(l.map f).eraseIdx i:=map_erase f l i
theorem mput_keys_eq {l:List (κ×β)} {γ:Type} {m:List (κ×γ)} (h:l.map (·.1)=m.map (·.1)) (k:κ) (v:β) (u:γ):(I9 l k v).map (·.1)=(I9 m k u).map (·.1):=by
 rw[D9,D9,h]
theorem mput_nodup {l:List (κ×β)} (h:(l.map (·.1)).Nodup) (k:κ) (v:β):((I9 l k v).map (·.1)).Nodup:=by
 rw[D9]
 split
 ·exact h
 rename_i hk
 rw[List.nodup_append]
 refine⟨h,by simp,fun a ha b hb=>?_⟩
 rw[List.mem_singleton.1 hb]
 intro e;exact hk (e▸ha)
end
section
variable {κ α:Type} [DecidableEq κ] [Enc α]
def RowsM (Ti:TypeId) (us:List (κ×Sl)) (l:List (κ×List α)):bP:=fun h=>gZ Ti (us.map Prod.snd) (l.map Prod.snd) h∧us.map (·.1)=l.map (·.1)∧(us.map (·.1)).Nodup
def RowsX (Ti:TypeId) (us:List (κ×Sl)) (l:List (κ×List α)) (k:κ):bP:=fun h=>gZ Ti ((us.filter fun p=> !decide (p.1=k)).map Prod.snd) ((l.filter fun p=> !decide (p.1=k)).map Prod.snd) h∧us.map (·.1)=l.map (·.1)∧(us.map (·.1)).Nodup
omit [DecidableEq κ] in
theorem RowsM.nil (Ti:TypeId):RowsM Ti ([]:List (κ×Sl)) ([]:List (κ×List α)) PH.emp:=⟨O,O,by simp⟩
def aF7 (ρ:PH) (us:List (κ×Sl)) (l:List (κ×List α)):Prop:=us.map (·.1)=l.map (·.1)∧(us.map (·.1)).Nodup∧∀k,aH ρ ((jL us k).getD Sl.nil).v ((jL l k).getD [])
variable {Z:World} {ρ:PH} {L:List bP} {w:World} {Ti:TypeId} {us:List (κ×Sl)} {l:List (κ×List α)} {k:κ} {v:Value}
omit [DecidableEq κ] in
theorem RowsM.keys (h:Hp Z ρ (RowsM Ti us l::L) w):us.map (·.1)=l.map (·.1):=(Hp.fact (A:=gZ Ti (us.map Prod.snd) (l.map Prod.snd)) h).2.1
omit [DecidableEq κ] [Enc α] in
theorem Hp.addFact {A:bP} {p:Prop} (h:Hp Z ρ (A::L) w) (B:p):Hp Z ρ ((fun k=>A k∧p)::L) w:=h.imp fun _ a=>⟨a,B⟩
theorem RowsM.take (h:Hp Z ρ (RowsM Ti us l::L) w) (k:κ):Hp Z ρ (aF Ti ((jL us k).getD Sl.nil).v ((jL l k).getD [])::RowsX Ti us l k::L) w:=by
 obtain⟨hr,hk,hn⟩:=Hp.fact (A:=gZ Ti (us.map Prod.snd) (l.map Prod.snd)) h
 have hn2:(l.map (·.1)).Nodup:=hk▸hn
 have done:Hp Z ρ (aF Ti ((jL us k).getD Sl.nil).v ((jL l k).getD [])::gZ Ti ((us.filter fun p=> !decide (p.1=k)).map Prod.snd) ((l.filter fun p=> !decide (p.1=k)).map Prod.snd)::L) w:=by
  by_cases B:k∈us.map (·.1)
  ·obtain⟨j,D⟩:=List.getElem?_of_mem B
   obtain⟨u,hu,hu2⟩:=aG6 hn D
   have hj2:(l.map (·.1))[j]?=some k:=hk▸D
   obtain⟨r,hr1,hr2⟩:=aG6 hn2 hj2
   rw[hu2,hr2,Q3 hn D,Q3 hn2 hj2,map_eraseIdx,map_eraseIdx]
   exact hr.to fun s=>(gZ.take j (by rw[List.getElem?_map,hu];rfl) (by rw[List.getElem?_map,hr1];rfl)).1 s
  rw[aC1 B,aC1 (hk▸B),filter_all B,filter_all (hk▸B)]
  exact hr.emp (aF.nil Ti)
 exact(((done.get 1 O).addFact ⟨hk,hn⟩).get 1 O)
theorem RowsX.put {s:Sl} {v:Value} (he:s.v=v) {r:List α} (h:Hp Z ρ (aF Ti v r::RowsX Ti us l k::L) w):Hp Z ρ (RowsM Ti (I9 us k s) (I9 l k r)::L) w:=by
 subst he
 obtain⟨h1,hk,hn⟩:=Hp.fact (A:=gZ Ti ((us.filter fun p=> !decide (p.1=k)).map Prod.snd) ((l.filter fun p=> !decide (p.1=k)).map Prod.snd)) (h.get 1 O)
 have hr:=h1.get 1 O
 have hn2:(l.map (·.1)).Nodup:=hk▸hn
 refine Hp.addFact ?_ ⟨mput_keys_eq hk k s r,mput_nodup hn k s⟩
 by_cases B:k∈us.map (·.1)
 ·obtain⟨j,G⟩:=List.getElem?_of_mem B
  have hj2:(l.map (·.1))[j]?=some k:=hk▸G
  have F:=(List.getElem?_eq_some_iff.1 G).1
  have D:=(List.getElem?_eq_some_iff.1 hj2).1
  rw[List.length_map] at F D
  rw[mput_at hn G,mput_at hn2 hj2]
  rw[Q3 hn G,Q3 hn2 hj2,map_eraseIdx,map_eraseIdx] at hr
  refine hr.to fun t=>(gZ.take j (u:=s) (r:=r) (by rw[List.map_set,List.getElem?_set_self (by simpa using F)]) (by rw[List.map_set,List.getElem?_set_self (by simpa using D)])).2 ?_
  rw[List.map_set,List.map_set,List.eraseIdx_set_eq,List.eraseIdx_set_eq]
  exact t
 rw[mput_new B,mput_new (hk▸B),List.map_append,List.map_append]
 rw[filter_all B,filter_all (hk▸B)] at hr
 exact hr.to fun t=>gZ.snoc t
theorem RowsX.back {v:Value} (he:((jL us k).getD Sl.nil).v=v) {r:List α} (h:Hp Z ρ (aF Ti v r::RowsX Ti us l k::L) w):Hp Z ρ (RowsM Ti us (mset l k r)::L) w:=by
 subst he
 obtain⟨h1,hk,hn⟩:=Hp.fact (A:=gZ Ti ((us.filter fun p=> !decide (p.1=k)).map Prod.snd) ((l.filter fun p=> !decide (p.1=k)).map Prod.snd)) (h.get 1 O)
 have hr:=h1.get 1 O
 have hn2:(l.map (·.1)).Nodup:=hk▸hn
 unfold mset
 by_cases B:k∈us.map (·.1)
 ·rw[if_pos (mhas_iff.2 (hk▸B))]
  refine Hp.addFact ?_ ⟨by rw[D9,if_pos (hk▸B)];exact hk,hn⟩
  obtain⟨j,F⟩:=List.getElem?_of_mem B
  have hj2:(l.map (·.1))[j]?=some k:=hk▸F
  obtain⟨u,hu,hu2⟩:=aG6 hn F
  have D:=(List.getElem?_eq_some_iff.1 hj2).1
  rw[List.length_map] at D
  rw[mput_at hn2 hj2]
  rw[hu2,Q3 hn F,Q3 hn2 hj2,map_eraseIdx,map_eraseIdx] at hr
  refine hr.to fun t=>(gZ.take j (u:=u) (r:=r) (by rw[List.getElem?_map,hu];rfl) (by rw[List.map_set,List.getElem?_set_self (by simpa using D)])).2 ?_
  rw[List.map_set,List.eraseIdx_set_eq]
  exact t
 rw[if_neg (fun h=>B (hk▸mhas_iff.1 h))]
 refine Hp.addFact ?_ ⟨hk,hn⟩
 rw[filter_all B,filter_all (hk▸B)] at hr
 exact hr.drop
theorem RowsM.ro {h:PH} (d:ρ.dj h) (a:RowsM Ti us l h):aF7 (ρ.un h) us l:=by
 obtain⟨hr,hk,hn⟩:=a
 have hn2:(l.map (·.1)).Nodup:=hk▸hn
 refine⟨hk,hn,fun k=>?_⟩
 by_cases A:k∈us.map (·.1)
 ·obtain⟨j,B⟩:=List.getElem?_of_mem A
  obtain⟨u,hu,hu2⟩:=aG6 hn B
  obtain⟨r,hr1,hr2⟩:=aG6 hn2 (hk▸B:(l.map (·.1))[j]?=some k)
  rw[hu2,hr2]
  obtain⟨k',h4,h5⟩:=gZ.at_ j hr (by rw[List.getElem?_map,hu];rfl) (by rw[List.getElem?_map,hr1];rfl)
  have h6:aH (PH.emp.un k') u.v r:=aF.ro (PH.dj_emp k').symm h4
  exact h6.mono (by
   have:PH.emp.un k'=k':=by funext x;rfl
   rw[this];exact h5.tr (PH.le_un_r d))
 rw[aC1 A,aC1 (hk▸A)]
 exact aH.nil _
theorem aF7.mono {ρ':PH} (h:aF7 ρ us l) (A:ρ.le ρ'):aF7 ρ' us l:=⟨h.1,h.2.1,fun k=>(h.2.2 k).mono A⟩
theorem aF7.get (h:aF7 ρ us l) (k:κ):∃v,((jL us k).getD Sl.nil).v=v∧aH ρ v ((jL l k).getD []):=⟨_,O,h.2.2 k⟩
theorem aF7.at_ (h:aF7 ρ us l) {u:Sl} (A:(k,u)∈us):aH ρ (vl u) ((jL l k).getD []):=by
 have:=h.2.2 k
 rw[mget_mem h.2.1 A] at this
 exact this
end
section
variable {Rn:Option Nat} {P:Program} {ops:Array Oper} {Q:Exit→Act→World→Prop} {rest:List Oper} {o:Oper} {a:Act} {w:World} {Df:List Deferred} {N:Nat} {E:Ent} {d:Nat} {Z:World} {ρ:PH} {L:List bP}
variable {κ β:Type} [Vl κ] [Vl β]
theorem MapIt.sub {b r:Nat} {l rem:List (κ×β)} {cur:Option (κ×β)} (h:Hp Z ρ (MapIt b r l rem cur::L) w):rem.Sublist l:=by
 obtain⟨es,clock,since,seen,last,_,_,_,_,_,_,h5,_⟩:=h.it
 exact h5
theorem MapIt.mem {b r:Nat} {l rem rem':List (κ×β)} {cur:Option (κ×β)} {e:κ×β} (h:Hp Z ρ (MapIt b r l rem cur::L) w) (A:rem.Perm (e::rem')):e∈l:=(MapIt.sub h).subset (A.symm.subset (by simp))
variable [DecidableEq κ]
end
section
variable {Rn:Option Nat} {P:Program} {ops:Array Oper} {Q:Exit→Act→World→Prop} {rest:List Oper} {o:Oper} {a:Act} {w:World} {Df:List Deferred} {N:Nat} {E:Ent} {d:Nat} {Z:World} {ρ:PH} {L:List bP} {C:World→Prop}
variable {α:Type} [Enc α] {T Ti To Tr:TypeId} {v:Value} {us:List Sl} {l:List (List α)} {bytes:Nat}
theorem ex_nil {x:Operand} (B:o.op= .nilCheck x) (D:EnvD Df N E a) {p:Addr} (A:evo E x=some (.pointer (some p))):Ex P C a o (.pointer (some p)):=fun w _=>by
 simp[execOp,B,D.eval A]
theorem gZ.app:∀{us us2:List Sl} {l l2:List (List α)} {ρ h:PH} {L:List bP},Sep ρ (gZ Ti us2 l2::gZ Ti us l::L) h→Sep ρ (gZ Ti (us++us2) (l++l2)::L) h
 | [],us2,[],l2,ρ,h,L,hs=>Sep.cons_mono (fun ρ h s=>Sep.emp1.1 s) hs
 | [],_,_::_,_,_,_,_,hs=>by obtain⟨_,_,_,k,a,_⟩:=hs;exact a.elim
 |_::_,_,[],_,_,_,_,hs=>by obtain⟨_,_,_,k,a,_⟩:=hs;exact a.elim
 |u::us,us2,r::l,l2,ρ,h,L,hs=>
  Sep.two.2 (Sep.cons_mono (fun ρ h s=>gZ.app s) (Sep.swap (Sep.cons_mono (fun ρ h s=>Sep.two.1 s) hs) |> fun s=>Sep.cons_mono (fun ρ h s=>s) s))
end
section
variable {Rn:Option Nat} {P:Program} {fn:Func} {R:Ending→World→Prop} {a:Act} {w:World} {Df:List Deferred} {N:Nat} {E:Ent}
end
def RoFull {α:Type} [Rep α] (ρ:PH) (v:Value) (l:List α):Prop:=aH ρ v l∧∃A,v= .slice A l.length l.length
theorem RoFull.mono {α:Type} [Rep α] {ρ ρ':PH} {v:Value} {l:List α} (h:RoFull ρ v l) (A:ρ.le ρ'):RoFull ρ' v l:=⟨h.1.mono A,h.2⟩
section
variable {P:Program} {o:Oper} {a:Act} {C:World→Prop} {Df:List Deferred} {N:Nat} {E:Ent}
end
section
variable {α:Type} [Rep α] [Rep1 α] {Rn:Option Nat} {P:Program} {ops:Array Oper} {Q:Exit→Act→World→Prop} {rest:List Oper} {o:Oper} {a:Act} {w:World} {Df:List Deferred} {N:Nat} {E:Ent} {d:Nat} {Z:World} {ρ:PH} {L:List bP}
end
instance rep1List {α:Type} [Rep α]:Rep1 (List α):=⟨fun h v hv=>by
 obtain⟨u,rfl,h⟩:=h
 rw[List.mem_singleton.1 hv];exact h.one,Nat.one_pos⟩
section
variable {Rn:Option Nat} {P:Program} {ops:Array Oper} {Q:Exit→Act→World→Prop} {rest:List Oper} {o:Oper} {a:Act} {w:World} {Df:List Deferred} {N:Nat} {E:Ent} {d:Nat} {Z:World} {ρ:PH} {L:List bP}
variable {α:Type} [Enc α] {T El:TypeId} {bytes:Nat} {v:Value} {l r:List α}
theorem aF.view (A:Hp Z ρ L w) (k:Nat) (hk:L[k]?=some (aF El v l)) (ht:SlTy P T El (Enc.sz α) bytes) (lo hi:Option (IntKind×Int)) {i j:Int} (hlo:i=match lo with|none=>0|some p=>p.2) (hhi:j=match hi with|none=>(l.length:Int)|some p=>p.2) (hr:sub l i j=some r):
  ∃v',∀w,(Instr.sliceAt T v (lo.map fun p=> .int p.1 p.2) (hi.map fun p=> .int p.1 p.2) none).run P w= .ok v' w:=by
 obtain⟨κ,ha,hd,_⟩:=(A.get k hk).lend
 obtain⟨v',h,_⟩:=aH.part (aF.ro hd ha) ht lo hi hlo hhi hr
 exact⟨v',h⟩
omit [Enc α] in
theorem sl_det [Rep α] (w:World) {x y:Option Value} {v1 v2:Value} (h1:∀w,(Instr.sliceAt T v x y none).run P w= .ok v1 w) (h2:∀w,(Instr.sliceAt T v x y none).run P w= .ok v2 w) (h:aH ρ v1 l):aH ρ v2 l:=by
 have:=(h1 w).symm.trans (h2 w)
 injection this with e
 exact e▸h
theorem repAll_flat:∀(l:List α),fU ρ l (flat l)
 | []=>rfl
 |a::l=>⟨Enc.enc a,flat l,by simp[flat],rfl,repAll_flat l⟩
theorem repAll_eq:∀{l:List α} {xs:List Value},fU ρ l xs→xs=flat l
 | [],_,e=>e
 |a::l,_,⟨c,r,e,A,hr⟩=>by
  have hc':c=Enc.enc a:=A
  rw[e,hc',repAll_eq hr];simp[flat]
theorem G9 (wk:Region.wanted o (yielded ops a.tmps)=true) (hd:o.dst=none) (I:EnvD Df N E a) (D:Hp Z ρ L w) {x y:Operand} (F:o.op= .store T x y) {g off:Nat} (B:evo E x=some (.pointer (some ⟨g,off,none⟩))) {u:Value} (hy:evo E y=some u) (k:Nat) (hk:L[k]?=some (aF El v l))
  {i:Int} {e:α} (hi:idx l i=some e) (hv:∃of0 cap,v= .slice (some ⟨g,of0,none⟩) l.length cap∧off=of0+i.toNat*Enc.sz α) {e':α} (ht:∀w,(sizeOf T).run P w= .ok (Enc.enc e').length w) (G:u.cells=(Enc.enc e').toArray) (hgc:∀(q:Nat) (z:Value),(Enc.enc e)[q]?=some z→w.cell? ⟨g,off+q,none⟩=some z)
  (K:∀w,Hp Z ρ (L.set k (aF El v (l.set i.toNat e'))) w→wpL Rn P ops Q rest a w):wpL Rn P ops Q (o::rest) a w:=by
 have h1:=Enc.len e'
 have h2:=Enc.len e
 refine s_stelR wk hd I D F B hy k (xs:=flat l) hk (repAll_flat l) hi hv 0 ht O G (cs:=Enc.enc e) (e':=e') O hgc ?_ ?_ fun w xs' H A=>K w ?_
 ·show _=Enc.enc e'
  rw[List.take_zero,List.nil_append,Nat.zero_add,List.drop_of_length_le (by omega),List.append_nil]
 ·show Nat.ble (0+(Enc.enc e').length) (Enc.sz α)=true
  rw[Nat.ble_eq];omega
 rw[repAll_eq H] at A
 exact A
omit [Enc α] in
theorem s_unitV (wk:Region.wanted o (yielded ops a.tmps)=true) (hd:o.dst=none) (hE:EnvD Df N E a) {u:Value} {w':World} (A:(execOp a.eval o).run P w= .ok (.value u) w') (K:wpL Rn P ops Q rest a w'):wpL Rn P ops Q (o::rest) a w:=
 l_value wk A (by rw[hd];exact K)
end
def hd (au:List Sl) (i:Nat):Sl:=au.getD i Sl.nil
def wmap (au:List Sl) (ids:List (List Nat)):List (List Sl):=ids.map fun r=>r.map (hd au)
theorem hd_get {au:List Sl} {i:Nat} {u:Sl} (h:au[i]?=some u):hd au i=u:=by unfold hd;rw[List.getD_eq_getElem?_getD,h];rfl
theorem idx_map' {α β:Type} {f:α→β} {l:List α} {i:Int} {a:α} (h:idx l i=some a):idx (l.map f) i=some (f a):=by
 obtain⟨h0,_,h1⟩:=qJ h
 unfold idx;rw[if_pos h0,List.getElem?_map,h1];rfl
theorem wmap_idx {au:List Sl} {ids:List (List Nat)} {i:Int} {r:List Nat} (h:idx ids i=some r):idx (wmap au ids) i=some (r.map (hd au)):=idx_map' h
theorem wmap_len {au:List Sl} {ids:List (List Nat)}:(wmap au ids).length=ids.length:=by unfold wmap;rw[List.length_map]
theorem wmap_nils {au:List Sl} (n:Nat):wmap au (List.replicate n [])=List.replicate n []:=by unfold wmap;simp
section
variable {Z:World} {ρ:PH} {L:List bP} {w:World} {α:Type} [Enc α] {Ti:TypeId} {au:List Sl} {l:List (List α)}
theorem Hp.arLen (A:Hp Z ρ (gZ Ti au l::L) w):au.length=l.length:=gZ.len A.sep
def ArX (Ti:TypeId) (au:List Sl) (l:List (List α)) (i:Nat):bP:=gZ Ti (au.eraseIdx i) (l.eraseIdx i)
theorem Hp.arTake {i:Nat} {c:List α} (hi:l[i]?=some c) (A:Hp Z ρ (gZ Ti au l::L) w):Hp Z ρ (aF Ti (hd au i).v c::ArX Ti au l i::L) w:=by
 have hl:=A.arLen
 obtain⟨h1,_⟩:=List.getElem?_eq_some_iff.1 hi
 have hu:au[i]?=some au[i]:=List.getElem?_eq_getElem (by omega)
 rw[hd_get hu]
 exact A.to (gZ.take i hu hi).1
theorem Hp.arBack {i:Nat} {c c':List α} (hi:l[i]?=some c) (hl:au.length=l.length) (A:Hp Z ρ (aF Ti (hd au i).v c'::ArX Ti au l i::L) w):Hp Z ρ (gZ Ti au (l.set i c')::L) w:=by
 obtain⟨h1,_⟩:=List.getElem?_eq_some_iff.1 hi
 have hu:au[i]?=some au[i]:=List.getElem?_eq_getElem (by omega)
 rw[hd_get hu] at A
 refine A.to fun s=>(gZ.take (us:=au) (l:=l.set i c') (r:=c') i hu (by rw[List.getElem?_set_self h1])).2 ?_
 rw[List.eraseIdx_set_eq];exact s
end
def TblZ {α:Type} [Enc α] (T Ti:TypeId) (v:Value) (us:List Sl) (l:List (List α)) (i:Int):bP:=star (aF T v us) (gZ Ti (us.set i.toNat Sl.nil) (l.set i.toNat []))
section
variable {Rn:Option Nat} {P:Program} {ops:Array Oper} {Q:Exit→Act→World→Prop} {rest:List Oper} {o:Oper} {a:Act} {w:World} {Df:List Deferred} {N:Nat} {E:Ent} {d:Nat} {Z:World} {ρ:PH} {L:List bP}
variable {α:Type} [Enc α] {T Ti To Tr:TypeId} {v:Value} {us:List Sl} {l:List (List α)} {bytes:Nat}
theorem bZ.lendRow (A:Hp Z ρ L w) (k:Nat) (hk:L[k]?=some (bZ T Ti v us l)) {i:Int} {u:Sl} {r:List α} (hu:idx us i=some u) (hi:idx l i=some r):
  Hp Z ρ (aF Ti u.v r::TblZ T Ti v us l i::L.eraseIdx k) w:=by
 obtain⟨_,hui,hus⟩:=qJ hu
 obtain⟨_,hli,hls⟩:=qJ hi
 refine(bZ.focus A k hk hu hi).to fun s=>Sep.cons_mono (fun ρ h s=>Sep.two.2 (Sep.swap ?_)) s
 refine(gZ.take (us:=us.set i.toNat Sl.nil) (l:=l.set i.toNat []) (u:=Sl.nil) (r:=([]:List α)) i.toNat (by rw[List.getElem?_set_self (by omega)]) (by rw[List.getElem?_set_self (by omega)])).2 ?_
 rw[List.eraseIdx_set_eq,List.eraseIdx_set_eq]
 refine⟨PH.emp,aF.nil Ti,PH.dj_emp ρ,?_⟩
 have e:ρ.un PH.emp=ρ:=by funext b;unfold PH.un PH.emp;cases ρ b<;>rfl
 rw[e];exact s
theorem TblZ.lens {i:Int} (A:Hp Z ρ (TblZ T Ti v us l i::L) w):us.length=l.length:=by
 have:=gZ.len (Sep.swap (A.to Sep.two.1).sep)
 simpa using this
theorem TblZ.hdr {i:Int} (D:Hp Z ρ L w) (k:Nat) (hk:L[k]?=some (TblZ T Ti v us l i)) (ht:SlTy P To T 1 bytes) {j:Int} {r:List α} (hi:idx l j=some r):
  ∃(u:Sl) (g off:Nat),idx us j=some u∧(∀w,(Instr.indexAt To v (.int .i64 j)).run P w= .ok (.pointer (some ⟨g,off,none⟩)) w)∧(∃of0 cap,v= .slice (some ⟨g,of0,none⟩) us.length cap∧off=of0+j.toNat*1)∧
   ∀(q:Nat) (x:Value),[u.v][q]?=some x→∀ρ' L' w,Hp Z ρ' (TblZ T Ti v us l i::L') w→w.cell? ⟨g,off+q,none⟩=some x:=by
 have h:=(D.get k hk)
 obtain⟨i0,i1,i2⟩:=qJ hi
 have hl:=TblZ.lens h
 have hu:idx us j=some us[j.toNat]:=by unfold idx;rw[if_pos i0];exact List.getElem?_eq_getElem (by omega)
 obtain⟨g,off,e1,e2,e3⟩:=aF.at (h.to Sep.two.1) 0 O ht hu
 exact⟨_,g,off,hu,e1,e2,fun q x A ρ' L' w B=>e3 q x A _ _ w (B.to Sep.two.1)⟩
def WTb (T Ti Tc:TypeId) (v:Value) (ua:List Sl×List Sl) (W:List (List Nat)×List (List Int)):bP:=star (bZ T Ti v ua.1 (wmap ua.2 W.1)) (gZ Tc ua.2 W.2)
variable {Tc:TypeId} {ua:List Sl×List Sl} {W:List (List Nat)×List (List Int)}
theorem WTb.opn (h:Hp Z ρ (WTb T Ti Tc v ua W::L) w):Hp Z ρ (bZ T Ti v ua.1 (wmap ua.2 W.1)::gZ Tc ua.2 W.2::L) w:=h.to Sep.two.1
theorem WTb.shut (h:Hp Z ρ (bZ T Ti v ua.1 (wmap ua.2 W.1)::gZ Tc ua.2 W.2::L) w):Hp Z ρ (WTb T Ti Tc v ua W::L) w:=h.to Sep.two.2
theorem WTb.slice (A:Hp Z ρ L w) (k:Nat) (hk:L[k]?=some (WTb T Ti Tc v ua W)):∃s:Sl,s.v=v:=bZ.slice (WTb.opn (A.get k hk)) 0 O
theorem WTb.cells (A:Hp Z ρ L w) (k:Nat) (hk:L[k]?=some (WTb T Ti Tc v ua W)):v.cells= #[v]:=by obtain⟨s,rfl⟩:=WTb.slice A k hk;exact s.cells
theorem WTb.one (A:Hp Z ρ L w) (k:Nat) (hk:L[k]?=some (WTb T Ti Tc v ua W)):v.oneCell'=true:=by obtain⟨s,rfl⟩:=WTb.slice A k hk;exact s.one
theorem WTb.len (A:Hp Z ρ L w) (k:Nat) (hk:L[k]?=some (WTb T Ti Tc v ua W)) (ht:SlTy P To T 1 bytes) (w:World) (ty:TypeId):(Builtin.len_ #[To] ty #[v]).run P w= .ok (.int .i64 W.1.length) w:=by
 rw[←wmap_len (au:=ua.2)]
 exact bZ.len (WTb.opn (A.get k hk)) 0 O ht w ty
theorem WTb.start (Tc:TypeId) {n:Nat} {us:List Sl} (A:Hp Z ρ (bZ T Ti v us (List.replicate n ([]:List Sl))::L) w):Hp Z ρ (WTb T Ti Tc v (us,[]) (List.replicate n [],[])::L) w:=by
 refine WTb.shut ?_
 rw[wmap_nils]
 exact A.to fun s=>Sep.cons_mono (fun ρ h s=>Sep.emp1.2 s) s
def TblL (T Ti:TypeId) (v:Value) (us:List Sl) (l:List (List Sl)):Option Int→bP
 |none=>bZ T Ti v us l
 |some i=>TblZ T Ti v us l i
def ArL (Tc:TypeId) (au:List Sl) (l:List (List Int)):Option (Nat×Value)→bP
 |none=>gZ Tc au l
 |some h=>fun k=>ArX Tc au l h.1 k∧au.length=l.length∧h.1<l.length∧(hd au h.1).v=h.2
def H5 (T Ti Tc:TypeId) (v:Value) (ua:List Sl×List Sl) (W:List (List Nat)×List (List Int)) (li:Option Int) (ai:Option (Nat×Value)):bP:=
 star (TblL T Ti v ua.1 (wmap ua.2 W.1) li) (ArL Tc ua.2 W.2 ai)
theorem H5.of (h:Hp Z ρ (WTb T Ti Tc v ua W::L) w):Hp Z ρ (H5 T Ti Tc v ua W none none::L) w:=h
theorem H5.to (h:Hp Z ρ (H5 T Ti Tc v ua W none none::L) w):Hp Z ρ (WTb T Ti Tc v ua W::L) w:=h
theorem OwnH.len {au:List Sl} {r:List Nat} (A:Hp Z ρ L w) (k:Nat) (hk:L[k]?=some (aF T v (r.map (hd au)))) (ht:SlTy P To T 1 bytes) (w:World) (ty:TypeId):(Builtin.len_ #[To] ty #[v]).run P w= .ok (.int .i64 r.length) w:=by
 have:=aF.len A k hk ht w ty
 rwa [List.length_map] at this
theorem OwnH.at {au:List Sl} {r:List Nat} {i:Int} {h:Nat} (A:Hp Z ρ L w) (k:Nat) (hk:L[k]?=some (aF T v (r.map (hd au)))) (ht:SlTy P To T 1 bytes) (hi:idx r i=some h):
  ∃g off,(∀w,(Instr.indexAt To v (.int .i64 i)).run P w= .ok (.pointer (some ⟨g,off,none⟩)) w)∧
   ∀(j:Nat) (x:Value),([(hd au h).v]:List Value)[j]?=some x→∀ρ' L' w,Hp Z ρ' (aF T v (r.map (hd au))::L') w→w.cell? ⟨g,off+j,none⟩=some x:=by
 obtain⟨g,off,e1,_,e3⟩:=aF.at A k hk ht (idx_map' (f:=hd au) hi)
 exact⟨g,off,e1,e3⟩
theorem H5.slice {li:Option Int} {ai:Option (Nat×Value)} (A:Hp Z ρ L w) (k:Nat) (hk:L[k]?=some (H5 T Ti Tc v ua W li ai)):∃s:Sl,s.v=v:=by
 cases li with
 |none=>exact bZ.slice ((A.get k hk).to Sep.two.1) 0 rfl
 |some i=>exact aF.toSl (((A.get k hk).to Sep.two.1).to Sep.two.1) 0 rfl
theorem H5.cells {li:Option Int} {ai:Option (Nat×Value)} (A:Hp Z ρ L w) (k:Nat) (hk:L[k]?=some (H5 T Ti Tc v ua W li ai)):v.cells= #[v]:=by obtain⟨s,rfl⟩:=H5.slice A k hk;exact s.cells
theorem H5.one {li:Option Int} {ai:Option (Nat×Value)} (A:Hp Z ρ L w) (k:Nat) (hk:L[k]?=some (H5 T Ti Tc v ua W li ai)):v.oneCell'=true:=by obtain⟨s,rfl⟩:=H5.slice A k hk;exact s.one
theorem H5.lend {ai:Option (Nat×Value)} {i:Int} {u:Sl} {r:List Nat} (hu:idx ua.1 i=some u) (hi:idx W.1 i=some r) (A:Hp Z ρ (H5 T Ti Tc v ua W none ai::L) w):
  Hp Z ρ (aF Ti u.v (r.map (hd ua.2))::H5 T Ti Tc v ua W (some i) ai::L) w:=by
 have h2:=bZ.lendRow (A.to Sep.two.1) 0 O hu (wmap_idx hi)
 exact h2.to fun s=>Sep.cons_mono (fun ρ h s=>Sep.two.2 s) s
theorem H5.take {li:Option Int} {i:Nat} {c:List Int} (hi:W.2[i]?=some c) (A:Hp Z ρ (H5 T Ti Tc v ua W li none::L) w):∃vc,(hd ua.2 i).v=vc∧Hp Z ρ (aF Tc vc c::H5 T Ti Tc v ua W li (some (i,vc))::L) w:=by
 have h1:Hp Z ρ (gZ Tc ua.2 W.2::TblL T Ti v ua.1 (wmap ua.2 W.1) li::L) w:=A.to fun s=>Sep.swap (Sep.two.1 s)
 have B:=h1.arLen
 have hlt:=(List.getElem?_eq_some_iff.1 hi).1
 exact⟨_,O,(Hp.arTake hi h1).to fun s=>Sep.cons_mono (fun ρ h s=>Sep.two.2 (Sep.swap (s.imp fun _ a=>⟨a,B,hlt,O⟩))) s⟩
theorem H5.back {li:Option Int} {i:Nat} {vc:Value} {c':List Int} (B:Hp Z ρ (aF Tc vc c'::H5 T Ti Tc v ua W li (some (i,vc))::L) w):Hp Z ρ (H5 T Ti Tc v ua (W.1,W.2.set i c') li none::L) w:=by
 have h1:Hp Z ρ ((fun k=>ArX Tc ua.2 W.2 i k∧ua.2.length=W.2.length∧i<W.2.length∧(hd ua.2 i).v=vc)::aF Tc vc c'::TblL T Ti v ua.1 (wmap ua.2 W.1) li::L) w:=
  B.to fun s=>Sep.swap (Sep.cons_mono (fun ρ h s=>Sep.swap (Sep.two.1 s)) s)
 obtain⟨_,D,hlt,hv⟩:=Hp.fact (A:=ArX Tc ua.2 W.2 i) h1
 subst hv
 have h2:Hp Z ρ (aF Tc (hd ua.2 i).v c'::ArX Tc ua.2 W.2 i::TblL T Ti v ua.1 (wmap ua.2 W.1) li::L) w:=(h1.imp fun _ a=>a.1).to fun s=>s.swap
 exact(Hp.arBack (List.getElem?_eq_getElem hlt) D h2).to fun s=>Sep.two.2 s.swap
theorem H5.lens {li:Option Int} {ai:Option (Nat×Value)} (A:Hp Z ρ (H5 T Ti Tc v ua W li ai::L) w):ua.1.length=W.1.length:=by
 rw[←wmap_len (au:=ua.2)]
 cases li with
 |none=>exact bZ.lens (A.to Sep.two.1)
 |some i=>exact TblZ.lens (A.to Sep.two.1)
theorem H5.hdr {li:Option Int} {ai:Option (Nat×Value)} {j:Int} (D:Hp Z ρ (H5 T Ti Tc v ua W li ai::L) w) (ht:SlTy P To T 1 bytes) {r:List Nat} (hi:idx W.1 j=some r):
  ∃(u:Sl) (g off:Nat),idx ua.1 j=some u∧(∀w,(Instr.indexAt To v (.int .i64 j)).run P w= .ok (.pointer (some ⟨g,off,none⟩)) w)∧(∃of0 cap,v= .slice (some ⟨g,of0,none⟩) ua.1.length cap∧off=of0+j.toNat*1)∧
   ∀(q:Nat) (x:Value),[u.v][q]?=some x→∀ρ' L' w,Hp Z ρ' (H5 T Ti Tc v ua W li ai::L') w→w.cell? ⟨g,off+q,none⟩=some x:=by
 cases li with
 |none=>
  obtain⟨u,g,off,e1,e2,e3,e4⟩:=bZ.hdr (D.to Sep.two.1) 0 O ht (wmap_idx hi)
  exact⟨u,g,off,e1,e2,e3,fun q x A ρ' L' w B=>e4 q x A ρ' _ w (B.to Sep.two.1)⟩
 |some i=>
  obtain⟨u,g,off,e1,e2,e3,e4⟩:=TblZ.hdr (D.to Sep.two.1) 0 O ht (wmap_idx hi)
  exact⟨u,g,off,e1,e2,e3,fun q x A ρ' L' w B=>e4 q x A ρ' _ w (B.to Sep.two.1)⟩
end
section
variable {P:Program} {Z:World} {ρ:PH} {L:List bP} {w:World} {α:Type} [Enc α] {T El:TypeId} {bytes:Nat} {v v':Value} {l r:List α}
def ViewF (El:TypeId) (v:Value) (l:List α) (v':Value) (r:List α):Prop:=∀ρ k,PH.dj ρ k→aF El v l k→aH (ρ.un k) v' r
theorem aF.viewF (A:Hp Z ρ L w) (k:Nat) (hk:L[k]?=some (aF El v l)) (ht:SlTy P T El (Enc.sz α) bytes) (lo hi:Option (IntKind×Int)) {i j:Int} (hlo:i=match lo with|none=>0|some p=>p.2) (hhi:j=match hi with|none=>(l.length:Int)|some p=>p.2) (hr:sub l i j=some r):
  ∃v',(∀w,(Instr.sliceAt T v (lo.map fun p=> .int p.1 p.2) (hi.map fun p=> .int p.1 p.2) none).run P w= .ok v' w)∧ViewF El v l v' r:=by
 obtain⟨κ,ha,hd,_⟩:=(A.get k hk).lend
 obtain⟨v',h,_⟩:=aH.part (aF.ro hd ha) ht lo hi hlo hhi hr
 refine⟨v',h,fun ρ' κ' hd' ha'=>?_⟩
 obtain⟨v2,h2,h3⟩:=aH.part (aF.ro hd' ha') ht lo hi hlo hhi hr
 exact sl_det w h2 h h3
theorem ViewF.len {sz:Nat} (h:ViewF El v l v' r) (A:Hp Z ρ L w) (k:Nat) (hk:L[k]?=some (aF El v l)) (ht:SlTy P T El sz bytes) (w:World) (ty:TypeId):(Builtin.len_ #[T] ty #[v']).run P w= .ok (.int .i64 r.length) w:=by
 obtain⟨κ,ha,hd,_⟩:=(A.get k hk).lend
 exact(h _ _ hd ha).len ht w ty
theorem ViewF.at (h:ViewF El v l v' r) (A:Hp Z ρ L w) (k:Nat) (hk:L[k]?=some (aF El v l)) (ht:SlTy P T El (Enc.sz α) bytes) {i:Int} {e:α} (hi:idx r i=some e):
  ∃g off,(∀w,(Instr.indexAt T v' (.int .i64 i)).run P w= .ok (.pointer (some ⟨g,off,none⟩)) w)∧
   ∀(j:Nat) (u:Value),(Enc.enc e)[j]?=some u→∀ρ' L' w,Hp Z ρ' (aF El v l::L') w→w.cell? ⟨g,off+j,none⟩=some u:=by
 obtain⟨κ,ha,hd,hh⟩:=(A.get k hk).lend
 obtain⟨b,o,cs,e1,_,_⟩:=(h _ _ hd ha).at ht hi
 refine⟨b,o,e1,fun j u B ρ' L' w' hw'=>?_⟩
 obtain⟨κ',ha',hd',hh'⟩:=hw'.lend
 obtain⟨b',o',cs',e1',e2',hat⟩:=(h _ _ hd' ha').at ht hi
 have e3:=(e1 w).symm.trans (e1' w)
 simp only[Result.ok.injEq,Value.pointer.injEq,Option.some.injEq,Addr.mk.injEq,and_true] at e3
 obtain⟨rfl,rfl⟩:=e3
 have e2'':cs'=Enc.enc e:=e2'
 subst e2''
 exact cell_of hh'.le (hat j u B)
end
end Go.Proofs.YtopnldfjcciieaaGreat

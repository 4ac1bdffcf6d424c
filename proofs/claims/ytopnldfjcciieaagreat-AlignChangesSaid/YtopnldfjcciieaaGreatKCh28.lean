/- The pairs that an alignment is found to consist of. -/
import Derived.Test.YtopnldfjcciieaaGreatKCh27
import Derived.Test.YtopnldfjcciieaaGreatKCh26
import Derived.Test.YtopnldfjcciieaaGreatKCh25
import Derived.Test.YtopnldfjcciieaaGreatKCh24
import Derived.Test.YtopnldfjcciieaaGreatKCh4
set_option linter.unusedVariables false
set_option linter.unusedSimpArgs false
namespace Go.Proofs.YtopnldfjcciieaaGreat
open Go.RowKit
def wr (L:List (Nat×Int)) (P:List Int):List Int:=L.foldl (fun P x=>P.set x.1 x.2) P
theorem wr_len:∀(L:List (Nat×Int)) (P:List Int),(wr L P).length=P.length
 | [],_=>rfl
 |x::L,P=>by
  have:=wr_len L (P.set x.1 x.2)
  rw[List.length_set] at this
  exact this
theorem wr_app (L M:List (Nat×Int)) (P:List Int):wr (L++M) P=wr M (wr L P):=by unfold wr;rw[List.foldl_append]
def nA (a:Node) (s:Nat):Int:=((kY a 0)[s]?).getD 0
def lbT (a:Node) (s:Nat):Lbl:=(((po [toT a])[s]?).map labT).getD ⟨0,ByteArray.empty⟩
def wP (a b:Node) (M:List (Nat×Nat)) (P:List Int):List Int:=wr (M.map fun m=>((nA a m.1).toNat,nA b m.2)) P
def wB (a b:Node) (M:List (Nat×Nat)) (P:List Int):List Int:=wr (M.map fun m=>((nA b m.2).toNat,nA a m.1)) P
theorem wP_len (a b:Node) (M:List (Nat×Nat)) (P:List Int):(wP a b M P).length=P.length:=wr_len _ _
theorem wB_len (a b:Node) (M:List (Nat×Nat)) (P:List Int):(wB a b M P).length=P.length:=wr_len _ _
theorem wP_app (a b:Node) (M N:List (Nat×Nat)) (P:List Int):wP a b (M++N) P=wP a b N (wP a b M P):=by unfold wP;rw[List.map_append,wr_app]
theorem wB_app (a b:Node) (M N:List (Nat×Nat)) (P:List Int):wB a b (M++N) P=wB a b N (wB a b M P):=by unfold wB;rw[List.map_append,wr_app]
def cs (a b:Node) (M:List (Nat×Nat)):Nat:=(M.map fun m=>rl (lbT a m.1) (lbT b m.2)).sum
theorem cs_app (a b:Node) (M N:List (Nat×Nat)):cs a b (M++N)=cs a b M+cs a b N:=by unfold cs;rw[List.map_append,List.sum_append]
def Cp (a b:Node) (m m':Nat×Nat):Prop:=m'.1<m.1∧m'.2<m.2∧(lf (toT a) m.1≤m'.1↔lf (toT b) m.2≤m'.2)
structure PM (a b:Node) (i k:Nat) (ti tk:Tr) (M:List (Nat×Nat)):Prop where
 rng:∀m∈M,i+1-szT ti≤lf (toT a) m.1∧m.1≤i∧k+1-szT tk≤lf (toT b) m.2∧m.2≤k
 pw:M.Pairwise (Cp a b)
 cost:fd [ti] [tk]+2*M.length=szT ti+szT tk+cs a b M
structure IM (a b:Node) (i k:Nat) (ti tk:Tr) (x y:Nat) (M:List (Nat×Nat)):Prop where
 rng:∀m∈M,i+1-szT ti≤lf (toT a) m.1∧i+1-szT ti+x≤m.1∧m.1≤i∧k+1-szT tk≤lf (toT b) m.2∧k+1-szT tk+y≤m.2∧m.2≤k∧
  ((lf (toT a) m.1≤i+1-szT ti∧lf (toT b) m.2≤k+1-szT tk)∨(i+1-szT ti+x≤lf (toT a) m.1∧k+1-szT tk+y≤lf (toT b) m.2))
 pw:M.Pairwise (Cp a b)
 cost:fd [ti] [tk]+2*M.length=fd (fr ti x) (fr tk y)+(szT ti-x)+(szT tk-y)+cs a b M
section
variable {a b:Node} {D:List (List Int)} {ti tk:Tr} {i k:Nat}
theorem lf_in {T:Tr} {u:Tr} {s m:Nat} (h:(po [T])[s]?=some u) (h1:s+1-szT u≤m) (h2:m≤s):s+1-szT u≤lf T m:=by
 have hs:=zA h
 rw[←I7 h] at h1⊢
 rcases Nat.lt_or_ge m s with h3|h3
 ·rcases laminar h3 hs with h4|h4<;>omega
 rw[show m=s by omega];exact Nat.le_refl _
theorem min3 {c p q d:Nat} (h:c=min (p+1) (min (q+1) d)) (h1:¬c=p+1) (h2:¬c=q+1):c=d:=by omega
set_option maxHeartbeats 1000000 in
theorem pair_r (ha:aU a≤300) (hb:aU b≤300) (hD:SubOf a b D):∀(f:Nat) (i k:Nat) (ti tk:Tr) (P B:List Int),(po [toT a])[i]?=some ti→(po [toT b])[k]?=some tk→i+k+1≤f→P.length=aU a→B.length=aU b→
  ∃M,jH f (alg a b D P B) (i:Int) (k:Int)=some (alg a b D (wP a b M P) (wB a b M B))∧PM a b i k ti tk M:=by
 intro f
 induction f with
 |zero=>intro i k ti tk P B _ _ h;omega
 |succ f ih=>
  intro i k ti tk P B hi hk hfu hP hB
  have hsi:=(pF [toT a] hi).1
  have hsk:=(pF [toT b] hk).1
  have hiT:=zA hi
  have hkT:=zA hk
  rw[uO] at hiT hkT
  have pti:=sW ti
  have ptk:=sW tk
  have eL:∀P B,(alg a b D P B).leftA=lefts 0 (po [toT a]):=fun _ _=>rfl
  have eR:∀P B,(alg a b D P B).leftB=lefts 0 (po [toT b]):=fun _ _=>rfl
  have eOA:∀P B,(alg a b D P B).orderA=kY a 0:=fun _ _=>rfl
  have eOB:∀P B,(alg a b D P B).orderB=kY b 0:=fun _ _=>rfl
  have ePt:∀P B,(alg a b D P B).partner=P:=fun _ _=>rfl
  have eBk:∀P B,(alg a b D P B).back=B:=fun _ _=>rfl
  have emk:∀P B P' B',Alg.mk (alg a b D P B).a (alg a b D P B).b (alg a b D P B).orderA (alg a b D P B).leftA (alg a b D P B).orderB (alg a b D P B).leftB (alg a b D P B).distances P' B'=alg a b D P' B':=fun _ _ _ _=>rfl
  obtain⟨F,hF,hq⟩:=forests_m (P:=P) (B:=B) ha hb hi hk hD
  obtain⟨R0,hR0,_⟩:=hq.at (x':=0) (y':=0) (Nat.zero_le _) (Or.inl (by omega))
  have hR0l:=hq.cols 0 R0 (by omega) hR0
  have cell:∀x y,x≤szT ti→y≤szT tk→∃r,F[x]?=some r∧r[y]?=some ((fd (fr ti x) (fr tk y):Nat):Int):=fun x y h1 h2=>hq.at h2 (Or.inl (by omega))
  have sm:∀x' y',x'≤szT ti→y'≤szT tk→fd (fr ti x') (fr tk y')≤x'+y':=fun x' y' h1 h2=>aB2 ti tk h1 h2
  obtain⟨r,h1,M,rfl,hM⟩:=D7 (body:=fun s=>jB (alg a b D P B) (jH f) ((i+1-szT ti:Nat):Int) ((k+1-szT tk:Nat):Int) F s.1 s.2.1 s.2.2.1 s.2.2.2)
   (fun s=>∃(x y:Nat) (M:List (Nat×Nat)),s=((x:Int),(y:Int),wP a b M P,wB a b M B)∧x≤szT ti∧y≤szT tk∧IM a b i k ti tk x y M) (fun s=>s.1.toNat+s.2.1.toNat)
   (fun r=>∃M,r=(wP a b M P,wB a b M B)∧PM a b i k ti tk M)
   (by
    rintro _ ⟨x,y,M,rfl,R,hy,hM⟩
    by_cases h0:x=0∨y=0
    ·right
     refine⟨_,by simp only[jB];rw[if_neg (by simp;omega)],M,O,fun m A=>?_,hM.pw,?_⟩
     ·have:=hM.rng m A;omega
     have:=hM.cost
     rcases h0 with rfl|rfl
     ·rw[G7,fd_r0,sz_fr tk hy] at this;omega
     rw[G7,fd_l0,sz_fr ti R] at this;omega
    left
    obtain⟨x,rfl⟩:∃x',x=x'+1:=⟨x-1,by omega⟩
    obtain⟨y,rfl⟩:∃y',y=y'+1:=⟨y-1,by omega⟩
    obtain⟨u,hu⟩:=dD (l:=po [ti]) (k:=x) (by rw[vI];omega)
    obtain⟨u',hu'⟩:=dD (l:=po [tk]) (k:=y) (by rw[vI];omega)
    have hA:(po [toT a])[i+1-szT ti+x]?=some u:=by rw[←sub_at hi (by omega)];exact hu
    have hB':(po [toT b])[k+1-szT tk+y]?=some u':=by rw[←sub_at hk (by omega)];exact hu'
    have su:=(pF [ti] hu).1
    have su':=(pF [tk] hu').1
    have pu:=sW u
    have pu':=sW u'
    have hcell:=fun h1 h2=>min3 (fd_fr ti tk (x:=x) (y:=y) (by omega) (by omega) hu hu') h1 h2
    have rle:=rl_le (labT u) (labT u')
    obtain⟨r0,z1,z2⟩:=cell (x+1) (y+1) (by omega) (by omega)
    obtain⟨r1,a1,a2⟩:=cell x (y+1) (by omega) (by omega)
    obtain⟨r2,b1,b2⟩:=cell (x+1) y (by omega) (by omega)
    rw[z1] at b1
    obtain rfl:=Option.some.inj b1
    obtain⟨r3,c1,c2⟩:=cell x y (by omega) (by omega)
    rw[a1] at c1
    obtain rfl:=Option.some.inj c1
    have s1:=sm x (y+1) (by omega) (by omega)
    have s2:=sm (x+1) y (by omega) (by omega)
    have s3:=sm x y (by omega) (by omega)
    have lA:=I5 a hA
    have lB:=I5 b hB'
    have fA:=I7 hA
    have fB:=I7 hB'
    have rel:=relab_m (D:=D) (P:=wP a b M P) (B:=wB a b M B) hA hB'
    obtain⟨n1,m1,m2,_⟩:=aE3 a hA
    obtain⟨n2,k1,k2,_⟩:=aE3 b hB'
    have inA:=fun m h1 h2=>lf_in (m:=m) hA h1 h2
    have inB:=fun m h1 h2=>lf_in (m:=m) hB' h1 h2
    have hcs:cs a b [(i+1-szT ti+x,k+1-szT tk+y)]=rl (labT u) (labT u'):=by
     unfold cs lbT;simp only[List.map_cons,List.map_nil,List.sum_cons,List.sum_nil];rw[hA,hB'];rfl
    have hnA:nA a (i+1-szT ti+x)=(n1:Int):=by unfold nA;rw[m1];rfl
    have hnB:nA b (k+1-szT tk+y)=(n2:Int):=by unfold nA;rw[k1];rfl
    have hrng:=hM.rng
    have hcost:=hM.cost
    have ihr:=ih (i+1-szT ti+x) (k+1-szT tk+y) u u' (wP a b M P) (wB a b M B) hA hB'
    generalize hp:i+1-szT ti=p at*
    generalize hqq:k+1-szT tk=q at*
    have hep:inK .i64 ((p:Int)+((x+1:Nat):Int))=some ((p+x+1:Nat):Int):=by rw[dX (by omega)];congr 1
    have heq:inK .i64 ((q:Int)+((y+1:Nat):Int))=some ((q+y+1:Nat):Int):=by rw[dX (by omega)];congr 1
    have hep0:inK .i64 (((p+x+1:Nat):Int)-1)=some ((p+x:Nat):Int):=by rw[dX (by omega)];congr 1;omega
    have heq0:inK .i64 (((q+y+1:Nat):Int)-1)=some ((q+y:Nat):Int):=by rw[dX (by omega)];congr 1;omega
    have hex0:inK .i64 (((x+1:Nat):Int)-1)=some (x:Int):=by rw[dX (by omega)];congr 1;omega
    have hey0:inK .i64 (((y+1:Nat):Int)-1)=some (y:Int):=by rw[dX (by omega)];congr 1;omega
    simp only[jB]
    rw[if_pos (by simp),emk,hep,bsn,hep0,bsn,heq,bsn,heq0,bsn,eL,aZ lA,bsn]
    have hcond:((if(decide ((((p+x)+1-szT u:Nat):Int)=(p:Int)))=true then(idx (alg a b D P B).leftB ((q+y:Nat):Int)).bind fun Q=>some (decide (Q=(q:Int))) else some false):Option Bool)=some (decide (szT u=x+1∧szT u'=y+1)):=by
     rw[eR,aZ lB,bsn]
     by_cases g1:szT u=x+1
     ·rw[if_pos (by simp;omega)]
      congr 1
      exact decide_eq_decide.2 (by omega)
     rw[if_neg (by simp;omega),decide_eq_false (by omega)]
    rw[hcond,bsn]
    have hm2:((if decide (szT u=x+1∧szT u'=y+1)=true then(idx F ((x+1:Nat):Int)).bind fun N=>(idx N ((y+1:Nat):Int)).bind fun L=>(inK .i64 (((x+1:Nat):Int)-1)).bind fun K=>(idx F K).bind fun J=>(inK .i64 (((y+1:Nat):Int)-1)).bind fun I=>(idx J I).bind fun H=>(iV (alg a b D (wP a b M P) (wB a b M B)) ((p+x:Nat):Int) ((q+y:Nat):Int)).bind fun G=>(inK .i64 (H+G)).bind fun E=>some (decide (L=E)) else some false):Option Bool)=
      some (decide ((szT u=x+1∧szT u'=y+1)∧fd (fr ti (x+1)) (fr tk (y+1))=fd (fr ti x) (fr tk y)+rl (labT u) (labT u'))):=by
     by_cases C:szT u=x+1∧szT u'=y+1
     ·rw[if_pos (by simpa using C),aZ z1,bsn,aZ z2,bsn,hex0,bsn,aZ a1,bsn,hey0,bsn,aZ c2,bsn,rel,bsn,dX (by omega),bsn]
      congr 1
      exact decide_eq_decide.2 (by omega)
     rw[if_neg (by simpa using C),decide_eq_false (fun h=>C h.1)]
    rw[hm2,bsn]
    by_cases hmt:(szT u=x+1∧szT u'=y+1)∧fd (fr ti (x+1)) (fr tk (y+1))=fd (fr ti x) (fr tk y)+rl (labT u) (labT u')
    ·
     obtain⟨v1,w1⟩:=dD (l:=wP a b M P) (k:=n1) (by rw[wP_len,hP];exact m2)
     obtain⟨v2,w2⟩:=dD (l:=wB a b M B) (k:=n2) (by rw[wB_len,hB];exact k2)
     rw[if_pos (by simpa using hmt),eOA,aZ m1,bsn,eOB,aZ k1,bsn,bsn,bsn,aZ w1,bsn,aZ w2,bsn,hex0,bsn,hey0,bsn]
     refine⟨_,O,⟨x,y,M++[(p+x,q+y)],?_,by omega,by omega,⟨fun m A=>?_,?_,?_⟩⟩,by simp only;omega⟩
     ·rw[wP_app,wB_app]
      unfold wP wB wr
      simp only[List.map_cons,List.map_nil,List.foldl_cons,List.foldl_nil,hnA,hnB]
     ·rw[hp,hqq]
      rcases List.mem_append.1 A with A|A
      ·have:=hrng m A;omega
      rw[List.mem_singleton.1 A];simp only;omega
     ·rw[List.pairwise_append]
      refine⟨hM.pw,List.pairwise_singleton _ _,fun m A m' hm'=>?_⟩
      rw[List.mem_singleton.1 hm']
      have:=hrng m A
      refine⟨by simp only;omega,by simp only;omega,?_⟩
      simp only;omega
     rw[cs_app,hcs,List.length_append,List.length_singleton];omega
    rw[if_neg (by simpa using hmt),aZ z1,bsn,aZ z2,bsn,hex0,bsn,aZ a1,bsn,aZ a2,bsn,dX (by omega),bsn]
    by_cases hd1:fd (fr ti (x+1)) (fr tk (y+1))=fd (fr ti x) (fr tk (y+1))+1
    ·rw[if_pos (by simp;omega),bsn]
     refine⟨_,O,⟨x,y+1,M,O,by omega,by omega,⟨fun m A=>?_,hM.pw,by omega⟩⟩,by simp only;omega⟩
     rw[hp,hqq]
     have:=hrng m A;omega
    rw[if_neg (by simp;omega)]
    simp only[bsn,aZ z2,hey0,aZ b2]
    rw[dX (by omega),bsn]
    by_cases hd2:fd (fr ti (x+1)) (fr tk (y+1))=fd (fr ti (x+1)) (fr tk y)+1
    ·rw[if_pos (by simp;omega)]
     refine⟨_,O,⟨x+1,y,M,O,by omega,by omega,⟨fun m A=>?_,hM.pw,by omega⟩⟩,by simp only;omega⟩
     rw[hp,hqq]
     have:=hrng m A;omega
    have hdef:=hcell hd1 hd2
    have hnw:¬(szT u=x+1∧szT u'=y+1):=fun C=>by
     rw[if_pos C] at hdef
     exact hmt ⟨C,hdef⟩
    rw[if_neg hnw] at hdef
    rw[if_neg (by simp;omega)]
    clear hcell hmt hd1 hd2 s1 s2 s3 rle hcs
    obtain⟨M',j1,j2⟩:=ihr (by
     rcases Nat.lt_or_ge (p+x) i with h|h
     ·omega
     rcases Nat.lt_or_ge (q+y) k with h'|h'
     ·omega
     exfalso
     have e1:p+x=i:=by omega
     have e2:q+y=k:=by omega
     rw[e1,hi] at hA
     rw[e2,hk] at hB'
     have:=Option.some.inj hA
     have:=Option.some.inj hB'
     subst ti tk
     omega) (by rw[wP_len,hP]) (by rw[wB_len,hB])
    rw[j1,bsn,dX (by omega),bsn,eR,aZ lB,bsn,dX (by omega),bsn,ePt,eBk]
    have jr:=j2.rng
    have jc:=j2.cost
    refine⟨_,O,⟨x+1-szT u,y+1-szT u',M++M',?_,by omega,by omega,⟨fun m A=>?_,?_,?_⟩⟩,by simp only;omega⟩
    ·rw[wP_app,wB_app,show((p+x+1-szT u:Nat):Int)-(p:Int)=((x+1-szT u:Nat):Int) by omega,show((q+y+1-szT u':Nat):Int)-(q:Int)=((y+1-szT u':Nat):Int) by omega]
    ·rw[hp,hqq]
     clear hdef hcost jc
     rcases List.mem_append.1 A with A|A
     ·have:=hrng m A;omega
     have:=jr m A
     have g1:=lf_le (T:=toT a) (s:=m.1) (by rw[uO];omega)
     have g2:=lf_le (T:=toT b) (s:=m.2) (by rw[uO];omega)
     omega
    ·rw[List.pairwise_append]
     clear hdef hcost jc
     refine⟨hM.pw,j2.pw,fun m A m' hm'=>?_⟩
     have h1:=hrng m A
     have h2:=jr m' hm'
     have g1:=lf_le (T:=toT a) (s:=m'.1) (by rw[uO];omega)
     have g2:=lf_le (T:=toT b) (s:=m'.2) (by rw[uO];omega)
     exact⟨by omega,by omega,by omega⟩
    rw[cs_app,List.length_append];omega)
   ((szT ti:Int),(szT tk:Int),P,B) ⟨szT ti,szT tk,[],O,Nat.le_refl _,Nat.le_refl _,⟨by simp,List.Pairwise.nil,by rw[fr_full,fr_full];simp[cs]⟩⟩
  refine⟨M,?_,hM⟩
  unfold jH pG
  rw[eL,aZ (I5 a hi),bsn,eR,aZ (I5 b hk),bsn,hF,bsn,dX (by rw[hq.rows];omega),bsn,show(0:Int)=((0:Nat):Int) from rfl,aZ hR0,bsn,dX (by rw[hR0l];omega),bsn,hq.rows,hR0l,show((szT ti+1:Nat):Int)-1=(szT ti:Int) by omega,show((szT tk+1:Nat):Int)-1=(szT tk:Int) by omega,ePt,eBk,h1]
  rfl
end
theorem wr_not:∀(L:List (Nat×Int)) (P:List Int) (c:Nat),(∀x∈L,x.1≠c)→(wr L P)[c]?=P[c]?
 | [],_,_,_=>rfl
 |x::L,P,c,h=>by
  have:=wr_not L (P.set x.1 x.2) c fun y hy=>h y (List.mem_cons_of_mem _ hy)
  rw[List.getElem?_set_ne (h x (List.mem_cons_self ..))] at this
  exact this
theorem wr_at:∀(L:List (Nat×Int)) (P:List Int),L.Pairwise (fun x y=>x.1≠y.1)→∀x∈L,x.1<P.length→(wr L P)[x.1]?=some x.2
 | [],_,_,x,A,_=>by simp at A
 |y::L,P,hp,x,A,C=>by
  obtain⟨h1,h2⟩:=List.pairwise_cons.1 hp
  rcases List.mem_cons.1 A with rfl|A
  ·have:=wr_not L (P.set x.1 x.2) x.1 fun z hz=>(h1 z hz).symm
   rw[List.getElem?_set_self C] at this
   exact this
  exact wr_at L (P.set y.1 y.2) h2 x A (by rw[List.length_set];exact C)
theorem pw_eqM {α:Type} {R:α→α→Prop} {l:List α} (h:l.Pairwise R) {p q:α} (C:p∈l) (hq:q∈l):p=q∨R p q∨R q p:=by
 obtain⟨i,hi,rfl⟩:=List.mem_iff_getElem.1 C
 obtain⟨j,A,rfl⟩:=List.mem_iff_getElem.1 hq
 have h:=List.pairwise_iff_getElem.1 h
 rcases Nat.lt_trichotomy i j with e|e|e
 ·exact Or.inr (Or.inl (h i j hi A e))
 ·subst e;exact Or.inl rfl
 exact Or.inr (Or.inr (h j i A hi e))
section
variable {a b:Node} {M:List (Nat×Nat)}
structure MOk (a b:Node) (M:List (Nat×Nat)):Prop where
 rng:∀m∈M,m.1<aU a∧m.2<aU b
 pw:M.Pairwise (Cp a b)
theorem nA_ok (a:Node) {s:Nat} (h:s<aU a):∃x:Nat,nA a s=(x:Int)∧x<aU a∧(kY a 0)[s]?=some (x:Int)∧∃u,(po [toT a])[s]?=some u∧kC (prN a 0 (-1)) x=((labT u).kind,(labT u).text)∧lbT a s=labT u∧szp (prN a 0 (-1)) x=szT u:=by
 obtain⟨u,hu⟩:=dD (l:=po [toT a]) (k:=s) (by rw[po_lenN];exact h)
 obtain⟨x,h1,h2,h3,h4,_⟩:=aE3 a hu
 refine⟨x,by unfold nA;rw[h1];rfl,h2,h1,u,hu,h3,by unfold lbT;rw[hu];rfl,h4⟩
theorem nA_inj (a:Node) {s t:Nat} (h:s<aU a) (h':t<aU a) (e:nA a s=nA a t):s=t:=by
 obtain⟨x,h1,_,h2,_⟩:=nA_ok a h
 obtain⟨y,h3,_,h4,_⟩:=nA_ok a h'
 rw[h1,h3] at e
 rw[e] at h2
 obtain⟨g1,g2⟩:=List.getElem?_eq_some_iff.1 h2
 obtain⟨g3,g4⟩:=List.getElem?_eq_some_iff.1 h4
 exact(List.getElem_inj (aG9 a 0)).1 (g2.trans g4.symm)
theorem P5 (a:Node) {s:Nat} (h:s<aU a):0≤nA a s∧nA a s<aU a:=by
 obtain⟨x,h1,h2,_⟩:=nA_ok a h
 omega
theorem mok_pw1 (h:MOk a b M):(M.map fun m=>((nA a m.1).toNat,nA b m.2)).Pairwise fun x y=>x.1≠y.1:=by
 rw[List.pairwise_map]
 refine(List.Pairwise.and_mem.1 h.pw).imp fun{m m'} k e=>?_
 have h1:=P5 a (h.rng m k.1).1
 have h2:=P5 a (h.rng m' k.2.1).1
 have:=nA_inj a (h.rng m k.1).1 (h.rng m' k.2.1).1 (by simp only at e;omega)
 have:=k.2.2.1
 omega
theorem mok_pw2 (h:MOk a b M):(M.map fun m=>((nA b m.2).toNat,nA a m.1)).Pairwise fun x y=>x.1≠y.1:=by
 rw[List.pairwise_map]
 refine(List.Pairwise.and_mem.1 h.pw).imp fun{m m'} k e=>?_
 have h1:=P5 b (h.rng m k.1).2
 have h2:=P5 b (h.rng m' k.2.1).2
 have:=nA_inj b (h.rng m k.1).2 (h.rng m' k.2.1).2 (by simp only at e;omega)
 have:=k.2.2.2.1
 omega
structure ArrM (a b:Node) (M:List (Nat×Nat)) (P B:List Int):Prop where
 pl:P.length=aU a
 bl:B.length=aU b
 p1:∀m∈M,P[(nA a m.1).toNat]?=some (nA b m.2)
 b1:∀m∈M,B[(nA b m.2).toNat]?=some (nA a m.1)
 p2:∀(c:Nat) v,P[c]?=some v→v= -1∨∃m∈M,(c:Int)=nA a m.1∧v=nA b m.2
 b2:∀(c:Nat) v,B[c]?=some v→v= -1∨∃m∈M,(c:Int)=nA b m.2∧v=nA a m.1
theorem arrM (h:MOk a b M):ArrM a b M (wP a b M (List.replicate (aU a) (-1))) (wB a b M (List.replicate (aU b) (-1))):=by
 refine⟨by rw[wP_len,List.length_replicate],by rw[wB_len,List.length_replicate],fun m C=>?_,fun m C=>?_,fun c v A=>?_,fun c v A=>?_⟩
 ·have:=P5 a (h.rng m C).1
  exact wr_at _ _ (mok_pw1 h) ((nA a m.1).toNat,nA b m.2) (List.mem_map_of_mem (f:=fun m=>((nA a m.1).toNat,nA b m.2)) C) (by rw[List.length_replicate];simp only;omega)
 ·have:=P5 b (h.rng m C).2
  exact wr_at _ _ (mok_pw2 h) ((nA b m.2).toNat,nA a m.1) (List.mem_map_of_mem (f:=fun m=>((nA b m.2).toNat,nA a m.1)) C) (by rw[List.length_replicate];simp only;omega)
 ·by_cases E:∃m∈M,(nA a m.1).toNat=c
  ·obtain⟨m,C,e⟩:=E
   have h1:=P5 a (h.rng m C).1
   have:=wr_at _ (List.replicate (aU a) (-1)) (mok_pw1 h) ((nA a m.1).toNat,nA b m.2) (List.mem_map_of_mem (f:=fun m=>((nA a m.1).toNat,nA b m.2)) C) (by rw[List.length_replicate];simp only;omega)
   rw[e] at this
   unfold wP at A
   rw[this] at A
   exact Or.inr ⟨m,C,by omega,(Option.some.inj A).symm⟩
  unfold wP at A
  rw[wr_not _ _ _ fun x hx'=>by
   obtain⟨m,C,rfl⟩:=List.mem_map.1 hx'
   exact fun e=>E ⟨m,C,e⟩] at A
  rw[List.getElem?_replicate] at A
  split at A
  ·exact Or.inl (Option.some.inj A).symm
  cases A
 by_cases E:∃m∈M,(nA b m.2).toNat=c
 ·obtain⟨m,C,e⟩:=E
  have h1:=P5 b (h.rng m C).2
  have:=wr_at _ (List.replicate (aU b) (-1)) (mok_pw2 h) ((nA b m.2).toNat,nA a m.1) (List.mem_map_of_mem (f:=fun m=>((nA b m.2).toNat,nA a m.1)) C) (by rw[List.length_replicate];simp only;omega)
  rw[e] at this
  unfold wB at A
  rw[this] at A
  exact Or.inr ⟨m,C,by omega,(Option.some.inj A).symm⟩
 unfold wB at A
 rw[wr_not _ _ _ fun x hx'=>by
  obtain⟨m,C,rfl⟩:=List.mem_map.1 hx'
  exact fun e=>E ⟨m,C,e⟩] at A
 rw[List.getElem?_replicate] at A
 split at A
 ·exact Or.inl (Option.some.inj A).symm
 cases A
def gI (P:List Int) (c:Nat):Int:=(P[c]?).getD (-1)
def opA (n:Nat) (P:List Int):List Opn:=(List.range n).map fun c:Nat=>⟨(c:Int),gI P c⟩
def opB (n:Nat) (B:List Int):List Opn:=((List.range n).filter fun c:Nat=>decide (gI B c<0)).map fun c:Nat=>⟨-1,(c:Int)⟩
theorem gI_at {P:List Int} {c:Nat} (h:c<P.length):P[c]?=some (gI P c):=by
 obtain⟨v,hv⟩:=dD h
 unfold gI;rw[hv];rfl
theorem opA_mem {P B:List Int} (h:MOk a b M) (hA:ArrM a b M P B) (o:Opn):o∈opA (aU a) P∧0≤o.b↔∃m∈M,o=⟨nA a m.1,nA b m.2⟩:=by
 unfold opA
 constructor
 ·rintro⟨h1,h2⟩
  obtain⟨c,C,rfl⟩:=List.mem_map.1 h1
  rw[List.mem_range] at C
  simp only at h2
  rcases hA.p2 c _ (gI_at (by rw[hA.pl];exact C)) with e|⟨m,A,e1,e2⟩
  ·omega
  exact⟨m,A,by rw[e1,e2]⟩
 rintro⟨m,A,rfl⟩
 have h1:=P5 a (h.rng m A).1
 have h2:=P5 b (h.rng m A).2
 refine⟨List.mem_map.2 ⟨(nA a m.1).toNat,List.mem_range.2 (by omega),?_⟩,h2.1⟩
 unfold gI
 rw[hA.p1 m A,show(((nA a m.1).toNat:Nat):Int)=nA a m.1 by omega];rfl
theorem mok_tr (h:MOk a b M) {m m':Nat×Nat} (E:m∈M) (hm':m'∈M) (hlt:nA a m.1<nA a m'.1):
  nA b m.2<nA b m'.2∧(nA a m'.1<nA a m.1+szp (prN a 0 (-1)) (nA a m.1).toNat↔nA b m'.2<nA b m.2+szp (prN b 0 (-1)) (nA b m.2).toNat):=by
 obtain⟨r1,r2⟩:=h.rng m E
 obtain⟨r3,r4⟩:=h.rng m' hm'
 obtain⟨x,C,x2,F,u,A,_,_,G⟩:=nA_ok a r1
 obtain⟨x',x1',x2',x3',u',x4',_,_,x5'⟩:=nA_ok a r3
 obtain⟨y,y1,y2,y3,v,y4,_,_,y5⟩:=nA_ok b r2
 obtain⟨y',y1',y2',y3',v',y4',_,_,y5'⟩:=nA_ok b r4
 obtain⟨p1,p2⟩:=aI6.1 a 0 m.1 m'.1 u u' x x' A x4' F x3'
 obtain⟨p3,p4⟩:=aI6.1 a 0 m'.1 m.1 u' u x' x x4' A x3' F
 obtain⟨q1,q2⟩:=aI6.1 b 0 m.2 m'.2 v v' y y' y4 y4' y3 y3'
 obtain⟨q3,q4⟩:=aI6.1 b 0 m'.2 m.2 v' v y' y y4' y4 y3' y3
 have su:=(pF [toT a] A).1
 have su':=(pF [toT a] x4').1
 have sv:=(pF [toT b] y4).1
 have sv':=(pF [toT b] y4').1
 have f1:=I7 A
 have f2:=I7 x4'
 have f3:=I7 y4
 have f4:=I7 y4'
 rw[C,x1',y1,y1',Int.toNat_natCast,Int.toNat_natCast,G,y5]
 rw[C,x1'] at hlt
 have hne:(y:Int)≠y':=fun e=>by
  have e2:=nA_inj b r2 r4 (by rw[y1,y1',e])
  rcases pw_eqM h.pw E hm' with k|k|k
  ·rw[k,x1'] at C;omega
  ·have:=k.2.1;omega
  have:=k.2.1;omega
 have hcp:(m.1<m'.1∧m.2<m'.2∧(lf (toT a) m'.1≤m.1↔lf (toT b) m'.2≤m.2))∨(m'.1<m.1∧m'.2<m.2∧(lf (toT a) m.1≤m'.1↔lf (toT b) m.2≤m'.2)):=by
  rcases pw_eqM h.pw E hm' with k|k|k
  ·rw[k,x1'] at C;omega
  ·exact Or.inr k
  exact Or.inl k
 rw[f1,f2,f3,f4] at hcp
 omega
end
theorem len_split {α:Type} (p:α→Bool):∀l:List α,l.length=(l.filter p).length+(l.filter fun x=> !p x).length
 | []=>rfl
 |x::l=>by
  have:=len_split p l
  cases h:p x<;>simp[h]<;>omega
section
variable {a b:Node} {M:List (Nat×Nat)} {P B:List Int}
theorem aI4 {n:Nat} (o:Opn):o∈opB n B↔∃c:Nat,c<n∧gI B c<0∧o=⟨-1,(c:Int)⟩:=by
 unfold opB
 rw[List.mem_map]
 constructor
 ·rintro⟨c,h1,rfl⟩
  rw[List.mem_filter,List.mem_range,decide_eq_true_eq] at h1
  exact⟨c,h1.1,h1.2,O⟩
 rintro⟨c,h1,h2,rfl⟩
 exact⟨c,by rw[List.mem_filter,List.mem_range,decide_eq_true_eq];exact⟨h1,h2⟩,O⟩
theorem aM0 {n:Nat} (o:Opn):o∈opA n P↔∃c:Nat,c<n∧o=⟨(c:Int),gI P c⟩:=by
 unfold opA
 rw[List.mem_map]
 constructor
 ·rintro⟨c,h1,rfl⟩;exact⟨c,List.mem_range.1 h1,rfl⟩
 rintro⟨c,h1,rfl⟩;exact⟨c,List.mem_range.2 h1,rfl⟩
theorem script_st (h:MOk a b M) (hA:ArrM a b M P B):St (aU a) (aU b) (szp (prN a 0 (-1))) (szp (prN b 0 (-1))) (opA (aU a) P++opB (aU b) B):=by
 have rA:∀c:Nat,c<aU a→gI P c= -1∨∃m∈M,(c:Int)=nA a m.1∧gI P c=nA b m.2:=fun c A=>hA.p2 c _ (gI_at (by rw[hA.pl];exact A))
 have rB:∀c:Nat,c<aU b→gI B c= -1∨∃m∈M,(c:Int)=nA b m.2∧gI B c=nA a m.1:=fun c A=>hA.b2 c _ (gI_at (by rw[hA.bl];exact A))
 refine⟨fun o C=>?_,?_,fun c A=>?_,fun c A=>?_,fun p F q hq h0 h1 h2 h3=>?_⟩
 ·rcases List.mem_append.1 C with C|C
  ·obtain⟨c,A,rfl⟩:=(aM0 o).1 C
   simp only
   rcases rA c A with e|⟨m,E,e1,e2⟩
   ·omega
   have:=P5 b (h.rng m E).2;omega
  obtain⟨c,A,_,rfl⟩:=(aI4 o).1 C
  simp only;omega
 ·rw[List.pairwise_append]
  refine⟨?_,?_,fun p F q hq=>?_⟩
  ·unfold opA
   rw[List.pairwise_map]
   refine(List.Pairwise.and_mem.1 (List.pairwise_lt_range (n:=aU a))).imp fun{c d} k=>?_
   have k1:=List.mem_range.1 k.1
   have k2:=List.mem_range.1 k.2.1
   have k3:=k.2.2
   refine⟨fun _=>by simp only;omega,fun hb e=>?_⟩
   simp only at hb e
   rcases rA c k1 with e1|⟨m,E,e1,e2⟩
   ·omega
   rcases rA d k2 with e3|⟨m',hm',e3,e4⟩
   ·omega
   have:=nA_inj b (h.rng m E).2 (h.rng m' hm').2 (by omega)
   rcases pw_eqM h.pw E hm' with k|k|k
   ·rw[k] at e1;omega
   ·have:=k.2.1;omega
   have:=k.2.1;omega
  ·unfold opB
   rw[List.pairwise_map]
   refine(List.Pairwise.filter _ (List.pairwise_lt_range (n:=aU b))).imp fun{c d} k=>?_
   exact⟨fun e=>by simp only at e;omega,fun _=>by simp only;omega⟩
  obtain⟨c,A,rfl⟩:=(aM0 p).1 F
  obtain⟨d,hd,hd2,rfl⟩:=(aI4 q).1 hq
  refine⟨fun _=>by simp only;omega,fun hb e=>?_⟩
  simp only at hb e
  rcases rA c A with e1|⟨m,E,e1,e2⟩
  ·omega
  have h1:=hA.b1 m E
  rw[show(nA b m.2).toNat=d by omega,gI_at (by rw[hA.bl];exact hd)] at h1
  have:=P5 a (h.rng m E).1
  have:=Option.some.inj h1
  omega
 ·exact⟨_,List.mem_append_left _ ((aM0 _).2 ⟨c,A,O⟩),O⟩
 ·rcases rB c A with e|⟨m,E,e1,e2⟩
  ·exact⟨_,List.mem_append_right _ ((aI4 _).2 ⟨c,A,by omega,O⟩),O⟩
  have:=((opA_mem h hA ⟨nA a m.1,nA b m.2⟩).2 ⟨m,E,O⟩).1
  exact⟨_,List.mem_append_left _ this,e1.symm⟩
 have inA:∀o:Opn,o∈opA (aU a) P++opB (aU b) B→0≤o.a→0≤o.b→∃m∈M,o=⟨nA a m.1,nA b m.2⟩:=fun o C g1 g2=>by
  rcases List.mem_append.1 C with C|C
  ·exact(opA_mem h hA o).1 ⟨C,g2⟩
  obtain⟨c,A,_,rfl⟩:=(aI4 o).1 C
  simp only at g1;omega
 obtain⟨m,E,rfl⟩:=inA p F h0 h2
 obtain⟨m',hm',rfl⟩:=inA q hq (by simp only at h1 h0⊢;omega) h3
 exact mok_tr h E hm' h1
theorem script_le:(opA (aU a) P++opB (aU b) B).Pairwise Le:=by
 rw[List.pairwise_append]
 refine⟨?_,?_,fun p A q hq=>?_⟩
 ·unfold opA
  rw[List.pairwise_map]
  refine(List.pairwise_lt_range (n:=aU a)).imp fun{c d} k=>?_
  unfold Le;rw[bn_iff];simp only;omega
 ·unfold opB
  rw[List.pairwise_map]
  refine(List.Pairwise.filter _ (List.pairwise_lt_range (n:=aU b))).imp fun{c d} k=>?_
  unfold Le;rw[bn_iff];simp only;omega
 obtain⟨c,hc,rfl⟩:=(aM0 p).1 A
 obtain⟨d,hd,hd2,rfl⟩:=(aI4 q).1 hq
 unfold Le;rw[bn_iff];simp only;omega
theorem range_nodup (n:Nat):(List.range n).Nodup:=List.nodup_range
theorem script_cost (h:MOk a b M) (hA:ArrM a b M P B):cstO a b (opA (aU a) P++opB (aU b) B)+2*M.length=aU a+aU b+cs a b M:=by
 have rB:∀c:Nat,c<aU b→gI B c= -1∨∃m∈M,(c:Int)=nA b m.2∧gI B c=nA a m.1:=fun c J=>hA.b2 c _ (gI_at (by rw[hA.bl];exact J))
 have hperm:((opA (aU a) P).filter fun o=>decide (0≤o.b)).Perm (M.map fun m=>⟨nA a m.1,nA b m.2⟩):=by
  refine(List.perm_ext_iff_of_nodup ?_ ?_).2 fun o=>?_
  ·refine List.Pairwise.filter _ ?_
   unfold opA
   rw[List.pairwise_map]
   exact(List.pairwise_lt_range (n:=aU a)).imp fun{c d} k e=>by
    have:=congrArg Opn.a e;simp only at this;omega
  ·unfold List.Nodup
   rw[List.pairwise_map]
   refine(List.Pairwise.and_mem.1 h.pw).imp fun{m m'} k e=>?_
   have:=nA_inj a (h.rng m k.1).1 (h.rng m' k.2.1).1 (congrArg Opn.a e)
   have:=k.2.2.1
   omega
  rw[List.mem_filter,decide_eq_true_eq,opA_mem h hA o,List.mem_map]
  constructor
  ·rintro⟨m,E,e⟩;exact⟨m,E,e.symm⟩
  rintro⟨m,E,e⟩;exact⟨m,E,e.symm⟩
 have hpermB:((List.range (aU b)).filter fun c=> !decide (gI B c<0)).Perm (M.map fun m=>(nA b m.2).toNat):=by
  refine(List.perm_ext_iff_of_nodup (List.Pairwise.filter _ (range_nodup _)) ?_).2 fun c=>?_
  ·unfold List.Nodup
   rw[List.pairwise_map]
   refine(List.Pairwise.and_mem.1 h.pw).imp fun{m m'} k e=>?_
   have h1:=P5 b (h.rng m k.1).2
   have h2:=P5 b (h.rng m' k.2.1).2
   have:=nA_inj b (h.rng m k.1).2 (h.rng m' k.2.1).2 (by omega)
   have:=k.2.2.2.1
   omega
  rw[List.mem_filter,List.mem_range,Bool.not_eq_true',decide_eq_false_iff_not,List.mem_map]
  constructor
  ·rintro⟨g1,g2⟩
   rcases rB c g1 with e|⟨m,E,e1,e2⟩
   ·omega
   exact⟨m,E,by omega⟩
  rintro⟨m,E,rfl⟩
  have h1:=P5 b (h.rng m E).2
  have h2:=P5 a (h.rng m E).1
  refine⟨by omega,?_⟩
  unfold gI
  rw[hA.b1 m E,Option.getD_some];omega
 unfold cstO
 rw[List.countP_append]
 have c1:(opB (aU b) B).countP (ctO (prN a 0 (-1)) (prN b 0 (-1)))=(opB (aU b) B).length:=List.countP_eq_length.2 fun o F=>by
  obtain⟨c,_,_,rfl⟩:=(aI4 o).1 F
  unfold ctO;simp
 have c2:(opB (aU b) B).length+M.length=aU b:=by
  unfold opB
  rw[List.length_map]
  have e1:=hpermB.length_eq
  rw[List.length_map] at e1
  have e2:=len_split (fun c=>decide (gI B c<0)) (List.range (aU b))
  rw[List.length_range] at e2
  omega
 have c3:=List.countP_eq_countP_filter_add (opA (aU a) P) (ctO (prN a 0 (-1)) (prN b 0 (-1))) (fun o=>decide (0≤o.b))
 have c4:((opA (aU a) P).filter fun o=> !decide (0≤o.b)).countP (ctO (prN a 0 (-1)) (prN b 0 (-1)))=((opA (aU a) P).filter fun o=> !decide (0≤o.b)).length:=List.countP_eq_length.2 fun o F=>by
  rw[List.mem_filter,Bool.not_eq_true',decide_eq_false_iff_not] at F
  have hb:o.b<0:=by omega
  unfold ctO;simp[hb]
 have c5:=len_split (fun o=>decide (0≤o.b)) (opA (aU a) P)
 have c6:(opA (aU a) P).length=aU a:=by unfold opA;simp
 have c7:=hperm.length_eq
 rw[List.length_map] at c7
 have c8:((opA (aU a) P).filter fun o=>decide (0≤o.b)).countP (ctO (prN a 0 (-1)) (prN b 0 (-1)))=cs a b M:=by
  rw[hperm.countP_eq,List.countP_map]
  have:∀N:List (Nat×Nat),(∀m∈N,m∈M)→N.countP (ctO (prN a 0 (-1)) (prN b 0 (-1))∘fun m=>⟨nA a m.1,nA b m.2⟩)=cs a b N:=by
   intro N
   induction N with
   |nil=>intro _;rfl
   |cons m N ih=>
    intro hN
    have E:=hN m (List.mem_cons_self ..)
    obtain⟨x,I,x2,_,u,_,H,G,_⟩:=nA_ok a (h.rng m E).1
    obtain⟨y,y1,y2,_,v,_,y4,y5,_⟩:=nA_ok b (h.rng m E).2
    have e:(ctO (prN a 0 (-1)) (prN b 0 (-1))∘fun m:Nat×Nat=>(⟨nA a m.1,nA b m.2⟩:Opn)) m= !decide (labT u=labT v):=by
     show ctO _ _ ⟨nA a m.1,nA b m.2⟩=_
     unfold ctO
     simp only
     rw[I,y1,Int.toNat_natCast,Int.toNat_natCast,H,y4,decide_eq_false (p:=(x:Int)<0) (by omega),decide_eq_false (p:=(y:Int)<0) (by omega)]
     simp only[Bool.false_or]
     congr 1
     rw[decide_eq_decide,Prod.mk.injEq]
     generalize labT u=A
     generalize labT v=C
     obtain⟨c,d⟩:=A
     obtain⟨e,f⟩:=C
     simp
    rw[List.countP_cons,ih fun k hk=>hN k (List.mem_cons_of_mem _ hk),e,show m::N=[m]++N from rfl,cs_app,Nat.add_comm]
    congr 1
    unfold cs
    simp only[List.map_cons,List.map_nil,List.sum_cons,List.sum_nil]
    rw[G,y5]
    unfold rl
    by_cases g:labT u=labT v
    ·rw[if_pos g,decide_eq_true g];rfl
    rw[if_neg g,decide_eq_false g];rfl
  exact this M fun m E=>E
 rw[c3,c4,c8,c1]
 omega
theorem Align_m (a b:Node) (ha:aU a≤20) (hb:aU b≤20):∃l,vU a b=some (l,0)∧Va a b l∧cstO a b l=td a b:=by
 have pa:=fO a
 have pb:=fO b
 obtain⟨D,hD,F⟩:=Subtrees_m a b (by omega) (by omega)
 have nla:(nmb (prN a 0 (-1))).nodes.length=aU a:=by unfold nmb;simp[nD.1]
 have nlb:(nmb (prN b 0 (-1))).nodes.length=aU b:=by unfold nmb;simp[nD.1]
 obtain⟨M,hM,hP⟩:=pair_r (D:=D) (by omega) (by omega) F ((aU a-1)+(aU b-1)+1) (aU a-1) (aU b-1) (toT a) (toT b) (List.replicate (aU a) (-1)) (List.replicate (aU b) (-1)) (po_last a).1 (po_last b).1 (Nat.le_refl _) (by simp) (by simp)
 have hOk:MOk a b M:=⟨fun m A=>by have:=hP.rng m A;omega,hP.pw⟩
 have hA:=arrM hOk
 have hcost:=script_cost hOk hA
 have E:=hP.cost
 rw[uO,uO] at E
 refine⟨opA (aU a) (wP a b M (List.replicate (aU a) (-1)))++opB (aU b) (wB a b M (List.replicate (aU b) (-1))),?_,(script_st hOk hA).vd script_le,by unfold td;omega⟩
 generalize wP a b M (List.replicate (aU a) (-1))=P at*
 generalize wB a b M (List.replicate (aU b) (-1))=B at*
 unfold vU
 rw[hD,bsn,if_neg (by simp),J3 a (by omega),bsn,J3 b (by omega),bsn,post_m a (by omega),bsn,post_m b (by omega),bsn,nla,repeat_m _ (by omega) (by omega),bsn,nlb,repeat_m _ (by omega) (by omega),bsn]
 simp only
 rw[xX,xX,dX (by omega),bsn,dX (by omega),bsn]
 have e:sQ (Alg.mk (nmb (prN a 0 (-1))) (nmb (prN b 0 (-1))) (kY a 0) (lefts 0 (po [toT a])) (kY b 0) (lefts 0 (po [toT b])) D (List.replicate (aU a) (-1)) (List.replicate (aU b) (-1))) ((aU a:Int)-1) ((aU b:Int)-1)=some (alg a b D P B):=by
  unfold sQ
  rw[show((aU a:Int)-1).toNat=aU a-1 by omega,show((aU b:Int)-1).toNat=aU b-1 by omega,show(aU a:Int)-1=((aU a-1:Nat):Int) by omega,show(aU b:Int)-1=((aU b-1:Nat):Int) by omega]
  exact hM
 rw[e,bsn]
 have ePt:(alg a b D P B).partner=P:=rfl
 have eBk:(alg a b D P B).back=B:=rfl
 refine yP (fun i=>((i:Int),opA i P)) (aU a) (opA (aU a) P) (by simp[opA]) (fun i hi=>?_) (by simp only[vX];rw[ePt,hA.pl,if_neg (by simp)]) ?_
 ·simp only[vX]
  rw[ePt,hA.pl,if_pos (by simp;omega),aZ (gI_at (by rw[hA.pl];exact hi)),bsn,wI (by unfold opA;simp;omega),bsn,fC (by omega),bsn]
  unfold opA
  rw[List.range_succ,List.map_append];rfl
 have hlB:∀i,(opB i B).length≤i:=fun i=>by
  unfold opB
  rw[List.length_map]
  have:=List.length_filter_le (fun c=>decide (gI B c<0)) (List.range i)
  rwa [List.length_range] at this
 have hlA:(opA (aU a) P).length=aU a:=by unfold opA;simp
 refine yP (fun i=>((i:Int),opA (aU a) P++opB i B)) (aU b) (opA (aU a) P++opB (aU b) B) (by simp[opB]) (fun i hi=>?_) (by simp only[vY];rw[eBk,hA.bl,if_neg (by simp)]) O
 have hs:opB (i+1) B=opB i B++if gI B i<0 then [⟨-1,(i:Int)⟩] else []:=by
  unfold opB
  rw[List.range_succ,List.filter_append,List.map_append]
  congr 1
  by_cases h:gI B i<0<;>simp[h]
 have C:=hlB i
 simp only[vY]
 rw[eBk,hA.bl,if_pos (by simp;omega),aZ (gI_at (by rw[hA.bl];exact hi)),bsn,hs]
 by_cases h:gI B i<0
 ·rw[if_pos (by simpa using h),wI (by rw[List.length_append,hlA];simp only[List.length_singleton];omega),bsn,fC (by omega),bsn,if_pos h,List.append_assoc]
 rw[if_neg (by simpa using h),fC (by omega),bsn,if_neg h,List.append_nil]
end
open Classical in
theorem chg_round (a b:Node) (ha:aU a≤15) (hb:aU b≤15) (G:List Opn) (F:List Opn×Int) (i:Nat) (hi:i<2) (x:List Opn) (H:([F.1,G]:List (List Opn))[i]?=some x) (E:x.length≤9223372036854775807) (C:∀o∈x,I64 o.a∧I64 o.b):iL a b G F (i:Int)=some (.next ((i+1:Nat):Int)):=by
 simp only[iL]
 rw[if_pos (by simp;omega),aZ H,bsn,cost_m a b (by omega) (by omega) x E C,bsn,changes_m a b (by omega) (by omega) x E C,bsn]
 by_cases A:Va a b x
 ·obtain⟨us,h1,h2,h3⟩:=changes_apply A (by omega) (by omega)
  rw[if_pos A,if_pos A,if_neg (by simp),h1,bsn]
  simp only
  rw[if_neg (by rw[chg_cost A];simp),SameList_m us [b] h3,decide_eq_true h2,bsn,bsn,if_neg (by simp),bsn]
  simp only
  rw[fC (by omega)];rfl
 rw[if_neg A,if_neg A,if_pos (by simp),if_neg (by simp),valid_m a b (by omega) (by omega) x E C,decide_eq_false A,bsn,bsn,if_neg (by simp),bsn]
 simp only
 rw[fC (by omega)];rfl
theorem law_AlignChanges (E:Node) (C:Node) (A:(List Opn)) (h0:NodeWf E) (h1:NodeWf C) (h2:LW (fun a:Opn=>I64 a.a∧I64 a.b) A):mY E C A=some true:=by
 unfold mY
 rw[awake_ok,bsn,if_neg (by simp)]
 obtain⟨r,hr,hf⟩:=few_m E C 15 (by omega) (by omega)
 rw[hr,bsn]
 cases r with
 |false=>rfl
 |true=>
  obtain⟨c0,c1⟩:=hf O
  obtain⟨l,a1,a2,a3⟩:=Align_m E C (by omega) (by omega)
  have hl:=aJ0 a2.scr
  have F:=(a2.st).1.i64 (by omega) (by omega)
  have w1:A.length≤9223372036854775807:=by have:=h2.1;unfold maxLen at this;exact this
  rw[if_neg (by simp),a1,bsn,if_neg (by simp)]
  refine yP (fun i=>(i:Int)) 2 (.brk ()) O (fun i hi=>?_) (by simp only[iL];rw[if_neg (by simp)]) O
  match i,hi with
  |0,hi=>exact chg_round E C (by omega) (by omega) A (l,0) 0 hi l rfl (by omega) F
  |1,hi=>exact chg_round E C (by omega) (by omega) A (l,0) 1 hi A rfl w1 h2.2
end Go.Proofs.YtopnldfjcciieaaGreat

/- Align returns a valid script of the least cost. -/
import Derived.Test.YtopnldfjcciieaaGreatKLe29
import Derived.Test.YtopnldfjcciieaaGreatKLe27
import Derived.Test.YtopnldfjcciieaaGreatKLe6
import Derived.Test.YtopnldfjcciieaaGreatKLe3
import Derived.Test.YtopnldfjcciieaaGreatKLe28
import Derived.Test.YtopnldfjcciieaaGreatKLe4
set_option linter.unusedVariables false
set_option linter.unusedSimpArgs false
namespace Go.Proofs.YtopnldfjcciieaaGreat
open Go.RowKit
theorem len_split {α:Type} (p:α→Bool):∀l:List α,l.length=(l.filter p).length+(l.filter fun x=> !p x).length
 | []=>rfl
 |x::l=>by
  have:=len_split p l
  cases h:p x<;>simp[h]<;>omega
section
variable {a b:Node} {M:List (Nat×Nat)} {P B:List Int}
theorem aO3 {n:Nat} (o:Opn):o∈opB n B↔∃c:Nat,c<n∧gI B c<0∧o=⟨-1,(c:Int)⟩:=by
 unfold opB
 rw[List.mem_map]
 constructor
 ·rintro⟨c,h1,rfl⟩
  rw[List.mem_filter,List.mem_range,decide_eq_true_eq] at h1
  exact⟨c,h1.1,h1.2,O⟩
 rintro⟨c,h1,h2,rfl⟩
 exact⟨c,by rw[List.mem_filter,List.mem_range,decide_eq_true_eq];exact⟨h1,h2⟩,O⟩
theorem aR9 {n:Nat} (o:Opn):o∈opA n P↔∃c:Nat,c<n∧o=⟨(c:Int),gI P c⟩:=by
 unfold opA
 rw[List.mem_map]
 constructor
 ·rintro⟨c,h1,rfl⟩;exact⟨c,List.mem_range.1 h1,rfl⟩
 rintro⟨c,h1,rfl⟩;exact⟨c,List.mem_range.2 h1,rfl⟩
theorem script_st (h:MOk a b M) (hA:ArrM a b M P B):St (bK a) (bK b) (szp (prN a 0 (-1))) (szp (prN b 0 (-1))) (opA (bK a) P++opB (bK b) B):=by
 have rA:∀c:Nat,c<bK a→gI P c= -1∨∃m∈M,(c:Int)=nA a m.1∧gI P c=nA b m.2:=fun c A=>hA.p2 c _ (gI_at (by rw[hA.pl];exact A))
 have rB:∀c:Nat,c<bK b→gI B c= -1∨∃m∈M,(c:Int)=nA b m.2∧gI B c=nA a m.1:=fun c A=>hA.b2 c _ (gI_at (by rw[hA.bl];exact A))
 refine⟨fun o C=>?_,?_,fun c A=>?_,fun c A=>?_,fun p E q hq h0 h1 h2 h3=>?_⟩
 ·rcases List.mem_append.1 C with C|C
  ·obtain⟨c,A,rfl⟩:=(aR9 o).1 C
   simp only
   rcases rA c A with e|⟨m,D,e1,e2⟩
   ·omega
   have:=X6 b (h.rng m D).2;omega
  obtain⟨c,A,_,rfl⟩:=(aO3 o).1 C
  simp only;omega
 ·rw[List.pairwise_append]
  refine⟨?_,?_,fun p E q hq=>?_⟩
  ·unfold opA
   rw[List.pairwise_map]
   refine(List.Pairwise.and_mem.1 (List.pairwise_lt_range (n:=bK a))).imp fun{c d} k=>?_
   have k1:=List.mem_range.1 k.1
   have k2:=List.mem_range.1 k.2.1
   have k3:=k.2.2
   refine⟨fun _=>by simp only;omega,fun hb e=>?_⟩
   simp only at hb e
   rcases rA c k1 with e1|⟨m,D,e1,e2⟩
   ·omega
   rcases rA d k2 with e3|⟨m',hm',e3,e4⟩
   ·omega
   have:=nA_inj b (h.rng m D).2 (h.rng m' hm').2 (by omega)
   rcases pw_eqM h.pw D hm' with k|k|k
   ·rw[k] at e1;omega
   ·have:=k.2.1;omega
   have:=k.2.1;omega
  ·unfold opB
   rw[List.pairwise_map]
   refine(List.Pairwise.filter _ (List.pairwise_lt_range (n:=bK b))).imp fun{c d} k=>?_
   exact⟨fun e=>by simp only at e;omega,fun _=>by simp only;omega⟩
  obtain⟨c,A,rfl⟩:=(aR9 p).1 E
  obtain⟨d,hd,hd2,rfl⟩:=(aO3 q).1 hq
  refine⟨fun _=>by simp only;omega,fun hb e=>?_⟩
  simp only at hb e
  rcases rA c A with e1|⟨m,D,e1,e2⟩
  ·omega
  have h1:=hA.b1 m D
  rw[show(nA b m.2).toNat=d by omega,gI_at (by rw[hA.bl];exact hd)] at h1
  have:=X6 a (h.rng m D).1
  have:=wD h1
  omega
 ·exact⟨_,List.mem_append_left _ ((aR9 _).2 ⟨c,A,O⟩),O⟩
 ·rcases rB c A with e|⟨m,D,e1,e2⟩
  ·exact⟨_,List.mem_append_right _ ((aO3 _).2 ⟨c,A,by omega,O⟩),O⟩
  have:=((opA_mem h hA ⟨nA a m.1,nA b m.2⟩).2 ⟨m,D,O⟩).1
  exact⟨_,List.mem_append_left _ this,e1.symm⟩
 have inA:∀o:Opn,o∈opA (bK a) P++opB (bK b) B→0≤o.a→0≤o.b→∃m∈M,o=⟨nA a m.1,nA b m.2⟩:=fun o C g1 g2=>by
  rcases List.mem_append.1 C with C|C
  ·exact(opA_mem h hA o).1 ⟨C,g2⟩
  obtain⟨c,A,_,rfl⟩:=(aO3 o).1 C
  simp only at g1;omega
 obtain⟨m,D,rfl⟩:=inA p E h0 h2
 obtain⟨m',hm',rfl⟩:=inA q hq (by simp only at h1 h0⊢;omega) h3
 exact mok_tr h D hm' h1
theorem script_le:(opA (bK a) P++opB (bK b) B).Pairwise Le:=by
 rw[List.pairwise_append]
 refine⟨?_,?_,fun p A q hq=>?_⟩
 ·unfold opA
  rw[List.pairwise_map]
  refine(List.pairwise_lt_range (n:=bK a)).imp fun{c d} k=>?_
  unfold Le;rw[bn_iff];simp only;omega
 ·unfold opB
  rw[List.pairwise_map]
  refine(List.Pairwise.filter _ (List.pairwise_lt_range (n:=bK b))).imp fun{c d} k=>?_
  unfold Le;rw[bn_iff];simp only;omega
 obtain⟨c,hc,rfl⟩:=(aR9 p).1 A
 obtain⟨d,hd,hd2,rfl⟩:=(aO3 q).1 hq
 unfold Le;rw[bn_iff];simp only;omega
theorem range_nodup (n:Nat):(List.range n).Nodup:=List.nodup_range
theorem script_cost (h:MOk a b M) (hA:ArrM a b M P B):cstO a b (opA (bK a) P++opB (bK b) B)+2*M.length=bK a+bK b+cs a b M:=by
 have rB:∀c:Nat,c<bK b→gI B c= -1∨∃m∈M,(c:Int)=nA b m.2∧gI B c=nA a m.1:=fun c I=>hA.b2 c _ (gI_at (by rw[hA.bl];exact I))
 have hperm:((opA (bK a) P).filter fun o=>decide (0≤o.b)).Perm (M.map fun m=>⟨nA a m.1,nA b m.2⟩):=by
  refine(List.perm_ext_iff_of_nodup ?_ ?_).2 fun o=>?_
  ·refine List.Pairwise.filter _ ?_
   unfold opA
   rw[List.pairwise_map]
   exact(List.pairwise_lt_range (n:=bK a)).imp fun{c d} k e=>by
    have:=congrArg Opn.a e;simp only at this;omega
  ·unfold List.Nodup
   rw[List.pairwise_map]
   refine(List.Pairwise.and_mem.1 h.pw).imp fun{m m'} k e=>?_
   have:=nA_inj a (h.rng m k.1).1 (h.rng m' k.2.1).1 (congrArg Opn.a e)
   have:=k.2.2.1
   omega
  rw[List.mem_filter,decide_eq_true_eq,opA_mem h hA o,List.mem_map]
  constructor
  ·rintro⟨m,D,e⟩;exact⟨m,D,e.symm⟩
  rintro⟨m,D,e⟩;exact⟨m,D,e.symm⟩
 have hpermB:((List.range (bK b)).filter fun c=> !decide (gI B c<0)).Perm (M.map fun m=>(nA b m.2).toNat):=by
  refine(List.perm_ext_iff_of_nodup (List.Pairwise.filter _ (range_nodup _)) ?_).2 fun c=>?_
  ·unfold List.Nodup
   rw[List.pairwise_map]
   refine(List.Pairwise.and_mem.1 h.pw).imp fun{m m'} k e=>?_
   have h1:=X6 b (h.rng m k.1).2
   have h2:=X6 b (h.rng m' k.2.1).2
   have:=nA_inj b (h.rng m k.1).2 (h.rng m' k.2.1).2 (by omega)
   have:=k.2.2.2.1
   omega
  rw[List.mem_filter,List.mem_range,Bool.not_eq_true',decide_eq_false_iff_not,List.mem_map]
  constructor
  ·rintro⟨g1,g2⟩
   rcases rB c g1 with e|⟨m,D,e1,e2⟩
   ·omega
   exact⟨m,D,by omega⟩
  rintro⟨m,D,rfl⟩
  have h1:=X6 b (h.rng m D).2
  have h2:=X6 a (h.rng m D).1
  refine⟨by omega,?_⟩
  unfold gI
  rw[hA.b1 m D,Option.getD_some];omega
 unfold cstO
 rw[List.countP_append]
 have c1:(opB (bK b) B).countP (ctO (prN a 0 (-1)) (prN b 0 (-1)))=(opB (bK b) B).length:=List.countP_eq_length.2 fun o E=>by
  obtain⟨c,_,_,rfl⟩:=(aO3 o).1 E
  unfold ctO;simp
 have c2:(opB (bK b) B).length+M.length=bK b:=by
  unfold opB
  rw[List.length_map]
  have e1:=hpermB.length_eq
  rw[List.length_map] at e1
  have e2:=len_split (fun c=>decide (gI B c<0)) (List.range (bK b))
  rw[List.length_range] at e2
  omega
 have c3:=List.countP_eq_countP_filter_add (opA (bK a) P) (ctO (prN a 0 (-1)) (prN b 0 (-1))) (fun o=>decide (0≤o.b))
 have c4:((opA (bK a) P).filter fun o=> !decide (0≤o.b)).countP (ctO (prN a 0 (-1)) (prN b 0 (-1)))=((opA (bK a) P).filter fun o=> !decide (0≤o.b)).length:=List.countP_eq_length.2 fun o E=>by
  rw[List.mem_filter,Bool.not_eq_true',decide_eq_false_iff_not] at E
  have hb:o.b<0:=by omega
  unfold ctO;simp[hb]
 have c5:=len_split (fun o=>decide (0≤o.b)) (opA (bK a) P)
 have c6:(opA (bK a) P).length=bK a:=by unfold opA;simp
 have c7:=hperm.length_eq
 rw[List.length_map] at c7
 have c8:((opA (bK a) P).filter fun o=>decide (0≤o.b)).countP (ctO (prN a 0 (-1)) (prN b 0 (-1)))=cs a b M:=by
  rw[hperm.countP_eq,List.countP_map]
  have:∀N:List (Nat×Nat),(∀m∈N,m∈M)→N.countP (ctO (prN a 0 (-1)) (prN b 0 (-1))∘fun m=>⟨nA a m.1,nA b m.2⟩)=cs a b N:=by
   intro N
   induction N with
   |nil=>intro _;rfl
   |cons m N ih=>
    intro hN
    have D:=hN m (List.mem_cons_self ..)
    obtain⟨x,H,x2,_,u,_,G,F,_⟩:=nA_ok a (h.rng m D).1
    obtain⟨y,y1,y2,_,v,_,y4,y5,_⟩:=nA_ok b (h.rng m D).2
    have e:(ctO (prN a 0 (-1)) (prN b 0 (-1))∘fun m:Nat×Nat=>(⟨nA a m.1,nA b m.2⟩:Opn)) m= !decide (labT u=labT v):=by
     show ctO _ _ ⟨nA a m.1,nA b m.2⟩=_
     unfold ctO
     simp only
     rw[H,y1,xL,xL,G,y4,decide_eq_false (p:=(x:Int)<0) (by omega),decide_eq_false (p:=(y:Int)<0) (by omega)]
     simp only[Bool.false_or]
     congr 1
     rw[decide_eq_decide,Prod.mk.injEq]
     generalize labT u=A
     generalize labT v=C
     obtain⟨c,d⟩:=A
     obtain⟨e,f⟩:=C
     simp
    rw[List.countP_cons,ih fun k hk=>hN k (List.mem_cons_of_mem _ hk),e,show m::N=[m]++N from rfl,cs_app,Nat.add_comm]
    congr 1
    unfold cs
    simp only[List.map_cons,List.map_nil,List.sum_cons,List.sum_nil]
    rw[F,y5]
    unfold rl
    by_cases g:labT u=labT v
    ·rw[if_pos g,decide_eq_true g];rfl
    rw[if_neg g,decide_eq_false g];rfl
  exact this M fun m D=>D
 rw[c3,c4,c8,c1]
 omega
theorem Align_m (a b:Node) (ha:bK a≤20) (hb:bK b≤20):∃l,uY a b=some (l,0)∧Va a b l∧cstO a b l=td a b:=by
 have pa:=pG a
 have pb:=pG b
 obtain⟨D,hD,F⟩:=Subtrees_m a b (by omega) (by omega)
 have nla:(nmb (prN a 0 (-1))).nodes.length=bK a:=by unfold nmb;simp[zO.1]
 have nlb:(nmb (prN b 0 (-1))).nodes.length=bK b:=by unfold nmb;simp[zO.1]
 obtain⟨M,hM,hP⟩:=pair_r (D:=D) (by omega) (by omega) F ((bK a-1)+(bK b-1)+1) (bK a-1) (bK b-1) (toT a) (toT b) (List.replicate (bK a) (-1)) (List.replicate (bK b) (-1)) (aO5 a).1 (aO5 b).1 (zP _) (by simp) (by simp)
 have hOk:MOk a b M:=⟨fun m A=>by have:=hP.rng m A;omega,hP.pw⟩
 have hA:=arrM hOk
 have hcost:=script_cost hOk hA
 have E:=hP.cost
 rw[sO,sO] at E
 refine⟨opA (bK a) (wP a b M (List.replicate (bK a) (-1)))++opB (bK b) (wB a b M (List.replicate (bK b) (-1))),?_,(script_st hOk hA).vd script_le,by unfold td;omega⟩
 generalize wP a b M (List.replicate (bK a) (-1))=P at*
 generalize wB a b M (List.replicate (bK b) (-1))=B at*
 unfold uY
 rw[hD,bsn,if_neg (by simp),aG2 a (by omega),bsn,aG2 b (by omega),bsn,post_m a (by omega),bsn,post_m b (by omega),bsn,nla,repeat_m _ (by omega) (by omega),bsn,nlb,repeat_m _ (by omega) (by omega),bsn]
 simp only
 rw[xI,xI,dI (by omega),bsn,dI (by omega),bsn]
 have e:uN (Alg.mk (nmb (prN a 0 (-1))) (nmb (prN b 0 (-1))) (kM a 0) (lefts 0 (po [toT a])) (kM b 0) (lefts 0 (po [toT b])) D (List.replicate (bK a) (-1)) (List.replicate (bK b) (-1))) ((bK a:Int)-1) ((bK b:Int)-1)=some (alg a b D P B):=by
  unfold uN
  rw[show((bK a:Int)-1).toNat=bK a-1 by omega,show((bK b:Int)-1).toNat=bK b-1 by omega,show(bK a:Int)-1=((bK a-1:Nat):Int) by omega,show(bK b:Int)-1=((bK b-1:Nat):Int) by omega]
  exact hM
 rw[e,bsn]
 have ePt:(alg a b D P B).partner=P:=rfl
 have eBk:(alg a b D P B).back=B:=rfl
 refine zB (fun i=>((i:Int),opA i P)) (bK a) (opA (bK a) P) (by simp[opA]) (fun i hi=>?_) (by simp only[xR];rw[ePt,hA.pl,if_neg (by simp)]) ?_
 ·simp only[xR]
  rw[ePt,hA.pl,if_pos (by simp;omega),bC (gI_at (by rw[hA.pl];exact hi)),bsn,yC (by unfold opA;simp;omega),bsn,fF (by omega),bsn]
  unfold opA
  rw[List.range_succ,List.map_append];rfl
 have hlB:∀i,(opB i B).length≤i:=fun i=>by
  unfold opB
  rw[List.length_map]
  have:=List.length_filter_le (fun c=>decide (gI B c<0)) (List.range i)
  rwa [List.length_range] at this
 have hlA:(opA (bK a) P).length=bK a:=by unfold opA;simp
 refine zB (fun i=>((i:Int),opA (bK a) P++opB i B)) (bK b) (opA (bK a) P++opB (bK b) B) (by simp[opB]) (fun i hi=>?_) (by simp only[xU];rw[eBk,hA.bl,if_neg (by simp)]) O
 have hs:opB (i+1) B=opB i B++if gI B i<0 then [⟨-1,(i:Int)⟩] else []:=by
  unfold opB
  rw[List.range_succ,List.filter_append,List.map_append]
  congr 1
  by_cases h:gI B i<0<;>simp[h]
 have C:=hlB i
 simp only[xU]
 rw[eBk,hA.bl,if_pos (by simp;omega),bC (gI_at (by rw[hA.bl];exact hi)),bsn,hs]
 by_cases h:gI B i<0
 ·rw[if_pos (by simpa using h),yC (by rw[uW,hlA];simp only[List.length_singleton];omega),bsn,fF (by omega),bsn,if_pos h,vD]
 rw[if_neg (by simpa using h),fF (by omega),bsn,if_neg h,List.append_nil]
end
theorem few_r:∀(f:Nat) (n:Node),SizeOf.sizeOf n<f→∀(left:Int),left≤1000→ -1≤left→∃r,kQ f n left=some r∧ -1≤r∧r≤1000∧(0≤r→(bK n:Int)+r=left):=by
 intro f
 induction f with
 |zero=>intro n h;omega
 |succ f ih=>
  intro n hsz left hl D
  have hcnt:=pG n
  unfold kQ rH
  split
  ·exact⟨-1,O,by omega,by omega,fun h=>by omega⟩
  rename_i E
  have C:1≤left:=by
   apply Classical.byContradiction
   intro hn
   apply E
   rw[Bool.or_eq_true]
   exact Or.inl (decide_eq_true (by omega))
  rw[dI (by omega)]
  simp only[uL]
  obtain⟨r,hr,h1,h2,h3⟩:=aO0 (body:=fun s=>kE n (kQ f) s.1 s.2) (fun s=>∃i:Nat,s.2=(i:Int)∧i≤n.kids.length∧ -1≤s.1∧s.1≤1000∧(0≤s.1→(gW (n.kids.take i):Int)+s.1=left-1)) (fun s=>n.kids.length-s.2.toNat)
   (fun r=> -1≤r∧r≤1000∧(0≤r→(bK n:Int)+r=left))
   (by
    rintro⟨l,z⟩ ⟨i,e,hi,h1,h2,h3⟩
    simp only at e h1 h2 h3
    subst e
    by_cases hlt:i<n.kids.length∧0≤l
    ·left
     obtain⟨x,A⟩:=dE hlt.1
     obtain⟨r,hr,g1,g2,g3⟩:=ih x (by have:=aD5 A;omega) l h2 h1
     have e1:=zG A
     have e2:=wY (n.kids.take i)
     rw[vQ] at e2
     have e3:=h3 hlt.2
     refine⟨(r,((i+1:Nat):Int)),?_,⟨i+1,O,by omega,g1,g2,fun h=>?_⟩,by simp;omega⟩
     ·simp only[kE]
      rw[if_pos (by simp;omega),bC A]
      simp only[uL]
      rw[hr]
      simp only[uL]
      rw[fF (by omega)]
      rfl
     have:=g3 h
     simp only
     rw[e1];omega
    right
    refine⟨l,?_,h1,h2,fun h=>?_⟩
    ·simp only[kE]
     rw[if_neg (by
      rw[Bool.and_eq_true,decide_eq_true_eq,decide_eq_true_eq]
      omega)]
    have h4:=h3 h
    rw[wN (by omega)] at h4
    omega) (left-1,0) ⟨0,O,Nat.zero_le _,by simp only;omega,by simp only;omega,fun _=>by simp[gW]⟩
  rw[hr]
  exact⟨r,O,h1,h2,h3⟩
theorem Few_m (n:Node) (k:Int) (h:k≤1000) (h0:0≤k):∃b,qB n k=some b∧(b=true→(bK n:Int)≤k):=by
 obtain⟨r,hr,h1,h2,h3⟩:=few_r (SizeOf.sizeOf n+1) n (by omega) k h (by omega)
 unfold qB zN
 rw[hr]
 refine⟨_,O,fun e=>?_⟩
 have:=h3 (by simpa using e)
 have:=of_decide_eq_true e
 omega
theorem Count_r:∀(f:Nat) (n:Node),SizeOf.sizeOf n<f→bK n≤100000→kY f n=some (bK n:Int):=by
 intro f
 induction f with
 |zero=>intro n h;omega
 |succ f ih=>
  intro n hsz hn
  have hcnt:=pG n
  have hlen:=wY n.kids
  unfold kY pM
  refine zB (fun i=>(((1+gW (n.kids.take i):Nat):Int),(i:Int))) n.kids.length (((1+gW n.kids:Nat):Int)) (by simp[gW]) (fun i hi=>?_) ?_ ?_
  ·obtain⟨x,A⟩:=dE hi
   have e1:=zG A
   have e2:=aD3 n.kids (i+1)
   simp only[lX]
   rw[if_pos (by simp;omega),bC A]
   simp only[uL]
   rw[ih x (by have:=aD5 A;omega) (by omega)]
   simp only[uL]
   rw[dI (by omega)]
   simp only[uL]
   rw[fF (by omega),e1]
   simp only[uL,wA,Step.next.injEq,Prod.mk.injEq,and_true]
   omega
  ·simp only[lX]
   rw[if_neg (by simp),wN (zP _)]
  rw[hcnt]
theorem Count_m (n:Node) (h:bK n≤100000):uC n=some (bK n:Int):=Count_r _ n (by omega) h
theorem few_m (a b:Node) (k:Int) (h:k≤1000) (h0:0≤k):∃r,sU a b k=some r∧(r=true→(bK a:Int)≤k∧(bK b:Int)≤k):=by
 obtain⟨x,A,h1⟩:=Few_m a k h h0
 obtain⟨y,hy,h2⟩:=Few_m b k h h0
 unfold sU
 rw[A,hy]
 simp only[uL]
 cases x with
 |true=>exact⟨y,by simp,fun e=>⟨h1 rfl,h2 e⟩⟩
 |false=>exact⟨false,by simp,fun e=>by cases e⟩
theorem rwalk_m:∀(f:Nat) (n:Node),SizeOf.sizeOf n<f→∀(c B:Nat) (g:RFlat),g.kinds.length=B→g.texts.length=B→g.left.length=B→g.numbers.length=B→B+bK n≤100000→c+bK n≤100000→
  lY f g n (c:Int)=some ⟨g.kinds++(po [toT n]).map (fun u=>(labT u).kind),g.texts++(po [toT n]).map (fun u=>(labT u).text),g.left++lefts B (po [toT n]),g.numbers++kM n c⟩:=by
 intro f
 induction f with
 |zero=>intro n h;omega
 |succ f ih=>
  intro n hsz c B g h0 h1 h2 h3 hB hc
  have hcnt:=pG n
  unfold lY qO
  rw[fF (by omega)]
  simp only[uL]
  refine zB (fun i=>(((c+1+gW (n.kids.take i):Nat):Int),(i:Int),g.kinds++(po (toR (n.kids.take i))).map (fun u=>(labT u).kind),g.texts++(po (toR (n.kids.take i))).map (fun u=>(labT u).text),g.left++lefts B (po (toR (n.kids.take i))),g.numbers++numsL (n.kids.take i) (c+1))) n.kids.length
   (g.kinds++(po (toR n.kids)).map (fun u=>(labT u).kind),g.texts++(po (toR n.kids)).map (fun u=>(labT u).text),g.left++lefts B (po (toR n.kids)),g.numbers++numsL n.kids (c+1)) ?_ ?_ ?_ ?_
  ·simp[aI8,po_nil,lefts,numsL,gW]
  ·intro i hi
   obtain⟨x,A⟩:=dE hi
   have e1:=zG A
   have e2:=aD3 n.kids (i+1)
   have e4:=wY n.kids
   simp only[nN]
   rw[if_pos (by simp;omega),bC A]
   simp only[uL]
   rw[ih x (by have:=aD5 A;omega) (c+1+gW (n.kids.take i)) (B+gW (n.kids.take i)) _ (by simp[vY,xO,h0]) (by simp[vY,xO,h1]) (by simp[F6,vY,xO,h2]) (by simp[tK,h3]) (by omega) (by omega)]
   simp only[uL]
   rw[Count_m x (by omega)]
   simp only[uL]
   rw[dI (by omega)]
   simp only[uL]
   rw[fF (by omega)]
   simp only[uL]
   rw[toR_take A,po_cons (toT x) (toR (n.kids.take i)),aQ2 A,List.map_append,List.map_append,J9,vY,xO,e1]
   simp only[vD]
   congr 3
   omega
  ·simp only[nN]
   rw[if_neg (by simp),wN (zP _)]
  have l0:(g.kinds++(po (toR n.kids)).map (fun u=>(labT u).kind)).length=B+gW n.kids:=by simp[vY,xO,h0]
  have l1:(g.texts++(po (toR n.kids)).map (fun u=>(labT u).text)).length=B+gW n.kids:=by simp[vY,xO,h1]
  have l2:(g.left++lefts B (po (toR n.kids))).length=B+gW n.kids:=by simp[F6,vY,xO,h2]
  have l3:(g.numbers++numsL n.kids (c+1)).length=B+gW n.kids:=by simp[tK,h3]
  simp only
  rw[yC (by rw[l0];simp;omega)]
  simp only[uL]
  rw[yC (by rw[l1];simp;omega)]
  simp only[uL]
  rw[yC (by rw[l2];simp;omega)]
  simp only[uL]
  rw[yC (by rw[l3];simp;omega)]
  simp only[uL]
  have e3:=sO n
  rw[aI5,J9,vY,toT_eq,aG3]
  simp only[J3,labT,List.map_append,List.map_cons,List.map_nil,vD,lefts]
  rw[←toT_eq,e3,xO,h0]
  congr 5
  omega
def rOf (n:Node):RFlat:=⟨(po [toT n]).map (fun u=>(labT u).kind),(po [toT n]).map (fun u=>(labT u).text),lefts 0 (po [toT n]),kM n 0⟩
theorem rflat_m (n:Node) (h:bK n≤100000):rP (RFlat.mk [] [] [] []) n 0=some (rOf n):=by
 unfold rP
 have:=rwalk_m (SizeOf.sizeOf n+1) n (by omega) 0 0 ⟨[],[],[],[]⟩ O O O O (by omega) (by omega)
 simp only[List.nil_append] at this
 rw[show((0:Nat):Int)=0 from rfl] at this
 rw[this];rfl
structure RArr (c:RFlat) (T:Tr):Prop where
 kinds:∀(s:Nat) (u:Tr),(po [T])[s]?=some u→c.kinds[s]?=some (labT u).kind
 texts:∀(s:Nat) (u:Tr),(po [T])[s]?=some u→c.texts[s]?=some (labT u).text
 left:∀(s:Nat),s<szT T→c.left[s]?=some ((lf T s:Nat):Int)
 klen:c.kinds.length=szT T
theorem rArr (n:Node):RArr (rOf n) (toT n):=by
 refine⟨fun s u h=>?_,fun s u h=>?_,(arrOf n).left,?_⟩
 ·show((po [toT n]).map _)[s]?=_
  rw[xF,h];rfl
 ·show((po [toT n]).map _)[s]?=_
  rw[xF,h];rfl
 show((po [toT n]).map _).length=_
 rw[List.length_map,uD]
theorem rtable_m (N M:Nat) (hN:N≤4294967296) (hM:M≤4294967296):∃D,kR (N:Int) (M:Int)=some D∧Dim D N M∧∀s t,s<N→t<M→at2 D s t=some 0:=by
 unfold kR
 obtain⟨D,hD,C⟩:=mJ (body:=fun s=>mM (N:Int) (M:Int) s.1 s.2) (fun k s=>s.1=(k:Int)∧s.2=List.replicate k (List.replicate M 0)) (fun D=>D=List.replicate N (List.replicate M 0)) N 0 (0,[]) ⟨O,O⟩
  (by
   rintro k ⟨i,D⟩ _ hk ⟨e,A⟩
   simp only at e A
   subst e;subst A
   refine⟨((k+1:Nat),List.replicate (k+1) (List.replicate M 0)),?_,O,O⟩
   simp only[mM]
   rw[if_pos (by simp;omega),mkc_ok (by omega)]
   simp only[uL,xL]
   rw[yC (by simp;omega)]
   simp only[uL]
   rw[fF (by omega),List.replicate_succ']
   rfl)
  (by
   rintro⟨i,D⟩ ⟨e,A⟩
   simp only at e A
   rw[Nat.zero_add] at e A
   subst e;subst A
   refine⟨_,?_,O⟩
   simp only[mM]
   rw[if_neg (by simp)])
 rw[hD]
 subst C
 refine⟨_,O,⟨by simp,fun r hr=>by rw[List.eq_of_mem_replicate hr];simp⟩,fun s t hs ht=>?_⟩
 unfold at2
 simp[hs,ht]
section
variable {c0 c1:RFlat} {T T' ti tk:Tr} {i k:Nat}
theorem rinner_m (h0:RArr c0 T) (h1:RArr c1 T') (hT:szT T≤100000) (hT':szT T'≤100000) (hi:(po [T])[i]?=some ti) (hk:(po [T'])[k]?=some tk) {D:List (List Int)}
  (need:∀s t u u',i+1-szT ti≤s→s≤i→k+1-szT tk≤t→t≤k→(po [T])[s]?=some u→(po [T'])[t]?=some u'→¬(lf T s=i+1-szT ti∧lf T' t=k+1-szT tk)→at2 D s t=some ((fd [u] [u']:Nat):Int))
  {x y:Nat} (J:x<szT ti) (hy:y<szT tk) {f D':List (List Int)} (hf:FI ti tk x y f) (hd:DI T T' (i+1-szT ti) (k+1-szT tk) (szT tk) x y D D'):
  ∃f2 D2,jD c0 c1 (k:Int) ((i+1-szT ti:Nat):Int) ((k+1-szT tk:Nat):Int) ((x+1:Nat):Int) ((y+1:Nat):Int) f D'=some (.next (((y+1+1:Nat):Int),f2,D2))∧FI ti tk x (y+1) f2∧DI T T' (i+1-szT ti) (k+1-szT tk) (szT tk) x (y+1) D D2:=by
 have hsi:=(kX [T] hi).1
 have hsk:=(kX [T'] hk).1
 have hiT:=vI hi
 have hkT:=vI hk
 generalize hp:i+1-szT ti=p at*
 generalize hq:k+1-szT tk=q at*
 obtain⟨u,hu⟩:=dE (l:=po [ti]) (k:=x) (by rw[uD];exact J)
 obtain⟨u',hu'⟩:=dE (l:=po [tk]) (k:=y) (by rw[uD];exact hy)
 have hA:(po [T])[p+x]?=some u:=by rw[←hp,←aI7 hi J];exact hu
 have hB:(po [T'])[q+y]?=some u':=by rw[←hq,←aI7 hk hy];exact hu'
 have su:=(kX [ti] hu).1
 have su':=(kX [tk] hu').1
 have pu:=pR u
 have pu':=pR u'
 have eA:=yV hA
 have eB:=yV hB
 have hcell:=fd_fr ti tk J hy hu hu'
 obtain⟨r1,v1,a1,a2,a3,_⟩:=hf.dim.get (s:=x) (t:=y+1) (by omega) (by omega)
 obtain⟨r2,v2,b1,b2,b3,b4⟩:=hf.dim.get (s:=x+1) (t:=y) (by omega) (by omega)
 obtain⟨r4,v4,d1,d2,d3,_⟩:=hf.dim.get (s:=x+1) (t:=y+1) (by omega) (by omega)
 rw[b1] at d1
 obtain rfl:=wD d1
 have e1:v1=((fd (fr ti x) (fr tk (y+1)):Nat):Int):=by
  have:=hf.val x (y+1) (by omega) (by omega) (Or.inl (zP _));rw[a3] at this;exact wD this
 have e2:v2=((fd (fr ti (x+1)) (fr tk y):Nat):Int):=by
  have:=hf.val (x+1) y (by omega) (by omega) (Or.inr (Or.inr ⟨O,zP _⟩));rw[b3] at this;exact wD this
 have s1:=zT ti tk (x:=x) (y:=y+1) (by omega) (by omega)
 have s2:=zT ti tk (x:=x+1) (y:=y) (by omega) (by omega)
 have s3:=zT ti tk (x:=x) (y:=y) (by omega) (by omega)
 have hk0:=h0.kinds _ _ hA
 have ht0:=h0.texts _ _ hA
 have hk1:=h1.kinds _ _ hB
 have ht1:=h1.texts _ _ hB
 have L:=h0.left (p+x) (by omega)
 have I:=h1.left (q+y) (by omega)
 have fin:∀v:Int,v=((fd (fr ti (x+1)) (fr tk (y+1)):Nat):Int)→FI ti tk x (y+1) (f.set (x+1) (r2.set (y+1) v)):=by
  intro v hv
  refine⟨hf.dim.set b1 v,fun x' y' h1 h2 h3=>?_⟩
  rw[xP b1 d2]
  split
  ·rename_i hh;obtain⟨rfl,rfl⟩:=hh;rw[hv]
  rename_i hh
  refine hf.val x' y' h1 h2 ?_
  rcases h3 with h3|h3|⟨h3,h4⟩
  ·exact Or.inl h3
  ·exact Or.inr (Or.inl h3)
  refine Or.inr (Or.inr ⟨h3,?_⟩)
  have:¬y'=y+1:=fun e=>hh ⟨h3,e⟩
  omega
 have Q:((x+1:Nat):Int)-1=(x:Int):=by omega
 have ey0:((y+1:Nat):Int)-1=(y:Int):=by omega
 have es:(p:Int)+((x+1:Nat):Int)-1=((p+x:Nat):Int):=by omega
 have et:(q:Int)+((y+1:Nat):Int)-1=((q+y:Nat):Int):=by omega
 simp only[jD]
 rw[dI (by omega)]
 simp only[uL]
 rw[dI (by omega)]
 simp only[uL]
 rw[if_pos (by rw[decide_eq_true_eq];omega)]
 rw[dI (by omega)]
 simp only[uL]
 rw[dI (by omega)]
 simp only[uL]
 rw[dI (by omega)]
 simp only[uL]
 rw[dI (by omega)]
 simp only[uL]
 rw[dI (by omega)]
 simp only[uL]
 rw[es,et,Q,bC a1]
 simp only[uL]
 rw[bC a2]
 simp only[uL]
 rw[bC b1]
 simp only[uL]
 rw[dI (by omega),ey0]
 simp only[uL]
 rw[bC b2]
 simp only[uL]
 rw[dI (by omega)]
 simp only[uL]
 rw[bC L]
 simp only[uL]
 have hcond:((if decide (((lf T (p+x):Nat):Int)=(p:Int))=true then(idx c1.left ((q+y:Nat):Int)).bind fun K=>some (decide (K=(q:Int))) else some false):Option Bool)=some (decide (szT u=x+1∧szT u'=y+1)):=by
  rw[bC I]
  simp only[uL]
  rw[eA,eB]
  by_cases g1:szT u=x+1
  ·rw[if_pos (by rw[decide_eq_true_eq];omega)]
   congr 1
   exact decide_eq_decide.2 (by omega)
  rw[if_neg (by rw[decide_eq_true_eq];omega),decide_eq_false (by omega)]
 rw[hcond]
 simp only[uL]
 by_cases hb:szT u=x+1∧szT u'=y+1
 ·rw[if_pos (by simp[hb])]
  rw[if_pos hb] at hcell
  obtain⟨r3,v3,c1',c2',c3',_⟩:=hf.dim.get (s:=x) (t:=y) (by omega) (by omega)
  have e3:v3=((fd (fr ti x) (fr tk y):Nat):Int):=by
   have:=hf.val x y (by omega) (by omega) (Or.inl (zP _));rw[c3'] at this;exact wD this
  obtain⟨rd,vd,g1,g2,g3,_⟩:=hd.dim.get (s:=p+x) (t:=q+y) (by omega) (by omega)
  rw[a1] at c1'
  obtain rfl:=wD c1'
  rw[bC c2']
  simp only[uL]
  rw[bC hk0,bC hk1]
  simp only[uL]
  have R:(((if(!decide ((labT u).kind=(labT u').kind))=true then some true else(idx c0.texts ((p+x:Nat):Int)).bind fun F=>(idx c1.texts ((q+y:Nat):Int)).bind fun E=>some (!decide (F=E))):Option Bool).bind fun m2=>((if m2=true then(inK .i64 (v3+1)).bind fun C=>some C else some v3):Option Int))=some (v3+((rl (labT u) (labT u'):Nat):Int)):=by
   rw[bC ht0,bC ht1]
   simp only[uL]
   rw[dI (by omega)]
   unfold rl
   generalize labT u=A
   generalize labT u'=B
   obtain⟨ka,ta⟩:=A
   obtain⟨kb,tb⟩:=B
   by_cases h1:ka=kb
   ·by_cases h2:ta=tb
    ·simp[h1,h2]
    simp[h1,h2]
   simp[h1]
  have hjj:∀(G:Int→Option (Int×List (List Int))),((((if(!decide ((labT u).kind=(labT u').kind))=true then some true else(idx c0.texts ((p+x:Nat):Int)).bind fun F=>(idx c1.texts ((q+y:Nat):Int)).bind fun E=>some (!decide (F=E))):Option Bool).bind fun m2=>((if m2=true then(inK .i64 (v3+1)).bind fun C=>some C else some v3):Option Int).bind G))=G (v3+((rl (labT u) (labT u'):Nat):Int)):=fun G=>by
   rw[←Option.bind_assoc,R];rfl
  rw[hjj]
  rw[bC g1]
  simp only[uL]
  rw[bC g2]
  simp only[uL,xL]
  have hv:min (min v1 v2+1) (v3+((rl (labT u) (labT u'):Nat):Int))=((fd (fr ti (x+1)) (fr tk (y+1)):Nat):Int):=by rw[hcell,e1,e2,e3];omega
  rw[hv]
  rw[bC d2]
  simp only[uL]
  rw[dI (by omega)]
  simp only[uL]
  refine⟨_,_,by rw[show((y+1:Nat):Int)+1=((y+1+1:Nat):Int) by omega],fin _ O,?_⟩
  have hfull:fd (fr ti (x+1)) (fr tk (y+1))=fd [u] [u']:=by
   have z1:=(aN7 ti J hu).2.1
   have z2:=(aN7 tk hy hu').2.1
   rw[hb.1,Nat.sub_self,xQ] at z1
   rw[hb.2,Nat.sub_self,xQ] at z2
   rw[z1,z2]
  refine⟨hd.dim.set g1 _,fun s t w w' H hw' N l1 l2=>?_,fun s t hn=>?_⟩
  ·rw[xP g1 g2]
   split
   ·rename_i hh
    obtain⟨rfl,rfl⟩:=hh
    rw[hA] at H;rw[hB] at hw'
    rw[←wD H,←wD hw',hfull]
   rename_i hh
   refine hd.new s t w w' H hw' ?_ l1 l2
   unfold come at N⊢
   omega
  rw[xP g1 g2]
  split
  ·rename_i hh
   exfalso
   apply hn
   obtain⟨rfl,rfl⟩:=hh
   refine⟨?_,by rw[eA];omega,by rw[eB];omega⟩
   unfold come;omega
  rename_i hh
  refine hd.old s t fun h3=>hn ⟨?_,h3.2⟩
  have:=h3.1
  unfold come at this⊢
  omega
 rw[if_neg (by simp[hb])]
 rw[if_neg hb] at hcell
 obtain⟨r3,v3,c1',c2',c3',_⟩:=hf.dim.get (s:=x+1-szT u) (t:=y+1-szT u') (by omega) (by omega)
 have e3:v3=((fd (fr ti (x+1-szT u)) (fr tk (y+1-szT u')):Nat):Int):=by
  have:=hf.val (x+1-szT u) (y+1-szT u') (by omega) (by omega) (Or.inl (by omega));rw[c3'] at this;exact wD this
 obtain⟨rd,vd,g1,g2,g3,_⟩:=hd.dim.get (s:=p+x) (t:=q+y) (by omega) (by omega)
 have e4:vd=((fd [u] [u']:Nat):Int):=by
  have h5:=hd.old (p+x) (q+y) (fun h=>by have:=h.1;unfold come at this;omega)
  have h6:=need (p+x) (q+y) u u' (by omega) (by omega) (by omega) (by omega) hA hB (fun h=>hb (by rw[eA,eB] at h;omega))
  rw[h6,g3] at h5
  exact wD h5
 have s4:=zT ti tk (x:=x+1-szT u) (y:=y+1-szT u') (by omega) (by omega)
 have s5:fd [u] [u']≤szT u+szT u':=by
  have h:=aE6 [u] [] [] [u']
  simp only[List.append_nil,List.nil_append] at h
  rw[fd_l0,fd_r0,H6,H6] at h
  exact h
 rw[dI (by rw[eA];omega)]
 simp only[uL]
 rw[show((lf T (p+x):Nat):Int)-(p:Int)=((x+1-szT u:Nat):Int) by rw[eA];omega,bC c1']
 simp only[uL]
 rw[bC I]
 simp only[uL]
 rw[dI (by rw[eB];omega)]
 simp only[uL]
 rw[show((lf T' (q+y):Nat):Int)-(q:Int)=((y+1-szT u':Nat):Int) by rw[eB];omega,bC c2']
 simp only[uL]
 rw[bC g1]
 simp only[uL]
 rw[bC g2]
 simp only[uL]
 rw[dI (by omega)]
 simp only[uL]
 rw[bC d2]
 simp only[uL,xL]
 rw[dI (by omega)]
 simp only[uL]
 refine⟨_,_,by rw[show((y+1:Nat):Int)+1=((y+1+1:Nat):Int) by omega],fin _ (by rw[hcell,e1,e2,e3,e4];omega),?_⟩
 refine⟨hd.dim,fun s t w w' H hw' N l1 l2=>?_,fun s t hn=>?_⟩
 ·refine hd.new s t w w' H hw' ?_ l1 l2
  have:¬(s=p+x∧t=q+y):=fun h=>by
   obtain⟨rfl,rfl⟩:=h
   rw[eA] at l1;rw[eB] at l2
   exact hb (by omega)
  unfold come at N⊢
  omega
 refine hd.old s t fun h3=>hn ⟨?_,h3.2⟩
 have:=h3.1
 unfold come at this⊢
 omega
end
section
variable {c0 c1:RFlat} {T T' ti tk:Tr} {i k:Nat}
theorem rrow_m (h0:RArr c0 T) (h1:RArr c1 T') (C:szT T≤100000) (hT':szT T'≤100000) (hi:(po [T])[i]?=some ti) (hk:(po [T'])[k]?=some tk) {D:List (List Int)}
  (need:∀s t u u',i+1-szT ti≤s→s≤i→k+1-szT tk≤t→t≤k→(po [T])[s]?=some u→(po [T'])[t]?=some u'→¬(lf T s=i+1-szT ti∧lf T' t=k+1-szT tk)→at2 D s t=some ((fd [u] [u']:Nat):Int))
  {x:Nat} (A:x<szT ti) {f D':List (List Int)} (hf:FI ti tk x 0 f) (hd:DI T T' (i+1-szT ti) (k+1-szT tk) (szT tk) x 0 D D'):
  ∃r,dY (fun s=>jD c0 c1 (k:Int) ((i+1-szT ti:Nat):Int) ((k+1-szT tk:Nat):Int) ((x+1:Nat):Int) s.1 s.2.1 s.2.2) (1,f,D')=some r∧FI ti tk (x+1) 0 r.1∧DI T T' (i+1-szT ti) (k+1-szT tk) (szT tk) (x+1) 0 D r.2:=by
 have hsk:=(kX [T'] hk).1
 have hkT:=vI hk
 refine mJ (fun y s=>s.1=((y+1:Nat):Int)∧FI ti tk x y s.2.1∧DI T T' (i+1-szT ti) (k+1-szT tk) (szT tk) x y D s.2.2) _ (szT tk) 0 _ ⟨O,hf,hd⟩ ?_ ?_
 ·rintro y ⟨a,f,D'⟩ _ hy ⟨e,hf,hd⟩
  simp only at e hf hd
  subst e
  obtain⟨f2,D2,h,a1,a2⟩:=rinner_m h0 h1 C hT' hi hk need A (by omega) hf hd
  exact⟨_,h,O,a1,a2⟩
 rintro⟨a,f,D'⟩ ⟨e,hf,hd⟩
 simp only at e hf hd
 rw[Nat.zero_add] at e hf hd
 subst e
 refine⟨(f,D'),?_,hf.row,hd.row⟩
 simp only[jD]
 rw[dI (by omega)]
 simp only[uL]
 rw[dI (by omega)]
 simp only[uL]
 rw[if_neg (by rw[decide_eq_true_eq];omega)]
theorem rrows_m (h0:RArr c0 T) (h1:RArr c1 T') (A:szT T≤100000) (hT':szT T'≤100000) (hi:(po [T])[i]?=some ti) (hk:(po [T'])[k]?=some tk) {D:List (List Int)} (hD:Dim D (szT T) (szT T'))
  (need:∀s t u u',i+1-szT ti≤s→s≤i→k+1-szT tk≤t→t≤k→(po [T])[s]?=some u→(po [T'])[t]?=some u'→¬(lf T s=i+1-szT ti∧lf T' t=k+1-szT tk)→at2 D s t=some ((fd [u] [u']:Nat):Int))
  {f:List (List Int)} (hf:FI ti tk 0 0 f):
  ∃r,dY (fun s=>kV c0 c1 (i:Int) (k:Int) ((i+1-szT ti:Nat):Int) ((k+1-szT tk:Nat):Int) s.1 s.2.1 s.2.2) (1,f,D)=some r∧DI T T' (i+1-szT ti) (k+1-szT tk) (szT tk) (szT ti) 0 D r.2:=by
 have hsi:=(kX [T] hi).1
 have hiT:=vI hi
 refine mJ (fun x s=>s.1=((x+1:Nat):Int)∧FI ti tk x 0 s.2.1∧DI T T' (i+1-szT ti) (k+1-szT tk) (szT tk) x 0 D s.2.2) _ (szT ti) 0 _ ⟨O,hf,DI.start hD⟩ ?_ ?_
 ·rintro x ⟨a,f,D'⟩ _ hx ⟨e,hf,hd⟩
  simp only at e hf hd
  subst e
  obtain⟨r,h,a1,a2⟩:=rrow_m h0 h1 A hT' hi hk need (x:=x) (by omega) hf hd
  refine⟨(((x+1+1:Nat):Int),r.1,r.2),?_,O,a1,a2⟩
  simp only[kV]
  rw[dI (by omega)]
  simp only[uL]
  rw[dI (by omega)]
  simp only[uL]
  rw[if_pos (by rw[decide_eq_true_eq];omega),h]
  simp only[uL]
  rw[fF (by omega)]
  rfl
 rintro⟨a,f,D'⟩ ⟨e,hf,hd⟩
 simp only at e hf hd
 rw[Nat.zero_add] at e hf hd
 subst e
 refine⟨(f,D'),?_,hd⟩
 simp only[kV]
 rw[dI (by omega)]
 simp only[uL]
 rw[dI (by omega)]
 simp only[uL]
 rw[if_neg (by rw[decide_eq_true_eq];omega)]
theorem rborder_m {p q:Nat} (hp:p≤i) (hq:q≤k) (hi:i≤100000) (hk:k≤100000) {f:List (List Int)} (hf:Dim f (i-p+2) (k-q+2)) (hz:at2 f 0 0=some 0):
  ∃g,dY (fun s=>jB (i:Int) (p:Int) s.1 s.2) (1,f)=some g∧
   ∃g',dY (fun s=>jC (k:Int) (q:Int) s.1 s.2) (1,g)=some g'∧Dim g' (i-p+2) (k-q+2)∧(∀x,x<i-p+2→at2 g' x 0=some (x:Int))∧(∀y,y<k-q+2→at2 g' 0 y=some (y:Int)):=by
 obtain⟨g,hg,hd,hv⟩:=mJ (body:=fun s=>jB (i:Int) (p:Int) s.1 s.2) (fun k' s=>s.1=((k'+1:Nat):Int)∧Dim s.2 (i-p+2) (k-q+2)∧∀x,x<k'+1→at2 s.2 x 0=some (x:Int)) (fun g=>Dim g (i-p+2) (k-q+2)∧∀x,x<i-p+2→at2 g x 0=some (x:Int)) (i-p+1) 0 (1,f) ⟨O,hf,fun x h=>by
   have:x=0:=by omega
   subst this;exact hz⟩
  (by
   rintro x ⟨a,f'⟩ _ C ⟨e,hd,hv⟩
   simp only at e hd hv
   subst e
   obtain⟨r,v,a1,a2,_,a4⟩:=hd.get (s:=x+1) (t:=0) (by omega) (by omega)
   refine⟨(((x+1+1:Nat):Int),f'.set (x+1) (r.set 0 ((x+1:Nat):Int))),?_,O,hd.set a1 _,fun x' hx'=>?_⟩
   ·simp only[jB]
    rw[dI (by omega)]
    simp only[uL]
    rw[dI (by omega)]
    simp only[uL]
    rw[if_pos (by rw[decide_eq_true_eq];omega),bC a1]
    simp only[uL]
    rw[show(0:Int)=((0:Nat):Int) from rfl,bC a2]
    simp only[uL,xL]
    rw[fF (by omega)]
    rfl
   simp only
   rw[xP a1 a2]
   split
   ·rename_i hh;rw[hh.1]
   rename_i hh
   exact hv x' (by omega))
  (by
   rintro⟨a,f'⟩ ⟨e,hd,hv⟩
   simp only at e hd hv
   subst e
   refine⟨f',?_,hd,fun x C=>hv x (by omega)⟩
   simp only[jB]
   rw[dI (by omega)]
   simp only[uL]
   rw[dI (by omega)]
   simp only[uL]
   rw[if_neg (by rw[decide_eq_true_eq];omega)])
 refine⟨g,hg,?_⟩
 obtain⟨g',hg',hd',hv',hw'⟩:=mJ (body:=fun s=>jC (k:Int) (q:Int) s.1 s.2) (fun k' s=>s.1=((k'+1:Nat):Int)∧Dim s.2 (i-p+2) (k-q+2)∧(∀x,x<i-p+2→at2 s.2 x 0=some (x:Int))∧∀y,y<k'+1→at2 s.2 0 y=some (y:Int)) (fun g=>Dim g (i-p+2) (k-q+2)∧(∀x,x<i-p+2→at2 g x 0=some (x:Int))∧∀y,y<k-q+2→at2 g 0 y=some (y:Int)) (k-q+1) 0 (1,g) ⟨O,hd,hv,fun y h=>by
   have:y=0:=by omega
   subst this;exact hv 0 (by omega)⟩
  (by
   rintro y ⟨a,f'⟩ _ hy ⟨e,hd,hv,A⟩
   simp only at e hd hv A
   subst e
   obtain⟨r,v,a1,a2,_,a4⟩:=hd.get (s:=0) (t:=y+1) (by omega) (by omega)
   refine⟨(((y+1+1:Nat):Int),f'.set 0 (r.set (y+1) ((y+1:Nat):Int))),?_,O,hd.set a1 _,fun x' hx'=>?_,fun y' hy'=>?_⟩
   ·simp only[jC]
    rw[dI (by omega)]
    simp only[uL]
    rw[dI (by omega)]
    simp only[uL]
    rw[if_pos (by rw[decide_eq_true_eq];omega),show(0:Int)=((0:Nat):Int) from rfl,bC a1]
    simp only[uL]
    rw[bC a2]
    simp only[uL,xL]
    rw[fF (by omega)]
    rfl
   ·simp only
    rw[xP a1 a2]
    split
    ·rename_i hh;omega
    exact hv x' hx'
   simp only
   rw[xP a1 a2]
   split
   ·rename_i hh;rw[hh.2]
   rename_i hh
   exact A y' (by omega))
  (by
   rintro⟨a,f'⟩ ⟨e,hd,hv,A⟩
   simp only at e hd hv A
   subst e
   refine⟨f',?_,hd,hv,fun y hy=>A y (by omega)⟩
   simp only[jC]
   rw[dI (by omega)]
   simp only[uL]
   rw[dI (by omega)]
   simp only[uL]
   rw[if_neg (by rw[decide_eq_true_eq];omega)])
 exact⟨g',hg',hd',hv',hw'⟩
theorem rforests_m (h0:RArr c0 T) (h1:RArr c1 T') (C:szT T≤100000) (hT':szT T'≤100000) (hi:(po [T])[i]?=some ti) (hk:(po [T'])[k]?=some tk) {D:List (List Int)} (hD:Dim D (szT T) (szT T'))
  (need:∀s t u u',i+1-szT ti≤s→s≤i→k+1-szT tk≤t→t≤k→(po [T])[s]?=some u→(po [T'])[t]?=some u'→¬(lf T s=i+1-szT ti∧lf T' t=k+1-szT tk)→at2 D s t=some ((fd [u] [u']:Nat):Int)):
  ∃D',kZ c0 c1 (i:Int) (k:Int) D=some D'∧DI T T' (i+1-szT ti) (k+1-szT tk) (szT tk) (szT ti) 0 D D':=by
 have hsi:=(kX [T] hi).1
 have hsk:=(kX [T'] hk).1
 have hiT:=vI hi
 have hkT:=vI hk
 have pi:=pR ti
 have pk:=pR tk
 unfold kZ
 rw[bC (h0.left i hiT)]
 simp only[uL]
 rw[bC (h1.left k hkT)]
 simp only[uL]
 rw[yV hi,yV hk,dI (by omega)]
 simp only[uL]
 rw[dI (by omega)]
 simp only[uL]
 rw[dI (by omega)]
 simp only[uL]
 rw[dI (by omega)]
 simp only[uL]
 rw[show(i:Int)-((i+1-szT ti:Nat):Int)+2=((szT ti+1:Nat):Int) by omega,show(k:Int)-((k+1-szT tk:Nat):Int)+2=((szT tk+1:Nat):Int) by omega]
 obtain⟨f,hf,hfd,hz⟩:=rtable_m (szT ti+1) (szT tk+1) (by omega) (by omega)
 rw[hf]
 simp only[uL]
 have e1:i-(i+1-szT ti)+2=szT ti+1:=by omega
 have e2:k-(k+1-szT tk)+2=szT tk+1:=by omega
 obtain⟨g,hg,g',hg',hd',hv',hw'⟩:=rborder_m (i:=i) (k:=k) (p:=i+1-szT ti) (q:=k+1-szT tk) (by omega) (by omega) (by omega) (by omega) (f:=f) (by rw[e1,e2];exact hfd) (hz 0 0 (by omega) (by omega))
 rw[e1] at hd' hv'
 rw[e2] at hd' hw'
 rw[hg]
 simp only[uL]
 rw[hg']
 simp only[uL]
 have hFI:FI ti tk 0 0 g':=by
  refine⟨hd',fun x' y' a1 a2 a3=>?_⟩
  by_cases A:x'=0
  ·subst A
   rw[hw' y' (by omega),xQ,fd_r0,sz_fr tk a2]
  have:y'=0:=by omega
  subst this
  rw[hv' x' (by omega),xQ,fd_l0,sz_fr ti a1]
 obtain⟨r,hr,hdi⟩:=rrows_m h0 h1 C hT' hi hk hD need hFI
 rw[hr]
 exact⟨_,O,hdi⟩
end
structure RGood (T T':Tr) (a b:Nat) (D:List (List Int)):Prop where
 dim:Dim D (szT T) (szT T')
 val:∀s t u u',(po [T])[s]?=some u→(po [T'])[t]?=some u'→(s<a∨s=a∧t<b)→at2 D s t=some ((fd [u] [u']:Nat):Int)
theorem rpair_m {c0 c1:RFlat} {T T':Tr} (h0:RArr c0 T) (h1:RArr c1 T') (C:szT T≤100000) (hT':szT T'≤100000) {a b:Nat} (ha:a<szT T) (hb:b<szT T') {D:List (List Int)} (hD:RGood T T' a b D):
  ∃D',kZ c0 c1 (a:Int) (b:Int) D=some D'∧RGood T T' a (b+1) D':=by
 obtain⟨ti,hti,si⟩:=at_lt ha
 obtain⟨tk,htk,sk⟩:=at_lt hb
 have pi:=pR ti
 have pk:=pR tk
 have ei:=yV hti
 have ek:=yV htk
 obtain⟨D',hD',hd⟩:=rforests_m h0 h1 C hT' hti htk hD.dim (fun s t u u' a1 a2 a3 a4 hu hu' hne=>by
  refine hD.val s t u u' hu hu' ?_
  by_cases hs:s=a
  ·subst hs
   refine Or.inr ⟨O,?_⟩
   by_cases ht:t=b
   ·subst ht;exact absurd ⟨ei,ek⟩ hne
   omega
  left;omega)
 refine⟨D',hD',hd.dim,fun s t u u' hu hu' A=>?_⟩
 by_cases hnew:come (a+1-szT ti) (b+1-szT tk) (szT tk) (szT ti) 0 s t∧lf T s=a+1-szT ti∧lf T' t=b+1-szT tk
 ·exact hd.new s t u u' hu hu' hnew.1 hnew.2.1 hnew.2.2
 rw[hd.old s t hnew]
 refine hD.val s t u u' hu hu' ?_
 have:¬(s=a∧t=b):=fun h=>by
  obtain⟨rfl,rfl⟩:=h
  exact hnew ⟨by unfold come;omega,ei,ek⟩
 omega
theorem rpairs_m {c0 c1:RFlat} {T T':Tr} (h0:RArr c0 T) (h1:RArr c1 T') (C:szT T≤100000) (hT':szT T'≤100000) {D:List (List Int)} (hD:Dim D (szT T) (szT T')):
  ∃D',dY (fun s=>jY c0 c1 s.1 s.2) (0,D)=some D'∧RGood T T' (szT T) 0 D':=by
 refine mJ (fun a s=>s.1=(a:Int)∧RGood T T' a 0 s.2) _ (szT T) 0 _ ⟨O,hD,fun s t u u' _ _ h=>by omega⟩ ?_ ?_
 ·rintro a ⟨x,D⟩ _ ha ⟨e,hg⟩
  simp only at e hg
  subst e
  obtain⟨D',hD',hg'⟩:=mJ (body:=fun s=>jZ c0 c1 (a:Int) s.1 s.2) (fun b s=>s.1=(b:Int)∧RGood T T' a b s.2) (fun D=>RGood T T' (a+1) 0 D) (szT T') 0 (0,D) ⟨O,hg⟩
   (by
    rintro b ⟨x,D⟩ _ hb ⟨e,hg⟩
    simp only at e hg
    subst e
    obtain⟨D',hD',hg'⟩:=rpair_m h0 h1 C hT' (by omega) (by omega) hg
    refine⟨(((b+1:Nat):Int),D'),?_,O,hg'⟩
    simp only[jZ]
    rw[if_pos (by simp[h1.klen];omega),hD']
    simp only[uL]
    rw[fF (by omega)]
    rfl)
   (by
    rintro⟨x,D⟩ ⟨e,hg⟩
    simp only at e hg
    rw[Nat.zero_add] at e hg
    subst e
    refine⟨D,?_,hg.dim,fun s t u u' hu hu' A=>hg.val s t u u' hu hu' ?_⟩
    ·simp only[jZ]
     rw[if_neg (by simp[h1.klen])]
    have:=vI hu'
    omega)
  refine⟨(((a+1:Nat):Int),D'),?_,O,hg'⟩
  simp only[jY]
  rw[if_pos (by simp[h0.klen];omega),hD']
  simp only[uL]
  rw[fF (by omega)]
  rfl
 rintro⟨x,D⟩ ⟨e,hg⟩
 simp only at e hg
 rw[Nat.zero_add] at e hg
 subst e
 refine⟨D,?_,hg⟩
 simp only[jY]
 rw[if_neg (by simp[h0.klen])]
theorem rwrite_m {c0 c1:RFlat} {D:List (List Int)} {N N':Nat} (hN:N≤100000) (hN':N'≤100000) (hD:Dim D N N') (k0:c0.kinds.length=N) (k1:c1.kinds.length=N') (hn:Nums c0.numbers N) (hn':Nums c1.numbers N') {out:List (List Int)} (F:Dim out N N'):
  ∃out',dY (fun s=>kC c0 c1 D s.1 s.2) (0,out)=some out'∧Wrote D c0.numbers c1.numbers N N' N 0 out':=by
 refine mJ (fun i s=>s.1=(i:Int)∧Wrote D c0.numbers c1.numbers N N' i 0 s.2) _ N 0 _ ⟨O,F,fun s t x y d _ _ _ h=>by omega⟩ ?_ ?_
 ·rintro i ⟨z,out⟩ _ hi ⟨e,A⟩
  simp only at e A
  subst e
  obtain⟨row,hrow⟩:=dE (l:=D) (k:=i) (by rw[hD.rows];omega)
  have hrl:=hD.cols row (vL hrow)
  obtain⟨x,C⟩:=dE (l:=c0.numbers) (k:=i) (by rw[hn.len];omega)
  have rx:=hn.rng x (vL C)
  obtain⟨o2,h2,hw2⟩:=mJ (body:=fun s=>kD c0 c1 D (i:Int) s.1 s.2) (fun k s=>s.1=(k:Int)∧Wrote D c0.numbers c1.numbers N N' i k s.2) (fun o=>Wrote D c0.numbers c1.numbers N N' (i+1) 0 o) N' 0 (0,out) ⟨O,A⟩
   (by
    rintro k ⟨z,out⟩ _ hk ⟨e,A⟩
    simp only at e A
    subst e
    obtain⟨d,hd⟩:=dE (l:=row) (k:=k) (by rw[hrl];omega)
    obtain⟨y,hy⟩:=dE (l:=c1.numbers) (k:=k) (by rw[hn'.len];omega)
    have ry:=hn'.rng y (vL hy)
    obtain⟨r,v,a1,a2,_,_⟩:=A.dim.get (s:=x.toNat) (t:=y.toNat) (by omega) (by omega)
    refine⟨(((k+1:Nat):Int),out.set x.toNat (r.set y.toNat d)),?_,O,A.step hn hn' C hy (by unfold at2;rw[hrow];exact hd) a1 a2⟩
    simp only[kD]
    rw[if_pos (by simp[k1];omega),bC C]
    simp only[uL]
    rw[V4 rx.1 a1]
    simp only[uL]
    rw[bC hy]
    simp only[uL]
    rw[bC hrow]
    simp only[uL]
    rw[bC hd]
    simp only[uL]
    rw[V4 ry.1 a2]
    simp only[uL]
    rw[fF (by omega)]
    rfl)
   (by
    rintro⟨z,out⟩ ⟨e,A⟩
    simp only at e A
    rw[Nat.zero_add] at e A
    subst e
    refine⟨out,?_,A.dim,fun s t x y d C hy hd E=>A.val s t x y d C hy hd ?_⟩
    ·simp only[kD]
     rw[if_neg (by simp[k1])]
    have:=(uR.1 hy).1
    rw[hn'.len] at this
    omega)
  refine⟨(((i+1:Nat):Int),o2),?_,O,hw2⟩
  simp only[kC]
  rw[if_pos (by simp[k0];omega),h2]
  simp only[uL]
  rw[fF (by omega)]
  rfl
 rintro⟨z,out⟩ ⟨e,A⟩
 simp only at e A
 rw[Nat.zero_add] at e A
 subst e
 refine⟨out,?_,A⟩
 simp only[kC]
 rw[if_neg (by simp[k0])]
theorem rSubtrees_m (a b:Node) (ha:bK a≤100000) (hb:bK b≤100000):∃out,nV a b=some out∧SubOf a b out:=by
 unfold nV
 rw[rflat_m a ha]
 simp only[uL]
 rw[rflat_m b hb]
 simp only[uL]
 have h0:=rArr a
 have h1:=rArr b
 have sa:=sO a
 have sb:=sO b
 have na:Nums (rOf a).numbers (bK a):=nums_of a
 have nb:Nums (rOf b).numbers (bK b):=nums_of b
 have ea:(rOf a).numbers=kM a 0:=rfl
 have eb:(rOf b).numbers=kM b 0:=rfl
 have la:=h0.klen
 have lb:=h1.klen
 rw[la,lb,sa,sb]
 obtain⟨D,hD,hdim,_⟩:=rtable_m (bK a) (bK b) (by omega) (by omega)
 rw[hD]
 simp only[uL]
 obtain⟨D',hD',hg⟩:=rpairs_m h0 h1 (by omega) (by omega) (D:=D) (by rw[sa,sb];exact hdim)
 rw[hD']
 simp only[uL]
 have hdim':=hg.dim
 rw[sa,sb] at hdim'
 obtain⟨out,E,A⟩:=rwrite_m ha hb hdim' (by rw[la,sa]) (by rw[lb,sb]) na nb hdim
 rw[E]
 refine⟨out,O,A.dim,fun s t u u' x y hu hu' C hy=>?_⟩
 have:=vI hu
 exact A.val s t x y _ (by rw[ea];exact C) (by rw[eb];exact hy) (hg.val s t u u' hu hu' (Or.inl this)) (Or.inl (by omega))
theorem SubOf.ext {a b:Node} {o o':List (List Int)} (h:SubOf a b o) (h':SubOf a b o') {p q:Nat} (hp:p<bK a) (hq:q<bK b):at2 o p q=at2 o' p q:=by
 have m1:=(aG4 a 0 (p:Int)).2 (by omega)
 have m2:=(aG4 b 0 (q:Int)).2 (by omega)
 obtain⟨s,hs⟩:=List.getElem?_of_mem m1
 obtain⟨t,ht⟩:=List.getElem?_of_mem m2
 have ls:=(uR.1 hs).1
 have lt:=(uR.1 ht).1
 rw[xI] at ls lt
 obtain⟨u,hu,_⟩:=at_lt (T:=toT a) (s:=s) (by rw[sO];exact ls)
 obtain⟨u',hu',_⟩:=at_lt (T:=toT b) (s:=t) (by rw[sO];exact lt)
 have e1:=h.val s t u u' _ _ hu hu' hs ht
 have e2:=h'.val s t u u' _ _ hu hu' hs ht
 simp only[xL] at e1 e2
 rw[e1,e2]
theorem scr_a {nx ny:Nat} {l:List Opn} (h:Scr nx ny l) {j:Nat} {q:Opn} (hq:l[j]?=some q):(j<nx→q.a=j)∧(nx≤j→q.a= -1∧0≤q.b):=by
 have hk:=(uR.1 hq).1
 have t:(l.take j).length=j:=by rw[vQ];omega
 have h1:=(h j q hq).fst
 have h2:=(h j q hq).snd
 rw[t] at h1 h2
 exact⟨h1,fun e=>⟨(h2 e).1,(h2 e).2.1⟩⟩
set_option maxRecDepth 100000 in
set_option maxHeartbeats 4000000 in
theorem awake_ok:uB=some true:=by kernel_rfl
theorem rDistance_m (a b:Node) (ha:bK a≤100000) (hb:bK b≤100000):nU a b=some ((td a b:Nat):Int):=by
 obtain⟨out,h1,h2⟩:=rSubtrees_m a b ha hb
 obtain⟨r,h3,h4⟩:=h2.top
 unfold nU
 rw[h1,bsn,h3,bsn,h4];rfl
theorem rise_gap {l:List Int} (h:l.Pairwise (· < ·)):∀(d i:Nat) (x y:Int),l[i]?=some x→l[i+d]?=some y→x+d≤y
 |0,i,x,y,A,hy=>by rw[Nat.add_zero,A] at hy;rw[←wD hy];omega
 |d+1,i,x,y,A,hy=>by
  have D:=(uR.1 hy).1
  obtain⟨w,C⟩:=dE (l:=l) (k:=i+d) (by omega)
  have h1:=rise_gap h d i x w A C
  have h2:=xS.1 h (i+d) (i+(d+1)) (uR.1 C).1 D (by omega)
  rw[(uR.1 C).2,(uR.1 hy).2] at h2
  omega
theorem self_script {a:Node} {l:List Opn} (C:Va a a l) (h0:cstO a a l=0):l.length=bK a∧∀(i:Nat) o,l[i]?=some o→o.a=i∧o.b=i:=by
 unfold cstO at h0
 rw[List.countP_eq_zero] at h0
 have hn:∀o∈l,0≤o.a∧0≤o.b:=fun o A=>by
  have:=h0 o A
  unfold ctO at this
  simp only[Bool.or_eq_true,decide_eq_true_eq,not_or] at this
  omega
 have hlen:l.length=bK a:=by
  have h1:=C.len
  apply Nat.le_antisymm _ h1
  apply Nat.le_of_not_lt
  intro h2
  obtain⟨o,A⟩:=dE h2
  have:=(scr_a C.scr A).2 (zP _)
  have:=hn o (vL A)
  omega
 have hpw:(l.map (·.b)).Pairwise (· < ·):=by
  rw[List.pairwise_map]
  refine(List.Pairwise.and_mem.1 C.prs).imp fun{p q} k=>?_
  have h1:=hn p k.1
  have h2:=hn q k.2.1
  exact(k.2.2 h1.1 h1.2 h2.1 h2.2).1
 refine⟨hlen,fun i o A=>?_⟩
 have hi:=(uR.1 A).1
 refine⟨(scr_a C.scr A).1 (by omega),?_⟩
 obtain⟨f,hf⟩:=dE (l:=l) (k:=0) (by omega)
 obtain⟨e,he⟩:=dE (l:=l) (k:=bK a-1) (by omega)
 have b0:=(hn f (vL hf)).2
 have b1:=(scr_rng C.scr e (vL he)).2
 have g1:=rise_gap hpw i 0 f.b o.b (by rw[xF,hf];rfl) (by rw[Nat.zero_add,xF,A];rfl)
 have g2:=rise_gap hpw (bK a-1-i) i o.b e.b (by rw[xF,A];rfl) (by rw[show i+(bK a-1-i)=bK a-1 by omega,xF,he];rfl)
 omega
open Classical in
theorem law_AlignLeast (A:Node) (C:Node) (h0:NodeWf A) (h1:NodeWf C):pJ A C=some true:=by
 unfold pJ
 rw[awake_ok,bsn,if_neg (by simp)]
 obtain⟨r,hr,hf⟩:=few_m A C 15 (by omega) (by omega)
 rw[hr,bsn]
 cases r with
 |false=>rfl
 |true=>
  obtain⟨c0,c1⟩:=hf O
  obtain⟨l,a1,a2,a3⟩:=Align_m A C (by omega) (by omega)
  obtain⟨m,b1,b2,b3⟩:=Align_m A A (by omega) (by omega)
  have hl:=scr_len a2.scr
  have D:=(a2.st).1.i64 (by omega) (by omega)
  have hz:cstO A A m=0:=by rw[b3];exact fd_self _
  obtain⟨d1,d2⟩:=self_script b2 hz
  rw[if_neg (by simp),a1,bsn,cost_m A C (by omega) (by omega) l (by omega) D,bsn,if_pos a2,b1,bsn,if_neg (by simp),rvalid_m A C (by omega) (by omega) l (by omega) D,bsn,decide_eq_true a2,bsn,if_neg (by simp),rDistance_m A C (by omega) (by omega),bsn,a3,bsn,if_neg (by simp),Count_m A (by omega),bsn,bsn,if_neg (by simp[d1])]
  refine zB (fun i=>(i:Int)) m.length (.brk ()) O (fun i hi=>?_) (by simp only[lW];rw[if_neg (by simp)]) O
  obtain⟨o,E⟩:=dE hi
  obtain⟨e1,e2⟩:=d2 i o E
  simp only[lW]
  rw[if_pos (by simp;omega),bC E,bsn,if_neg (by simp[e1,e2]),fF (by omega)];rfl
end Go.Proofs.YtopnldfjcciieaaGreat

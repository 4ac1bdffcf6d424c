/- The reference's Count, Few and Same. -/
import Derived.Test.YtopnldfjcciieaaGreatKUn24
import Derived.Test.YtopnldfjcciieaaGreatKUn6
import Derived.Test.YtopnldfjcciieaaGreatKUn3
import Derived.Test.YtopnldfjcciieaaGreatKUn4
set_option linter.unusedVariables false
set_option linter.unusedSimpArgs false
namespace Go.Proofs.YtopnldfjcciieaaGreat
open Go.RowKit
theorem few_r:∀(f:Nat) (n:Node),SizeOf.sizeOf n<f→∀(left:Int),left≤1000→ -1≤left→∃r,jD f n left=some r∧ -1≤r∧r≤1000∧(0≤r→(iH n:Int)+r=left):=by
 intro f
 induction f with
 |zero=>intro n h;omega
 |succ f ih=>
  intro n hsz left hl hl0
  have hcnt:=kM n
  unfold jD nK
  split
  ·exact⟨-1,rfl,by omega,by omega,fun h=>by omega⟩
  rename_i hc
  have hl1:1≤left:=by
   apply Classical.byContradiction
   intro hn
   apply hc
   rw[Bool.or_eq_true]
   exact Or.inl (decide_eq_true (by omega))
  rw[I7 (by omega)]
  simp only[Option.bind_some]
  obtain⟨r,hr,h1,h2,h3⟩:=aD1 (body:=fun s=>iR n (jD f) s.1 s.2) (fun s=>∃i:Nat,s.2=(i:Int)∧i≤n.kids.length∧ -1≤s.1∧s.1≤1000∧(0≤s.1→(gB (n.kids.take i):Int)+s.1=left-1)) (fun s=>n.kids.length-s.2.toNat)
   (fun r=> -1≤r∧r≤1000∧(0≤r→(iH n:Int)+r=left))
   (by
    rintro⟨l,z⟩ ⟨i,e,hi,h1,h2,h3⟩
    simp only at e h1 h2 h3
    subst e
    by_cases hlt:i<n.kids.length∧0≤l
    ·left
     obtain⟨x,hx⟩:=pG hlt.1
     obtain⟨r,hr,g1,g2,g3⟩:=ih x (by have:=node_sz hx;omega) l h2 h1
     have e1:=qY hx
     have e2:=qH (n.kids.take i)
     rw[List.length_take] at e2
     have e3:=h3 hlt.2
     refine⟨(r,((i+1:Nat):Int)),?_,⟨i+1,rfl,by omega,g1,g2,fun h=>?_⟩,by simp;omega⟩
     ·simp only[iR]
      rw[if_pos (by simp;omega),vW hx]
      simp only[Option.bind_some]
      rw[hr]
      simp only[Option.bind_some]
      rw[xJ (by omega)]
      rfl
     have:=g3 h
     simp only
     rw[e1];omega
    right
    refine⟨l,?_,h1,h2,fun h=>?_⟩
    ·simp only[iR]
     rw[if_neg (by
      rw[Bool.and_eq_true,decide_eq_true_eq,decide_eq_true_eq]
      omega)]
    have h4:=h3 h
    rw[List.take_of_length_le (by omega)] at h4
    omega) (left-1,0) ⟨0,rfl,Nat.zero_le _,by simp only;omega,by simp only;omega,fun _=>by simp[gB]⟩
  rw[hr]
  exact⟨r,rfl,h1,h2,h3⟩
theorem Few_m (n:Node) (k:Int) (h:k≤1000) (h0:0≤k):∃b,oU n k=some b∧(b=true→(iH n:Int)≤k):=by
 obtain⟨r,hr,h1,h2,h3⟩:=few_r (SizeOf.sizeOf n+1) n (by omega) k h (by omega)
 unfold oU vO
 rw[hr]
 refine⟨_,rfl,fun e=>?_⟩
 have:=h3 (by simpa using e)
 have:=of_decide_eq_true e
 omega
theorem Count_r:∀(f:Nat) (n:Node),SizeOf.sizeOf n<f→iH n≤100000→jG f n=some (iH n:Int):=by
 intro f
 induction f with
 |zero=>intro n h;omega
 |succ f ih=>
  intro n hsz hn
  have hcnt:=kM n
  have hlen:=qH n.kids
  unfold jG lT
  refine bind_loop (fun i=>(((1+gB (n.kids.take i):Nat):Int),(i:Int))) n.kids.length (((1+gB n.kids:Nat):Int)) (by simp[gB]) (fun i hi=>?_) ?_ ?_
  ·obtain⟨x,hx⟩:=pG hi
   have e1:=qY hx
   have e2:=yM n.kids (i+1)
   simp only[jW]
   rw[if_pos (by simp;omega),vW hx]
   simp only[Option.bind_some]
   rw[ih x (by have:=node_sz hx;omega) (by omega)]
   simp only[Option.bind_some]
   rw[I7 (by omega)]
   simp only[Option.bind_some]
   rw[xJ (by omega),e1]
   simp only[Option.bind_some,Option.some.injEq,Step.next.injEq,Prod.mk.injEq,and_true]
   omega
  ·simp only[jW]
   rw[if_neg (by simp),List.take_of_length_le (Nat.le_refl _)]
  rw[hcnt]
theorem Count_m (n:Node) (h:iH n≤100000):kT n=some (iH n:Int):=Count_r _ n (by omega) h
mutual
def stN:Node→Node
 |⟨a,b,_,_,kids⟩=>⟨a,b,0,0,stL kids⟩
def stL:List Node→List Node
 | []=>[]
 |n::r=>stN n::stL r
end
theorem stN_eq (n:Node):stN n=⟨n.kind,n.text,0,0,stL n.kids⟩:=by obtain⟨a,b,c,d,k⟩:=n;rw[stN]
theorem stL_map:∀l,stL l=l.map stN
 | []=>by rw[stL];rfl
 |n::l=>by rw[stL,stL_map l];rfl
theorem st_ext (a b:Node):stN a=stN b↔(a.kind=b.kind∧a.text=b.text)∧a.kids.map stN=b.kids.map stN:=by
 rw[stN_eq,stN_eq,stL_map,stL_map]
 simp[and_assoc]
theorem Same_r:∀(f:Nat) (a b:Node),SizeOf.sizeOf a<f→iH a≤100000→∃r,iO f a b=some r∧(r=true↔stN a=stN b):=by
 intro f
 induction f with
 |zero=>intro n b h;omega
 |succ f ih=>
  intro a b hsz ha
  have hcnt:=kM a
  have hlen:=qH a.kids
  unfold iO mY pW
  simp only[Option.bind_some]
  by_cases hc:(a.kind=b.kind∧a.text=b.text)∧a.kids.length=b.kids.length
  ·rw[if_neg (by simp[hc])]
   obtain⟨o,ho,hp⟩:=aD1 (body:=fun s=>gX a b (iO f) s) (fun s=>∃i:Nat,s=(i:Int)∧i≤a.kids.length∧∀(j:Nat) x y,j<i→a.kids[j]?=some x→b.kids[j]?=some y→stN x=stN y) (fun s=>a.kids.length-s.toNat)
    (fun o:Out Unit Bool=>(o= .brk ()∧∀(j:Nat) x y,a.kids[j]?=some x→b.kids[j]?=some y→stN x=stN y)∨(o= .ret false∧∃(j:Nat) (x y:Node),a.kids[j]?=some x∧b.kids[j]?=some y∧stN x≠stN y))
    (by
     rintro s ⟨i,rfl,hi,hj⟩
     by_cases hlt:i<a.kids.length
     ·obtain⟨x,hx⟩:=pG hlt
      obtain⟨y,hy⟩:=pG (l:=b.kids) (k:=i) (by omega)
      have e1:=qY hx
      have e2:=yM a.kids (i+1)
      obtain⟨r,hr,hiff⟩:=ih x y (by have:=node_sz hx;omega) (by omega)
      cases r with
      |true=>
       left
       refine⟨((i+1:Nat):Int),?_,⟨i+1,rfl,by omega,fun j x' y' hj' hx' hy'=>?_⟩,by simp;omega⟩
       ·simp only[gX]
        rw[if_pos (by simp;omega),vW hx]
        simp only[Option.bind_some]
        rw[vW hy]
        simp only[Option.bind_some]
        rw[hr]
        simp only[Option.bind_some]
        rw[if_neg (by simp),xJ (by omega)]
        rfl
       rcases Nat.lt_or_ge j i with h|h
       ·exact hj j x' y' h hx' hy'
       have:j=i:=by omega
       subst this
       rw[hx] at hx';rw[hy] at hy'
       rw[←Option.some.inj hx',←Option.some.inj hy'];exact hiff.1 rfl
      |false=>
       right
       refine⟨.ret false,?_,Or.inr ⟨rfl,i,x,y,hx,hy,fun e=>by have:=hiff.2 e;cases this⟩⟩
       simp only[gX]
       rw[if_pos (by simp;omega),vW hx]
       simp only[Option.bind_some]
       rw[vW hy]
       simp only[Option.bind_some]
       rw[hr]
       simp only[Option.bind_some]
       rw[if_pos (by simp)]
     right
     refine⟨.brk (),?_,Or.inl ⟨rfl,fun j x y hx hy=>hj j x y (by have:=(List.getElem?_eq_some_iff.1 hx).1;omega) hx hy⟩⟩
     simp only[gX]
     rw[if_neg (by simp;omega)]) 0 ⟨0,rfl,Nat.zero_le _,fun j x y h=>by omega⟩
   rw[ho]
   simp only[Option.bind_some]
   rcases hp with⟨rfl,hp⟩|⟨rfl,j,x,y,hx,hy,hne⟩
   ·refine⟨true,rfl,?_⟩
    simp only[true_iff]
    rw[st_ext]
    refine⟨hc.1,List.ext_getElem? fun j=>?_⟩
    rw[List.getElem?_map,List.getElem?_map]
    rcases Nat.lt_or_ge j a.kids.length with h|h
    ·obtain⟨x,hx⟩:=pG h
     obtain⟨y,hy⟩:=pG (l:=b.kids) (k:=j) (by omega)
     rw[hx,hy]
     simp[hp j x y hx hy]
    rw[List.getElem?_eq_none h,List.getElem?_eq_none (by omega)]
   refine⟨false,rfl,?_⟩
   constructor
   ·intro h;cases h
   intro e
   rw[st_ext] at e
   have:=congrArg (fun l=>l[j]?) e.2
   simp only[List.getElem?_map,hx,hy,Option.map_some,Option.some.injEq] at this
   exact absurd this hne
  refine⟨false,?_,?_⟩
  ·rw[if_pos]
   rw[Bool.or_eq_true,Bool.not_eq_true',Bool.not_eq_true',Bool.and_eq_false_iff,decide_eq_false_iff_not,decide_eq_false_iff_not,decide_eq_false_iff_not]
   have:= @Classical.not_and_iff_not_or_not
   by_cases h1:a.kind=b.kind
   ·by_cases h2:a.text=b.text
    ·right;intro e;exact hc ⟨⟨h1,h2⟩,by omega⟩
    left;right;exact h2
   left;left;exact h1
  constructor
  ·intro h;cases h
  intro e
  rw[st_ext] at e
  have h2:=congrArg List.length e.2
  rw[List.length_map,List.length_map] at h2
  exact absurd ⟨e.1,h2⟩ hc
open Classical in
theorem Same_m (a b:Node) (h:iH a≤100000):qK a b=some (decide (stN a=stN b)):=by
 obtain⟨r,hr,h2⟩:=Same_r (SizeOf.sizeOf a+1) a b (by omega) h
 unfold qK
 rw[hr]
 congr 1
 cases r with
 |true=>exact(decide_eq_true (h2.1 rfl)).symm
 |false=>exact(decide_eq_false fun e=>by have:=h2.2 e;cases this).symm
open Classical in
theorem SameList_m (a b:List Node) (h:gB a≤100000):gG a b=some (decide (stL a=stL b)):=by
 have hl:=qH a
 unfold gG
 rw[stL_map,stL_map]
 by_cases he:a.length=b.length
 ·rw[if_neg (by simp;omega)]
  have:=same_loop (body:=fun s=>iT a b s) (a:=a.map stN) (b:=b.map stN) (by simp[he]) (.ret false) (.brk ()) (fun k x y hx hy=>by
   obtain⟨x,hx',rfl⟩:=List.getElem?_map ..▸hx |> Option.map_eq_some_iff.1
   obtain⟨y,hy',rfl⟩:=List.getElem?_map ..▸hy |> Option.map_eq_some_iff.1
   have hk:=(List.getElem?_eq_some_iff.1 hx').1
   have e1:=qY hx'
   have e2:=yM a (k+1)
   simp only[iT]
   rw[if_pos (by simp;omega),vW hx']
   simp only[Option.bind_some]
   rw[vW hy']
   simp only[Option.bind_some]
   rw[Same_m x y (by omega)]
   simp only[Option.bind_some]
   rw[xJ (by omega)]
   by_cases hxy:stN x=stN y<;>simp[hxy]) (by
   simp only[iT]
   rw[if_neg (by simp)])
  rw[this]
  by_cases hab:a.map stN=b.map stN<;>simp[hab]
 rw[if_pos (by simp;omega),decide_eq_false fun e=>he (by simpa using congrArg List.length e)]
open Classical in
theorem Q8 (a:List Node) (h:gB a≤100000):gG a a=some true:=by rw[SameList_m a a h];simp
set_option maxRecDepth 100000 in
set_option maxHeartbeats 4000000 in
theorem awake_ok:pV=some true:=by kernel_rfl
theorem nd_rp (f:Node→List Node):∀ts k x y j,ndL ts k=some x→f x=[y]→j<iH y→ndL (rpL f ts k) (k+j)=ndL [y] j:=by
 refine aC1 (fun k x y j h=>?_) (fun n r x y j h hf hj=>?_) (fun n r k hk ih x y j h hf hj=>?_) (fun n r k ih x y j h hf hj=>?_)
 ·rw[aD3] at h;cases h
 ·rw[nd_0] at h;cases h
  rw[rp_0,hf,Nat.zero_add,nd_app,if_pos (by rw[fF];omega)]
 ·rw[nd_in hk] at h
  have h1:=rp_cnt f _ _ _ h
  have h2:=nd_le _ _ _ h
  rw[hf,fF,xH] at h1
  rw[rp_in hk,show k+1+j=(k+j)+1 by omega,nd_in (by show k+j<gB (rpL f n.kids k);omega)]
  exact ih x y j h hf hj
 rw[nd_on] at h
 rw[rp_on,Nat.add_assoc,nd_on,ih x y j h hf hj]
theorem node_r:∀(f:Nat) (ts:List Node) (k:Nat) (x:Node),SizeOf.sizeOf ts<f→gB ts≤100000→ndL ts k=some x→iM f ts (k:Int)=some x:=by
 intro f
 induction f with
 |zero=>intro ts k x h;omega
 |succ f ih=>
  intro ts k x hsz hl hx
  have hlen:=qH ts
  have hkl:=nd_le _ _ _ hx
  unfold iM mX
  obtain⟨b,h1,rfl⟩:=aD1 (body:=fun s=>kQ ts (iM f) s.1 s.2) (fun s=>∃i j:Nat,s=((j:Int),(i:Int))∧i≤ts.length∧j≤k∧ndL (ts.drop i) j=some x) (fun s=>ts.length-s.2.toNat)
   (fun b=>b= .ret x)
   (by
    rintro _ ⟨i,j,rfl,hi,hj,hd⟩
    by_cases hlt:i<ts.length
    ·obtain⟨n,hn⟩:=pG hlt
     have e1:=qY hn
     have e2:=yM ts (i+1)
     have e3:=zZ n
     rw[drop_cons_of hn,X4] at hd
     simp only[kQ]
     rw[if_pos (by simp;omega),vW hn,bsm,Count_m n (by omega),bsm]
     by_cases h0:j=0
     ·rw[if_pos h0] at hd;cases hd
      rw[if_pos (by simp;omega)]
      exact Or.inr ⟨_,rfl,rfl⟩
     rw[if_neg h0] at hd
     rw[if_neg (by simp;omega)]
     by_cases h2:j<iH n
     ·rw[if_pos h2] at hd
      rw[if_pos (by simp;omega),I7 (by omega),bsm,show(j:Int)-1=((j-1:Nat):Int) by omega,ih n.kids (j-1) x (by
       have h1:=List.sizeOf_lt_of_mem (List.mem_of_getElem? hn)
       have h2:SizeOf.sizeOf n.kids<SizeOf.sizeOf n:=by obtain⟨a,b,c,d,kids⟩:=n;simp;omega
       omega) (by have:=kM n;omega) hd,bsm]
      exact Or.inr ⟨_,rfl,rfl⟩
     rw[if_neg h2] at hd
     rw[if_neg (by simp;omega),I7 (by omega),bsm,xJ (by omega),bsm]
     exact Or.inl ⟨_,rfl,⟨i+1,j-iH n,by congr 1;omega,by omega,by omega,hd⟩,by simp;omega⟩
    rw[List.drop_eq_nil_of_le (by omega),aD3] at hd;cases hd) ((k:Int),0) ⟨0,k,rfl,Nat.zero_le _,Nat.le_refl _,hx⟩
  rw[h1];rfl
theorem sumc (l:List Node) (h:gB l≤100000) {body:Int×Int→Option (Step (Int×Int) Int)} (z:Nat) (hz:z≤100000) (m:Nat) (hm:m≤l.length) (hb:∀(i:Nat) (n:Node) (a:Nat),i<m→l[i]?=some n→a≤200000→body ((a:Int),(i:Int))=some (.next (((a+iH n:Nat):Int),((i+1:Nat):Int)))) (he:∀a:Nat,body ((a:Int),(m:Int))=some (.done (a:Int))):eH body ((z:Int),0)=some ((z+gB (l.take m):Nat):Int):=by
 refine aD2 (fun i=>(((z+gB (l.take i):Nat):Int),(i:Int))) m (by simp[gB]) (fun i hi=>?_) (he _)
 obtain⟨n,hn⟩:=pG (show i<l.length by omega)
 have e1:=qY hn
 have e2:=yM l (i+1)
 rw[hb i n _ hi hn (by omega),e1,Nat.add_assoc]
theorem few_listU (l:List Node) (hl:l.length≤4):(∃b,eH (fun s=>fV l s.1 s.2) (0,0)=some b∧(b= .ret true∨(b= .brk (gB l:Int)∧gB l≤48))):=by
 refine aD1 (body:=fun s=>fV l s.1 s.2) (fun s=>∃i:Nat,s=((gB (l.take i):Int),(i:Int))∧i≤l.length∧gB (l.take i)≤12*i) (fun s=>l.length-s.2.toNat) _
  (by
   rintro s ⟨i,rfl,hi,h⟩
   by_cases hlt:i<l.length
   ·obtain⟨x,hx⟩:=pG hlt
    obtain⟨r,hr,hp⟩:=Few_m x 12 (by omega) (by omega)
    have e:=qY hx
    simp only[fV]
    rw[if_pos (by simp;omega),vW hx,bsm,hr,bsm]
    cases r with
    |false=>exact Or.inr ⟨_,rfl,Or.inl rfl⟩
    |true=>
     have:=hp rfl
     rw[if_neg (by simp),Count_m x (by omega),bsm,I7 (by omega),bsm,xJ (by omega)]
     exact Or.inl ⟨_,rfl,⟨i+1,by rw[e];rfl,by omega,by omega⟩,by simp;omega⟩
   rw[List.take_of_length_le (by omega)] at h
   simp only[fV]
   rw[if_neg (by simp;omega)]
   exact Or.inr ⟨_,rfl,Or.inr ⟨by rw[List.take_of_length_le (by omega)],by omega⟩⟩) (0,0) ⟨0,by simp[gB],Nat.zero_le _,by simp[gB]⟩
theorem apply1 (ts:List Node) (c:Chg) (h:gB ts≤100000) (hc:I64 c.node):A8 ts [c]=some (if(V4 ts c).1=0 then((V4 ts c).2,0) else([],(V4 ts c).1)):=by
 unfold A8
 rw[if_pos ⟨by omega,by simp⟩,chgs,change1_m ts c (by omega) (by simp[Lit.wf,IntKind.min,IntKind.max,IntKind.signed,IntKind.bits];unfold I64 at hc;omega),bsm]
 split<;>rfl
theorem del_m (ts:List Node) (k:Nat) (x:Node) (h:gB ts≤100000) (hx:ndL ts k=some x):A8 ts [Chg.mk 1 k 0 0 0 ByteArray.empty]=some (rpL (·.kids) ts k,0):=by
 have hk:=nd_le _ _ _ hx
 have e:V4 ts (Chg.mk 1 k 0 0 0 ByteArray.empty)=(0,rpL (·.kids) ts k):=by
  unfold V4
  rw[if_pos (by simp[fieldsB]),if_neg (by simp only;omega),if_neg (by simp only;omega),show((Chg.mk 1 k 0 0 0 ByteArray.empty).node).toNat=k from rfl,hx]
  rfl
 rw[apply1 ts _ h (by unfold I64;simp only;omega),e,if_pos rfl]
theorem law_AlignUndoes (p0:(List Node)) (p1:Chg) (h0:LW NodeWf p0) (h1:(fun a:Chg=>I64 a.op∧I64 a.node∧I64 a.index∧I64 a.count∧I64 a.kind∧a.text.size≤maxLen) p1):lM p0 p1=some true:=by
 unfold lM
 rw[awake_ok,bsm,if_neg (by simp)]
 by_cases hb:4<p0.length∨40<p1.text.size
 ·rw[if_pos (by simp;omega)]
 rw[if_neg (by simp;omega)]
 obtain⟨b,hb1,hb2⟩:=few_listU p0 (by omega)
 rw[hb1,bsm]
 rcases hb2 with rfl|⟨rfl,hc⟩
 ·rfl
 simp only
 have hn:I64 p1.node:=h1.2.1
 have hn':=hn
 unfold I64 at hn'
 rw[apply1 p0 p1 (by omega) hn,bsm]
 by_cases he:(V4 p0 p1).1=0
 ·have hcnt:=chg1_cnt p0 p1
  rw[if_pos he,if_neg (by simp)]
  simp only
  rw[show((0:Int),(0:Int))=(((0:Nat):Int),(0:Int)) from rfl,sumc (V4 p0 p1).2 (by omega) 0 (by omega) (V4 p0 p1).2.length (Nat.le_refl _) (fun i n a hi hn ha=>by
   have e1:=qY hn
   have e2:=yM (V4 p0 p1).2 (i+1)
   have e3:=qH (V4 p0 p1).2
   simp only[jI]
   rw[if_pos (by simp;omega),vW hn,bsm,Count_m n (by omega),bsm,I7 (by omega),bsm,xJ (by omega)];rfl) (fun a=>by
   simp only[jI]
   rw[if_neg (by simp)]),bsm,List.take_of_length_le (Nat.le_refl _),Nat.zero_add]
  have hchg:fieldsB p1=true∧(p1.node= -1∧p1.op=2∧yU p0 p1=some (V4 p0 p1).2∨∃(k:Nat) (x:Node),p1.node=(k:Int)∧ndL p0 k=some x∧okN p1 x=true∧(V4 p0 p1).2=rpL (chF p1) p0 k):=by
   revert he
   unfold V4
   split
   ·rename_i hf
    split
    ·intro h;cases h
    rename_i hm
    split
    ·rename_i hm1
     split
     ·intro h;cases h
     rename_i ks hks
     intro _
     refine⟨hf,Or.inl ⟨hm1,Classical.byContradiction fun e=>hm (Or.inr ⟨hm1,e⟩),hks⟩⟩
    split
    ·intro h;cases h
    rename_i x hx
    split
    ·rename_i hok
     intro _
     exact⟨hf,Or.inr ⟨p1.node.toNat,x,by omega,hx,hok,rfl⟩⟩
    intro h;cases h
   intro h;cases h
  obtain⟨hf,hchg⟩:=hchg
  generalize (V4 p0 p1).2=ts at hcnt hchg⊢
  have hsum:∀(l:List Node) (z:Nat),gB l≤1000→z≤1000→0≤p1.index→p1.index≤l.length→eH (fun s=>iF p1 l s.1 s.2) ((z:Int),0)=some ((z+gB (l.take p1.index.toNat):Nat):Int):=fun l z hl hz hi1 hi2=>by
   have e3:=qH l
   refine sumc l (by omega) z (by omega) p1.index.toNat (by omega) (fun i n a hi hn ha=>?_) (fun a=>?_)
   ·have e1:=qY hn
    have e2:=yM l (i+1)
    simp only[iF]
    rw[if_pos (by simp;omega),vW hn,bsm,Count_m n (by omega),bsm,I7 (by omega),bsm,xJ (by omega)];rfl
   simp only[iF]
   rw[if_neg (by simp;omega)]
  have hins:∀{l ks:List Node},yU l p1=some ks→0≤p1.index∧p1.index≤l.length∧∃new:Node,ks=l.take p1.index.toNat++new::l.drop (p1.index.toNat+p1.count.toNat)∧l=l.take p1.index.toNat++(new.kids++l.drop (p1.index.toNat+p1.count.toNat)):=fun{l ks} h=>by
   unfold yU at h
   split at h
   ·cases h
   cases h
   rename_i hh
   refine⟨by omega,by omega,_,rfl,?_⟩
   simp only
   rw[←List.drop_drop,List.take_append_drop,List.take_append_drop]
  have hback:∀{l ks:List Node},yU l p1=some ks→∃new,ndL ks (gB (l.take p1.index.toNat))=some new∧rpL (·.kids) ks (gB (l.take p1.index.toNat))=l:=fun{l ks} h=>by
   obtain⟨a1,a2,new,a3,a4⟩:=hins h
   refine⟨new,?_,?_⟩
   ·rw[a3,nd_app,if_neg (by omega),Nat.sub_self,nd_0]
   rw[a3,rp_app,if_neg (by omega),Nat.sub_self,rp_0];exact a4.symm
  rcases hchg with⟨g1,g2,g3⟩|⟨k,x,g1,g2,g3,g4⟩
  ·obtain⟨i1,i2,_⟩:=hins g3
   obtain⟨new,n1,n2⟩:=hback g3
   have hcc:=aG0 g3
   rw[if_pos (by simp[g2]),I7 (by omega),bsm,if_neg (by simp;omega),bsm,g1]
   rw[show((-1:Int)+1,(0:Int))=(((0:Nat):Int),(0:Int)) from rfl,hsum p0 0 (by omega) (by omega) i1 i2,bsm,Nat.zero_add,del_m ts _ new (by omega) n1,bsm,I7 (by omega),bsm,if_pos (by simp;omega),n2,Q8 _ (by simp only;omega)];rfl
  have hk:=nd_le _ _ _ g2
  have hrc:=rp_cnt (chF p1) _ _ _ g2
  have hxn:=kM x
  rw[←g4] at hrc
  by_cases o2:p1.op=2
  ·obtain⟨ks,hks⟩:∃ks,yU x.kids p1=some ks:=by
    unfold okN at g3
    simp only[o2] at g3
    exact Option.isSome_iff_exists.1 (by simpa using g3)
   obtain⟨i1,i2,_⟩:=hins hks
   obtain⟨new,n1,n2⟩:=hback hks
   have hcc:=aG0 hks
   have hF:chF p1 x=[x.re ks]:=by unfold chF;rw[if_neg (by omega),if_neg (by omega),hks];rfl
   rw[hF,fF,xH,cntN_re] at hrc
   have htk:=yM x.kids p1.index.toNat
   have hkid:nS p0 (k:Int)=some x.kids:=by
    unfold nS lI
    rw[node_r _ p0 k x (by omega) (by omega) g2];rfl
   have hj:1+gB (x.kids.take p1.index.toNat)<iH (x.re ks):=by rw[cntN_re];omega
   rw[if_pos (by simp[o2]),g1,xJ (by omega),bsm,if_pos (by simp),hkid,bsm,bsm,hsum x.kids (k+1) (by omega) (by omega) i1 i2,bsm,
    show k+1+gB (x.kids.take p1.index.toNat)=k+(1+gB (x.kids.take p1.index.toNat)) by omega,
    del_m ts _ new (by omega) (by rw[g4,nd_rp (chF p1) _ _ _ _ _ g2 hF hj,Nat.add_comm 1,nd_in (by show _<gB ks;omega)];exact n1),bsm,I7 (by omega),bsm,if_pos (by simp;omega)]
   simp only
   rw[g4,rp_rp (chF p1) (·.kids) _ _ _ _ _ g2 hF hj,rp_congr _ (fun x=>[x]) _ _ (fun z hz=>by
    rw[g2] at hz;cases hz
    rw[Nat.add_comm 1,rp_in (by show _<gB ks;omega)]
    show [(x.re ks).re (rpL _ ks _)]=_
    rw[n2];exact congrArg (fun y=>[y]) (re_kids x)),rp_id,Q8 _ (by omega)];rfl
  rw[if_neg (by simpa using o2)]
  by_cases o1:p1.op=1
  ·have hF:chF p1 x=x.kids:=by unfold chF;rw[if_neg (by omega),if_pos o1]
   rw[hF] at hrc
   rw[if_pos (by simpa using o1),I7 (by omega),bsm]
   congr 1
   exact decide_eq_true (by omega)
  have o0:p1.op=0:=by
   apply Classical.byContradiction
   intro o0
   unfold fieldsB at hf
   rw[if_neg o0,if_neg o1] at hf
   exact o2 (of_decide_eq_true hf)
  have hF:chF p1 x=[⟨p1.kind,p1.text,x.at_,x.fin,x.kids⟩]:=by unfold chF;rw[if_pos o0]
  have hcy:iH ⟨p1.kind,p1.text,x.at_,x.fin,x.kids⟩=1+gB x.kids:=kM _
  rw[hF,fF,xH,hcy] at hrc
  have hnd:lI p0 p1.node=some x:=by
   unfold lI
   rw[g1];exact node_r _ p0 k x (by omega) (by omega) g2
  have hn2:=nd_rp (chF p1) _ _ _ _ 0 g2 hF (by omega)
  rw[←g4,nd_0,Nat.add_zero] at hn2
  have e:V4 ts (Chg.mk 0 p1.node 0 0 x.kind x.text)=(0,p0):=by
   unfold V4
   rw[if_pos (by simp[fieldsB]),if_neg (by simp only;omega),if_neg (by simp only;omega)]
   simp only
   rw[g1,Int.toNat_natCast,hn2]
   simp only
   rw[if_pos (by simp[okN]),g4]
   have:=rp_rp (chF p1) (chF (Chg.mk 0 (k:Int) 0 0 x.kind x.text)) _ _ _ _ 0 g2 hF (by omega)
   rw[Nat.add_zero] at this
   rw[this,rp_congr _ (fun x=>[x]) _ _ (fun z hz=>by
    rw[g2] at hz;cases hz
    rw[rp_0];unfold chF;rw[if_pos rfl]
    show [x.re x.kids]++[]=[x]
    rw[re_kids];rfl),rp_id]
  rw[if_neg (by simpa using o1),hnd,bsm,apply1 ts (Chg.mk 0 p1.node 0 0 x.kind x.text) (by omega) hn,bsm,e,if_pos rfl,if_pos (by simp;omega),Q8 _ (by simp only;omega)];rfl
 rw[if_neg he,if_pos (by simpa using he)];rfl
end Go.Proofs.YtopnldfjcciieaaGreat

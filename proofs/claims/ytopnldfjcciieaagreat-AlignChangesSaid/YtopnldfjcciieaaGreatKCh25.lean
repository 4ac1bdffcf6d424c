/- What stands when some nodes of a tree are left out and others have another label. -/
import Derived.Test.YtopnldfjcciieaaGreatKCh24
import Derived.Test.YtopnldfjcciieaaGreatKCh4
import Derived.Test.YtopnldfjcciieaaGreatKCh3
set_option linter.unusedVariables false
set_option linter.unusedSimpArgs false
namespace Go.Proofs.YtopnldfjcciieaaGreat
open Go.RowKit
mutual
def wN (S:Nat→Bool) (g:Nat→Int×ByteArray):Node→Nat→List Node
 |⟨_,_,_,_,kids⟩,z=>if S z=true then [⟨(g z).1,(g z).2,0,0,wL S g kids (z+1)⟩] else wL S g kids (z+1)
def wL (S:Nat→Bool) (g:Nat→Int×ByteArray):List Node→Nat→List Node
 | [],_=>[]
 |n::r,z=>wN S g n z++wL S g r (z+aU n)
end
section
variable {S S':Nat→Bool} {g g':Nat→Int×ByteArray}
theorem N7 (n:Node) (z:Nat):wN S g n z=if S z=true then [⟨(g z).1,(g z).2,0,0,wL S g n.kids (z+1)⟩] else wL S g n.kids (z+1):=by obtain⟨a,b,c,d,k⟩:=n;rw[wN]
theorem aE7 (z:Nat):wL S g [] z=[]:=by rw[wL]
theorem wH (n:Node) (r:List Node) (z:Nat):wL S g (n::r) z=wN S g n z++wL S g r (z+aU n):=by rw[wL]
theorem aE8 (n:Node) (z:Nat):wL S g [n] z=wN S g n z:=by rw[wH,aE7,List.append_nil]
theorem wL_app:∀(A B:List Node) (z:Nat),wL S g (A++B) z=wL S g A z++wL S g B (z+dQ A)
 | [],B,z=>by rw[aE7,dQ];rfl
 |n::A,B,z=>by rw[List.cons_append,wH,wH,wL_app A B,dW,List.append_assoc,Nat.add_assoc]
theorem yJ:(∀(n:Node) (z:Nat),(∀s,z≤s→s<z+aU n→S' s=S s∧g' s=g s)→wN S' g' n z=wN S g n z)∧∀(l:List Node) (z:Nat),(∀s,z≤s→s<z+dQ l→S' s=S s∧g' s=g s)→wL S' g' l z=wL S g l z:=by
 refine qN (fun n h z hs=>?_) (fun z _=>by rw[aE7,aE7]) (fun n r h1 h2 z hs=>?_)
 ·have hc:=fO n
  have:=hs z (Nat.le_refl _) (by omega)
  rw[N7,N7,this.1,this.2,h (z+1) fun s a b=>hs s (by omega) (by omega)]
 rw[dW] at hs
 rw[wH,wH,h1 z fun s a b=>hs s a (by omega),h2 _ fun s a b=>hs s (by omega) (by omega)]
def cS (S:Nat→Bool) (z:Nat):Nat→Nat
 |0=>0
 |n+1=>cS S z n+if S (z+n)=true then 1 else 0
theorem cS_add (z n:Nat):∀m,cS S z (n+m)=cS S z n+cS S (z+n) m
 |0=>rfl
 |m+1=>by rw[←Nat.add_assoc,cS,cS,cS_add z n m,Nat.add_assoc,Nat.add_assoc]
theorem cS_one (z n:Nat):cS S z (1+n)=(if S z=true then 1 else 0)+cS S (z+1) n:=by
 rw[cS_add];congr 1;show 0+_=_;rw[Nat.zero_add,Nat.add_zero]
theorem cS_all (z:Nat):∀n,(∀s,z≤s→s<z+n→S s=true)→cS S z n=n
 |0,_=>rfl
 |n+1,h=>by rw[cS,cS_all z n fun s a b=>h s a (by omega),if_pos (h _ (by omega) (by omega))]
theorem w_cnt:(∀(n:Node) (z:Nat),dQ (wN S g n z)=cS S z (aU n))∧∀(l:List Node) (z:Nat),dQ (wL S g l z)=cS S z (dQ l):=by
 refine qN (fun n h z=>?_) (fun z=>by rw[aE7,dQ];rfl) (fun n r h1 h2 z=>?_)
 ·rw[N7,fO,cS_one]
  split
  ·rw[dW,yG,fO];simp only;rw[h,Nat.add_zero]
  rw[h,Nat.zero_add]
 rw[wH,zJ,dW,h1,h2,cS_add]
theorem w_rp:(∀(n:Node) (z:Nat) (q:Int) (j:Nat) (m:Node) (r:Int) (p:Nat),(prN n z q)[j]?=some (m,r,p)→S p=true→(∀s,s<p∨p+aU m≤s→S' s=S s∧g' s=g s)→
   ndL (wN S g n z) (cS S z (p-z))=some ⟨(g p).1,(g p).2,0,0,wL S g m.kids (p+1)⟩∧∀F:Node→List Node,F ⟨(g p).1,(g p).2,0,0,wL S g m.kids (p+1)⟩=wN S' g' m p→rpL F (wN S g n z) (cS S z (p-z))=wN S' g' n z)∧
  ∀(l:List Node) (z:Nat) (q:Int) (j:Nat) (m:Node) (r:Int) (p:Nat),(prL l z q)[j]?=some (m,r,p)→S p=true→(∀s,s<p∨p+aU m≤s→S' s=S s∧g' s=g s)→
   ndL (wL S g l z) (cS S z (p-z))=some ⟨(g p).1,(g p).2,0,0,wL S g m.kids (p+1)⟩∧∀F:Node→List Node,F ⟨(g p).1,(g p).2,0,0,wL S g m.kids (p+1)⟩=wN S' g' m p→rpL F (wL S g l z) (cS S z (p-z))=wL S' g' l z:=by
 refine qN (fun n h z q j m r p A B hag=>?_) (fun z q j m r p A=>by rw[zS] at A;simp at A) (fun n l h1 h2 z q j m r p A B hag=>?_)
 ·obtain⟨a1,a2,a3⟩:=aC3.1 n z q j m r p A
  have C:=fO n
  rw[rJ] at A
  cases j with
  |zero=>
   simp only[List.getElem?_cons_zero,Option.some.injEq,Prod.mk.injEq] at A
   obtain⟨rfl,_,rfl⟩:=A
   rw[Nat.sub_self,N7 (S:=S) (g:=g) n z,if_pos B]
   exact⟨nd_0 _ _,fun F hF=>by rw[show cS S z 0=0 from O,rp_0,hF,List.append_nil]⟩
  |succ j=>
   rw[List.getElem?_cons_succ] at A
   obtain⟨k1,k2⟩:=h (z+1) z j m r p A B hag
   have e:cS S z (p-z)=(if S z=true then 1 else 0)+cS S (z+1) (p-(z+1)):=by
    rw[←cS_one];congr 1;omega
   have hz:=hag z (Or.inl (by omega))
   rw[N7 (S:=S) (g:=g) n z,N7 (S:=S') (g:=g') n z,hz.1,hz.2,e]
   by_cases hsz:S z=true
   ·have hlt:=nd_le _ _ _ k1
    have hpos:=G6 ⟨(g p).1,(g p).2,0,0,wL S g m.kids (p+1)⟩
    rw[if_pos hsz,if_pos hsz,if_pos hsz,Nat.add_comm 1]
    refine⟨by rw[nd_in (by simp only;omega)];exact k1,fun F hF=>?_⟩
    rw[rp_in (by simp only;omega)]
    simp only
    rw[k2 F hF];rfl
   rw[if_neg hsz,if_neg hsz,if_neg hsz,Nat.zero_add]
   exact⟨k1,k2⟩
 have C:=dW n l
 have hl:=nD.1 n z q
 rw[pU] at A
 rw[wH,wH]
 rcases Nat.lt_or_ge j (prN n z q).length with hh|hh
 ·rw[List.getElem?_append_left hh] at A
  obtain⟨a1,a2,a3⟩:=aC3.1 n z q j m r p A
  obtain⟨k1,k2⟩:=h1 z q j m r p A B hag
  have hlt:=nd_le _ _ _ k1
  have hpos:=G6 ⟨(g p).1,(g p).2,0,0,wL S g m.kids (p+1)⟩
  rw[nd_app,if_pos (by omega)]
  refine⟨k1,fun F hF=>?_⟩
  rw[rp_app,if_pos (by omega),k2 F hF,yJ.2 l (z+aU n) fun s a b=>hag s (Or.inr (by omega))]
 rw[List.getElem?_append_right hh] at A
 obtain⟨a1,a2,a3⟩:=aC3.2 l _ q _ m r p A
 obtain⟨k1,k2⟩:=h2 _ q _ m r p A B hag
 have e:cS S z (p-z)=dQ (wN S g n z)+cS S (z+aU n) (p-(z+aU n)):=by
  rw[w_cnt.1,←cS_add];congr 1;omega
 rw[e,nd_app,if_neg (by omega),Nat.add_sub_cancel_left]
 refine⟨k1,fun F hF=>?_⟩
 rw[rp_app,if_neg (by omega),Nat.add_sub_cancel_left,k2 F hF,yJ.1 n z fun s a b=>hag s (Or.inl (by omega))]
mutual
def dpN:Node→Nat→List ((Int×ByteArray)×Nat)
 |⟨a,b,_,_,kids⟩,d=>((a,b),d)::dpL kids (d+1)
def dpL:List Node→Nat→List ((Int×ByteArray)×Nat)
 | [],_=>[]
 |n::r,d=>dpN n d++dpL r d
end
theorem dpN_eq (n:Node) (d:Nat):dpN n d=((n.kind,n.text),d)::dpL n.kids (d+1):=by obtain⟨a,b,c,e,k⟩:=n;rw[dpN]
theorem aD8 (d:Nat):dpL [] d=[]:=by rw[dpL]
theorem zK (n:Node) (r:List Node) (d:Nat):dpL (n::r) d=dpN n d++dpL r d:=by rw[dpL]
theorem dpL_app:∀(A B:List Node) (d:Nat),dpL (A++B) d=dpL A d++dpL B d
 | [],B,d=>by rw[aD8];rfl
 |n::A,B,d=>by rw[List.cons_append,zK,zK,dpL_app A B,List.append_assoc]
theorem dp_ge:(∀(n:Node) (d:Nat),∀x∈dpN n d,d≤x.2)∧∀(l:List Node) (d:Nat),∀x∈dpL l d,d≤x.2:=by
 refine qN (fun n h d x A=>?_) (fun d x A=>by rw[aD8] at A;simp at A) (fun n r h1 h2 d x A=>?_)
 ·rw[dpN_eq] at A
  rcases List.mem_cons.1 A with rfl|A
  ·exact Nat.le_refl _
  have:=h _ x A;omega
 rw[zK] at A
 rcases List.mem_append.1 A with A|A
 ·exact h1 d x A
 exact h2 d x A
theorem bare_w:(∀(n:Node) (z:Nat),stL (wN S g n z)=wN S g n z)∧∀(l:List Node) (z:Nat),stL (wL S g l z)=wL S g l z:=by
 refine qN (fun n h z=>?_) (fun z=>by rw[aE7,pO];rfl) (fun n r h1 h2 z=>?_)
 ·rw[N7]
  split
  ·rw[pO,List.map_cons,List.map_nil,E8]
   simp only
   rw[h]
  exact h _
 rw[wH,pO,List.map_append,←pO,←pO,h1,h2]
end
set_option maxRecDepth 100000 in
set_option maxHeartbeats 4000000 in
theorem awake_ok:sD=some true:=by kernel_rfl
theorem st_cnt:(∀n,aU (stN n)=aU n)∧∀l,dQ (stL l)=dQ l:=by
 refine qN (fun n h=>?_) (by rw[pO];rfl) (fun n r h1 h2=>?_)
 ·rw[E8,fO,fO n];simp only;rw[h]
 rw[pO,List.map_cons,←pO,dW,dW,h1,h2]
theorem vO (n:Node) (r:List Node):stL (n::r)=stN n::stL r:=by rw[pO,pO];rfl
theorem stL_app (A B:List Node):stL (A++B)=stL A++stL B:=by rw[pO,pO,pO,List.map_append]
theorem stL_nil:stL []=[]:=by rw[pO];rfl
theorem stL_one (n:Node):stL [n]=[stN n]:=by rw[pO];rfl
theorem X0 (n:Node):(stN n).kids=stL n.kids:=by rw[E8]
theorem st_nd:∀ts k,ndL (stL ts) k=(ndL ts k).map stN:=by
 refine tr_ind (fun k=>by rw[stL_nil,ndL_nil];rfl) (fun n r=>by rw[vO,nd_0,nd_0];rfl) (fun n r k hk ih=>?_) (fun n r k ih=>?_)
 ·rw[vO,nd_in (by rw[X0,st_cnt.2];exact hk),nd_in hk,X0,ih]
 rw[vO,←st_cnt.1 n,nd_on,st_cnt.1 n,nd_on,ih]
theorem st_re (n:Node) (ks:List Node):(stN n).re (stL ks)=stN (n.re ks):=by rw[E8,E8];rfl
theorem st_rp (f g:Node→List Node):∀ts k,(∀x,ndL ts k=some x→f (stN x)=stL (g x))→rpL f (stL ts) k=stL (rpL g ts k):=by
 refine tr_ind (fun k h=>by rw[stL_nil,rpL_nil,rpL_nil,stL_nil]) (fun n r h=>by rw[vO,rp_0,rp_0,h n (nd_0 n r),stL_app]) (fun n r k hk ih h=>?_) (fun n r k ih h=>?_)
 ·rw[vO,rp_in (by rw[X0,st_cnt.2];exact hk),rp_in hk,X0,ih fun x A=>h x (by rw[nd_in hk];exact A),st_re,vO]
 rw[vO,←st_cnt.1 n,rp_on,st_cnt.1 n,rp_on,ih fun x A=>h x (by rw[nd_on];exact A),vO]
theorem st_insK (l:List Node) (c:Chg):zG (stL l) c=(zG l c).map stL:=by
 unfold zG
 have A:(stL l).length=l.length:=by rw[pO,List.length_map]
 rw[A]
 split
 ·rfl
 rw[Option.map_some]
 congr 1
 rw[stL_app,vO,E8]
 simp only[pO,List.map_take,List.map_drop]
theorem st_chF (c:Chg) (x:Node) (hok:okN c x=true):chF c (stN x)=stL (chF c x):=by
 unfold okN at hok
 unfold chF
 by_cases h0:c.op=0
 ·rw[if_pos h0,if_pos h0,stL_one,E8,E8]
 rw[if_neg h0,if_neg h0]
 by_cases h1:c.op=1
 ·rw[if_pos h1,if_pos h1,X0]
 rw[if_neg h1,if_neg h1,X0,st_insK,stL_one]
 cases hi:zG x.kids c with
 |none=>rw[hi] at hok;simp[h0,h1] at hok
 |some ks=>simp only[Option.map_some,Option.getD_some];rw[st_re]
theorem st_okN (c:Chg) (x:Node):okN c (stN x)=okN c x:=by
 unfold okN
 rw[X0,st_insK]
 cases zG x.kids c<;>rfl
theorem st_chg1 (ts:List Node) (c:Chg):chg1 (stL ts) c=((chg1 ts c).1,stL (chg1 ts c).2):=by
 unfold chg1
 by_cases hf:fieldsB c=true
 ·rw[if_pos hf,if_pos hf]
  by_cases h1:c.node< -1∨(c.node= -1∧c.op≠2)
  ·rw[if_pos h1,if_pos h1]
  rw[if_neg h1,if_neg h1]
  by_cases h2:c.node= -1
  ·rw[if_pos h2,if_pos h2,st_insK]
   cases zG ts c<;>rfl
  rw[if_neg h2,if_neg h2,st_nd]
  cases A:ndL ts c.node.toNat with
  |none=>rfl
  |some x=>
   simp only[Option.map_some]
   rw[st_okN]
   by_cases hok:okN c x=true
   ·rw[if_pos hok,if_pos hok,st_rp (chF c) (chF c) ts _ fun y hy=>by rw[A] at hy;rw[←Option.some.inj hy];exact st_chF c x hok]
   rw[if_neg hok,if_neg hok]
 rw[if_neg hf,if_neg hf]
def rn:List Node→List Chg→Option (List Node)
 |ts,[]=>some ts
 |ts,c::cs=>if(chg1 ts c).1=0 then rn (chg1 ts c).2 cs else none
theorem rn_st:∀(cs:List Chg) (ts:List Node),rn (stL ts) cs=(rn ts cs).map stL
 | [],ts=>rfl
 |c::cs,ts=>by
  rw[rn,rn,st_chg1]
  simp only
  split
  ·exact rn_st cs _
  rfl
theorem rn_app:∀(A B:List Chg) (ts:List Node),rn ts (A++B)=(rn ts A).bind fun u=>rn u B
 | [],B,ts=>rfl
 |c::A,B,ts=>by
  rw[List.cons_append,rn,rn]
  split
  ·exact rn_app A B _
  rfl
theorem rn_one {ts us:List Node} {c:Chg} (h:chg1 ts c=(0,us)):rn ts [c]=some us:=by rw[rn,h];rfl
theorem rn_chgs:∀(cs:List Chg) (ts us:List Node),(∀c∈cs,I64 c.node)→dQ ts+cs.length≤1000000→rn ts cs=some us→chgs ts cs=some (us,0)∧dQ us≤dQ ts+cs.length
 | [],ts,us,_,_,h=>by cases h;exact⟨rfl,by simp⟩
 |c::cs,ts,us,A,B,h=>by
  rw[rn] at h
  split at h
  ·rename_i h0
   have h1:=chg1_cnt ts c
   have hn:=A c (List.mem_cons_self ..)
   simp only[List.length_cons] at B
   obtain⟨a1,a2⟩:=rn_chgs cs _ us (fun d hd=>A d (List.mem_cons_of_mem _ hd)) (by omega) h
   rw[chgs,change1_m ts c (by omega) (by simp[Lit.wf,IntKind.min,IntKind.max,IntKind.signed,IntKind.bits];unfold I64 at hn;omega),bsm,if_pos h0]
   exact⟨a1,by simp only[List.length_cons];omega⟩
  cases h
theorem dp_head (r:List Node) (d:Nat):(dpL r d).takeWhile (fun x=>decide (d<x.2))=[]:=by
 cases r with
 |nil=>rw[aD8];rfl
 |cons n r=>rw[zK,dpN_eq,List.cons_append,List.takeWhile_cons];simp
theorem dp_split (l r:List Node) (d:Nat):(dpL l (d+1)++dpL r d).takeWhile (fun x=>decide (d<x.2))=dpL l (d+1):=by
 rw[List.takeWhile_append_of_pos fun x A=>by have:=dp_ge.2 l _ x A;rw[decide_eq_true_eq];omega,dp_head,List.append_nil]
theorem dp_inj:∀(l m:List Node) (d:Nat),dpL l d=dpL m d→stL l=stL m:=by
 have h:(∀n:Node,∀(m:List Node) (d:Nat),dpL n.kids d=dpL m d→stL n.kids=stL m)∧∀(l m:List Node) (d:Nat),dpL l d=dpL m d→stL l=stL m:=by
  refine qN (fun n h=>h) (fun m d h=>?_) (fun n r h1 h2 m d h=>?_)
  ·cases m with
   |nil=>rfl
   |cons a m=>rw[aD8,zK,dpN_eq] at h;cases h
  cases m with
  |nil=>rw[aD8,zK,dpN_eq] at h;cases h
  |cons a m=>
   rw[zK,zK,dpN_eq,dpN_eq,List.cons_append,List.cons_append] at h
   injection h with e1 e2
   have e3:=congrArg (List.takeWhile fun x=>decide (d<x.2)) e2
   rw[dp_split,dp_split] at e3
   rw[e3] at e2
   have e4:=List.append_cancel_left e2
   rw[vO,vO,h2 m d e4,E8,E8 a,h1 a.kids (d+1) e3]
   simp only[Prod.mk.injEq,and_true] at e1
   rw[e1.1,e1.2]
 exact h.2
theorem pr_par:(∀(n:Node) (z:Nat) (q q':Int),(prN n z q).map (fun x=>(x.1,x.2.2))=(prN n z q').map fun x=>(x.1,x.2.2))∧∀(l:List Node) (z:Nat) (q q':Int),(prL l z q).map (fun x=>(x.1,x.2.2))=(prL l z q').map fun x=>(x.1,x.2.2):=by
 refine qN (fun n h z q q'=>?_) (fun z q q'=>by rw[zS,zS]) (fun n r h1 h2 z q q'=>?_)
 ·rw[rJ,rJ];rfl
 rw[pU,pU,List.map_append,List.map_append,h1 z q q',h2 _ q q']
theorem pr_node {l:List Node} {z:Nat} {q q':Int} (j:Nat) {m m':Node} {r r':Int} {k k':Nat} (h:(prL l z q)[j]?=some (m,r,k)) (h':(prL l z q')[j]?=some (m',r',k')):m=m'∧k=k':=by
 have e:=congrArg (fun l=>l[j]?) (pr_par.2 l z q q')
 simp only[List.getElem?_map,h,h',Option.map_some,Option.some.injEq,Prod.mk.injEq] at e
 exact e
def aS (S:Nat→Bool) (sz:Nat→Nat) (z s:Nat):Nat:=(List.range' z (s-z)).countP fun r=>S r&&decide (s<r+sz r)
theorem dp_w (S:Nat→Bool) (g:Nat→Int×ByteArray) (sz:Nat→Nat):
  (∀(n:Node) (z d:Nat),(∀(q:Int) (j:Nat) (m:Node) (r:Int) (k:Nat),(prN n z q)[j]?=some (m,r,k)→sz k=aU m)→dpL (wN S g n z) d=((List.range' z (aU n)).filter S).map fun s=>(g s,d+aS S sz z s))∧
  ∀(l:List Node) (z d:Nat),(∀(q:Int) (j:Nat) (m:Node) (r:Int) (k:Nat),(prL l z q)[j]?=some (m,r,k)→sz k=aU m)→dpL (wL S g l z) d=((List.range' z (dQ l)).filter S).map fun s=>(g s,d+aS S sz z s):=by
 refine qN (fun n h z d hs=>?_) (fun z d _=>by rw[aE7,aD8,dQ];rfl) (fun n r h1 h2 z d hs=>?_)
 ·have hz:sz z=aU n:=hs 0 0 n 0 z (by rw[rJ];rfl)
  have hk:=fun d=>h (z+1) d fun q j m r k A=>by
   rcases Nat.lt_or_ge j (prL n.kids (z+1) (z:Int)).length with hh|hh
   ·obtain⟨m',r',k',e⟩:∃m' r' k',(prL n.kids (z+1) (z:Int))[j]?=some (m',r',k'):=⟨_,_,_,List.getElem?_eq_getElem hh⟩
    have e2:=pr_node j A e
    rw[e2.1,e2.2]
    exact hs 0 (j+1) m' r' k' (by rw[rJ,List.getElem?_cons_succ];exact e)
   have:=(List.getElem?_eq_some_iff.1 A).1
   rw[nD.2] at this hh;omega
  have C:=fO n
  rw[N7,C,Nat.add_comm 1,List.range'_succ,List.filter_cons]
  have hmap:∀e:Nat,(∀s,z+1≤s→s<z+aU n→d+aS S sz z s=e+aS S sz (z+1) s)→(((List.range' (z+1) (dQ n.kids)).filter S).map fun s=>(g s,d+aS S sz z s))=((List.range' (z+1) (dQ n.kids)).filter S).map fun s=>(g s,e+aS S sz (z+1) s):=fun e he=>by
   refine List.map_congr_left fun s hs=>?_
   have:=List.mem_range'_1.1 (List.mem_filter.1 hs).1
   rw[he s (by omega) (by omega)]
  have hcnt:∀s,z+1≤s→s<z+aU n→aS S sz z s=(if S z=true then 1 else 0)+aS S sz (z+1) s:=fun s a1 a2=>by
   unfold aS
   rw[show s-z=(s-(z+1))+1 by omega,List.range'_succ,List.countP_cons,Nat.add_comm]
   congr 1
   rw[decide_eq_true (by omega),Bool.and_true]
  by_cases B:S z=true
  ·rw[if_pos B,if_pos B,zK,aD8,List.append_nil,dpN_eq,List.map_cons,hk (d+1),hmap (d+1) fun s a1 a2=>by rw[hcnt s a1 a2,if_pos B];omega]
   simp[aS]
  rw[if_neg B,if_neg B,hk d,hmap d fun s a1 a2=>by rw[hcnt s a1 a2,if_neg B];omega]
 have C:=dW n r
 have s1:∀(q:Int) (j:Nat) (m:Node) (r':Int) (k:Nat),(prN n z q)[j]?=some (m,r',k)→sz k=aU m:=fun q j m r' k A=>hs q j m r' k (by rw[pU,List.getElem?_append_left (List.getElem?_eq_some_iff.1 A).1];exact A)
 have s2:∀(q:Int) (j:Nat) (m:Node) (r':Int) (k:Nat),(prL r (z+aU n) q)[j]?=some (m,r',k)→sz k=aU m:=fun q j m r' k A=>hs q (aU n+j) m r' k (by rw[pU,List.getElem?_append_right (by rw[nD.1];omega),nD.1,Nat.add_sub_cancel_left];exact A)
 have hb:∀k,z≤k→k<z+aU n→k+sz k≤z+aU n:=fun k a1 a2=>by
  obtain⟨⟨m,q,k'⟩,D⟩:=dD (l:=prN n z 0) (k:=k-z) (by rw[nD.1];omega)
  obtain⟨b1,b2,_⟩:=aC3.1 n z 0 _ m q k' D
  have:=s1 0 _ m q k' D
  rw[show k'=k by omega] at this b2
  omega
 rw[wH,dpL_app,h1 z d s1,h2 _ d s2,C,←List.range'_append_1,List.filter_append,List.map_append]
 congr 1
 refine List.map_congr_left fun s hs'=>?_
 have:=List.mem_range'_1.1 (List.mem_filter.1 hs').1
 congr 2
 unfold aS
 rw[show s-z=aU n+(s-(z+aU n)) by omega,←List.range'_append_1,List.countP_append,List.countP_eq_zero (l:=List.range' z (aU n)) |>.2 fun r hr=>?_,Nat.zero_add]
 have h3:=List.mem_range'_1.1 hr
 have h4:=hb r h3.1 h3.2
 rw[decide_eq_false (by omega),Bool.and_false];simp
theorem up_loop {β:Type} {body:Int→Option (Step Int β)} (p:Nat→Prop) (hit miss:β) (n:Nat):∀(d i:Nat),i+d=n→
  (∀k:Nat,i≤k→k<n→(p k∧body k=some (.done hit))∨(¬p k∧body k=some (.next ((k+1:Nat):Int))))→body (n:Int)=some (.done miss)→
  ((∃k,i≤k∧k<n∧p k)∧dZ body (i:Int)=some hit)∨((∀k,i≤k→k<n→¬p k)∧dZ body (i:Int)=some miss)
 |0,i,hd,h1,h2=>by
  subst hd
  exact Or.inr ⟨fun k a b=>by omega,kD h2⟩
 |d+1,i,hd,h1,h2=>by
  rcases h1 i (Nat.le_refl _) (by omega) with⟨a,b⟩|⟨a,b⟩
  ·exact Or.inl ⟨⟨i,Nat.le_refl _,by omega,a⟩,kD b⟩
  rw[vG b]
  rcases up_loop p hit miss n d (i+1) (by omega) (fun k x y=>h1 k (by omega) y) h2 with⟨⟨k,x,y,z⟩,e⟩|⟨x,e⟩
  ·exact Or.inl ⟨⟨k,by omega,y,z⟩,e⟩
  refine Or.inr ⟨fun k u v=>?_,e⟩
  rcases Nat.lt_or_ge i k with w|w
  ·exact x k w v
  rwa [show k=i by omega]
structure OkO (nx ny:Nat) (A:List Opn) (o:Opn):Prop where
 fst:A.length<nx→o.a=A.length
 snd:nx≤A.length→o.a= -1∧0≤o.b∧∀q∈A.drop nx,q.b<o.b
 lo: -1≤o.b
 hi:o.b<ny
 inj:0≤o.b→∀q∈A,q.b≠o.b
def Scr (nx ny:Nat) (l:List Opn):Prop:=∀j o,l[j]?=some o→OkO nx ny (l.take j) o
def PrO (sx sy:Nat→Nat) (q o:Opn):Prop:=0≤q.a→0≤q.b→0≤o.a→0≤o.b→q.b<o.b∧(o.a<q.a+sx q.a.toNat↔o.b<q.b+sy q.b.toNat)
structure Vd (nx ny:Nat) (sx sy:Nat→Nat) (l:List Opn):Prop where
 scr:Scr nx ny l
 len:nx≤l.length
 sur:∀b:Nat,b<ny→∃q∈l,q.b=b
 prs:l.Pairwise (PrO sx sy)
def Mk (ny:Nat) (A:List Opn) (m:List Bool):Prop:=m.length=ny∧∀b:Nat,b<ny→(m[b]?=some true↔∃q∈A,q.b=b)
theorem Mk.nil (ny:Nat):Mk ny [] (List.replicate ny false):=⟨by simp,fun b hb=>by simp[List.getElem?_replicate,hb]⟩
theorem Mk.skip {ny:Nat} {A:List Opn} {m:List Bool} {o:Opn} (h:Mk ny A m) (ho:o.b<0):Mk ny (A++[o]) m:=⟨h.1,fun b hb=>by
 rw[h.2 b hb]
 constructor
 ·rintro⟨q,hq,e⟩;exact⟨q,by simp[hq],e⟩
 rintro⟨q,hq,e⟩
 rcases List.mem_append.1 hq with h|h
 ·exact⟨q,h,e⟩
 rw[List.mem_singleton.1 h] at e;omega⟩
theorem Mk.mark {ny:Nat} {A:List Opn} {m:List Bool} {o:Opn} (h:Mk ny A m) (h0:0≤o.b) (h1:o.b<ny):Mk ny (A++[o]) (m.set o.b.toNat true):=⟨by simp[h.1],fun b hb=>by
 rw[List.getElem?_set]
 by_cases e:o.b.toNat=b
 ·rw[if_pos e,if_pos (by rw[h.1];omega)]
  simp only[true_iff]
  exact⟨o,by simp,by omega⟩
 rw[if_neg e,h.2 b hb]
 constructor
 ·rintro⟨q,hq,e⟩;exact⟨q,by simp[hq],e⟩
 rintro⟨q,hq,e2⟩
 rcases List.mem_append.1 hq with h|h
 ·exact⟨q,h,e2⟩
 rw[List.mem_singleton.1 h] at e2;omega⟩
theorem Mk.get {ny:Nat} {A:List Opn} {m:List Bool} {o:Opn} (h:Mk ny A m) (h0:0≤o.b) (h1:o.b<ny):∃x,idx m o.b=some x∧(x=true↔∃q∈A,q.b=o.b):=by
 obtain⟨x,B⟩:=dD (show o.b.toNat<m.length by rw[h.1];omega)
 have:=h.2 o.b.toNat (by omega)
 rw[B] at this
 refine⟨x,yB h0 B,?_⟩
 rw[show((o.b.toNat:Nat):Int)=o.b by omega] at this
 rw[←this];simp
def La (nx:Nat) (A:List Opn) (z:Int):Prop:= -1≤z∧(∀q∈A.drop nx,q.b≤z)∧(z= -1∨∃q∈A.drop nx,q.b=z)
theorem La.iff {nx:Nat} {A:List Opn} {z:Int} (h:La nx A z) (b:Int):z<b↔0≤b∧∀q∈A.drop nx,q.b<b:=by
 obtain⟨h1,h2,h3⟩:=h
 constructor
 ·intro hb;exact⟨by omega,fun q hq=>by have:=h2 q hq;omega⟩
 rintro⟨a,c⟩
 rcases h3 with e|⟨q,hq,e⟩
 ·omega
 have:=c q hq;omega
theorem La.fst {nx:Nat} {A:List Opn} {z:Int} {o:Opn} (h:La nx A z) (hl:A.length<nx):La nx (A++[o]) z:=by
 unfold La at h⊢
 rw[List.drop_eq_nil_of_le (by simp;omega)]
 rw[List.drop_eq_nil_of_le (by omega)] at h
 exact h
theorem La.snd {nx:Nat} {A:List Opn} {z:Int} {o:Opn} (h:La nx A z) (B:nx≤A.length) (hb:z<o.b):La nx (A++[o]) o.b:=by
 obtain⟨h1,h2,h3⟩:=h
 refine⟨by omega,fun q hq=>?_,Or.inr ⟨o,by rw[List.drop_append_of_le_length B];simp,O⟩⟩
 rw[List.drop_append_of_le_length B] at hq
 rcases List.mem_append.1 hq with h|h
 ·have:=h2 q h;omega
 rw[List.mem_singleton.1 h];omega
theorem Scr.take {nx ny:Nat} {l:List Opn} {i:Nat} {o:Opn} (h:∀j q,j<i→l[j]?=some q→OkO nx ny (l.take j) q) (A:l[i]?=some o) (hk:OkO nx ny (l.take i) o):∀j q,j<i+1→l[j]?=some q→OkO nx ny (l.take j) q:=fun j q hj hq=>by
 rcases Nat.lt_or_ge j i with e|e
 ·exact h j q e hq
 obtain rfl:j=i:=by omega
 rw[A] at hq;cases hq;exact hk
theorem vloop (nx ny:Nat) (l:List Opn) (x:Nmb) (C:x.nodes.length=nx) (hnx:nx≤100000) (hl:l.length≤9223372036854775807) (E:∀o∈l,I64 o.a∧I64 o.b):
  ∃r,dZ (fun s=>sN l x s.1 s.2.1 s.2.2.1 s.2.2.2) (-1,0,[],List.replicate ny false)=some r∧((r= .ret false∧¬Scr nx ny l)∨∃m,r= .brk (l.filter (fun o=>decide (0≤o.a)&&decide (0≤o.b)),m)∧Scr nx ny l∧Mk ny l m):=by
 refine D7 (fun s=>∃i:Nat,s.2.1=(i:Int)∧i≤l.length∧(∀j q,j<i→l[j]?=some q→OkO nx ny (l.take j) q)∧La nx (l.take i) s.1∧s.2.2.1=(l.take i).filter (fun o=>decide (0≤o.a)&&decide (0≤o.b))∧s.2.2.1.length≤nx∧(i≤nx→s.2.2.1.length≤i)∧Mk ny (l.take i) s.2.2.2) (fun s=>l.length-s.2.1.toNat) _ ?_ _ ⟨0,O,Nat.zero_le _,fun j q h=>by omega,⟨by simp,by simp,Or.inl O⟩,by simp,by simp,by simp,by rw[List.take_zero];exact Mk.nil ny⟩
 rintro⟨z,_,ps,m⟩ ⟨i,rfl,hi,h1,h2,h3,h4,h4',h5⟩
 simp only at h2 h3 h4 h4' h5
 by_cases hlt:i<l.length
 ·obtain⟨o,A⟩:=dD hlt
  have hwo:=E o (List.mem_of_getElem? A)
  unfold I64 at hwo
  have hti:(l.take i).length=i:=by rw[List.length_take];omega
  have hnext:inK .i64 ((i:Int)+1)=some ((i+1:Nat):Int):=by rw[dX (by omega)];rfl
  simp only[sN]
  rw[if_pos (by simp;omega),aZ A,bsn]
  by_cases D:((i<nx↔0≤o.a)∧(0≤o.a→o.a=i)∧(o.a<0→o.a= -1)∧ -1≤o.b∧o.b<ny∧(o.a<0→z<o.b))
  ·obtain⟨c1,c2,c3,c4,c5,c6⟩:=D
   rw[if_neg (by
    rw[C,h5.1]
    simp only[Bool.or_eq_true,Bool.and_eq_true,Bool.not_eq_true',decide_eq_true_eq,decide_eq_false_iff_not,beq_eq_false_iff_ne,ne_eq,decide_eq_decide]
    omega)]
   have hok:(0≤o.b→∀q∈l.take i,q.b≠o.b)→OkO nx ny (l.take i) o:=fun F=>⟨fun h=>by rw[hti] at h⊢;exact c2 (c1.1 h),fun h=>by
    rw[hti] at h
    have:o.a<0:=by omega
    exact⟨c3 this,(h2.iff o.b).1 (c6 this)⟩,c4,c5,F⟩
   have hz:La nx (l.take (i+1)) (if o.a<0 then o.b else z):=by
    rw[lL A]
    split
    ·rename_i hh;exact h2.snd (by omega) (c6 hh)
    exact h2.fst (by omega)
   have hj2:((if(decide (o.a<0))=true then some o.b else some z):Option Int)=some (if o.a<0 then o.b else z):=by
    by_cases hh:o.a<0<;>simp[hh]
   rw[hj2,bsn]
   have hfil1:0≤o.a→0≤o.b→ps++[o]=(l.take (i+1)).filter (fun o=>decide (0≤o.a)&&decide (0≤o.b)):=fun a b=>by
    rw[lL A,List.filter_append,←h3];simp[a,b]
   have hfil0:o.a<0∨o.b<0→ps=(l.take (i+1)).filter (fun o=>decide (0≤o.a)&&decide (0≤o.b)):=fun a=>by
    rw[lL A,List.filter_append,←h3,List.filter_cons_of_neg (by simp only[Bool.and_eq_true,decide_eq_true_eq];omega)];simp
   by_cases hb:o.b<0
   ·rw[if_pos (by simpa using hb),bsn]
    simp only
    rw[hnext,bsn]
    refine Or.inl ⟨_,O,⟨i+1,O,by omega,Scr.take h1 A (hok fun h=>by omega),hz,hfil0 (Or.inr hb),h4,fun h=>by have:=h4' (by omega);simp only;omega,?_⟩,by simp;omega⟩
    rw[lL A];exact h5.skip hb
   rw[if_neg (by simpa using hb)]
   obtain⟨y,hy,hyi⟩:=h5.get (o:=o) (by omega) c5
   rw[hy,bsn]
   cases y with
   |true=>
    rw[if_pos rfl,bsn]
    refine Or.inr ⟨_,O,Or.inl ⟨O,fun B=>?_⟩⟩
    obtain⟨q,hq,e⟩:=hyi.1 O
    exact(B i o A).inj (by omega) q hq e
   |false=>
    have hno:∀q∈l.take i,q.b≠o.b:=fun q hq e=>by have:=hyi.2 ⟨q,hq,e⟩;cases this
    rw[if_neg (by simp),bsn]
    by_cases ha:0≤o.a
    ·rw[if_pos (by simpa using ha),wI (by simp;omega),bsn,bsn]
     simp only
     rw[hnext,bsn]
     refine Or.inl ⟨_,O,⟨i+1,O,by omega,Scr.take h1 A (hok fun _=>hno),hz,hfil1 ha (by omega),?_,fun h=>?_,?_⟩,by simp;omega⟩
     ·have:=h4' (by omega);simp only[List.length_append,List.length_singleton];omega
     ·have:=h4' (by omega);simp only[List.length_append,List.length_singleton];omega
     rw[lL A];exact h5.mark (by omega) c5
    rw[if_neg (by simpa using ha),bsn]
    simp only
    rw[hnext,bsn]
    refine Or.inl ⟨_,O,⟨i+1,O,by omega,Scr.take h1 A (hok fun _=>hno),hz,hfil0 (Or.inl (by omega)),h4,fun h=>by omega,?_⟩,by simp;omega⟩
    rw[lL A];exact h5.mark (by omega) c5
  rw[if_pos (by
   rw[C,h5.1]
   simp only[Bool.or_eq_true,Bool.and_eq_true,Bool.not_eq_true',decide_eq_true_eq,decide_eq_false_iff_not,beq_eq_false_iff_ne,ne_eq,decide_eq_decide]
   omega),bsn]
  refine Or.inr ⟨_,O,Or.inl ⟨O,fun B=>D ?_⟩⟩
  have hk:=B i o A
  have k1:=hk.fst
  have k2:=hk.snd
  rw[hti] at k1 k2
  have k3:=hk.lo
  have k4:=hk.hi
  have k5:=h2.iff o.b
  by_cases hin:i<nx
  ·have:=k1 hin
   exact⟨by omega,fun _=>this,by omega,k3,k4,by omega⟩
  obtain⟨e1,e2⟩:=k2 (by omega)
  exact⟨by omega,by omega,fun _=>e1,k3,k4,fun _=>k5.2 e2⟩
 simp only[sN]
 rw[if_neg (by simp;omega)]
 rw[List.take_of_length_le (by omega)] at h3 h5
 exact Or.inr ⟨_,O,Or.inr ⟨m,by rw[h3],fun j q hq=>h1 j q (by have:=(List.getElem?_eq_some_iff.1 hq).1;omega) hq,h5⟩⟩
def szp (P:List (Node×Int×Nat)) (i:Nat):Nat:=match P[i]? with
 |none=>0
 |some x=>aU x.1
theorem szp_le (n:Node) (i:Nat) (h:i<aU n):∃m q,(prN n 0 (-1))[i]?=some (m,q,i)∧szp (prN n 0 (-1)) i=aU m∧i+aU m≤aU n:=by
 obtain⟨⟨m,q,k⟩,A⟩:=dD (l:=prN n 0 (-1)) (k:=i) (by rw[nD.1];exact h)
 obtain⟨a1,a2,a3⟩:=aC3.1 n 0 (-1) i m q k A
 rw[Nat.zero_add] at a1 a2
 subst a1
 exact⟨m,q,A,by unfold szp;rw[A],a2⟩
theorem above_m (n:Node) (hn:aU n≤100000) (i k:Int) (h0:0≤i) (h1:i<aU n):eY (nmb (prN n 0 (-1))) i k=some (decide (i<k∧k<i+szp (prN n 0 (-1)) i.toNat)):=by
 obtain⟨m,q,a1,a2,a3⟩:=szp_le n i.toNat (by omega)
 unfold eY
 by_cases h:i<k
 ·rw[if_pos (by simpa using h),yB h0 (a:=(aU m:Int)) (by simp[nmb,a1]),bsn,dX (by omega),bsn,bsn,a2]
  congr 1
  simp[h]
 rw[if_neg (by simpa using h),bsn]
 congr 1
 simp[h]
theorem scr_pw {nx ny:Nat} {l:List Opn} (h:Scr nx ny l):l.Pairwise fun q o=>(0≤q.a→0≤o.a→q.a<o.a)∧(0≤o.b→q.b≠o.b):=by
 rw[List.pairwise_iff_getElem]
 intro i j hi A hij
 have h1:=h i l[i] (List.getElem?_eq_getElem hi)
 have h2:=h j l[j] (List.getElem?_eq_getElem A)
 have t1:(l.take i).length=i:=by rw[List.length_take];omega
 have t2:(l.take j).length=j:=by rw[List.length_take];omega
 refine⟨fun a b=>?_,fun b=>h2.inj b _ (List.mem_take_iff_getElem.2 ⟨i,by omega,O⟩)⟩
 have f1:=h1.fst;have s1:=h1.snd;have f2:=h2.fst;have s2:=h2.snd
 rw[t1] at f1 s1;rw[t2] at f2 s2
 rcases Nat.lt_or_ge i nx with e1|e1
 ·have:=f1 e1
  rcases Nat.lt_or_ge j nx with e2|e2
  ·have:=f2 e2;omega
  have:=(s2 e2).1;omega
 have:=(s1 e1).1;omega
theorem scr_rng {nx ny:Nat} {l:List Opn} (h:Scr nx ny l):∀o∈l,o.a<nx∧o.b<ny:=fun o A=>by
 obtain⟨i,hi,rfl⟩:=List.mem_iff_getElem.1 A
 have h1:=h i l[i] (List.getElem?_eq_getElem hi)
 have t1:(l.take i).length=i:=by rw[List.length_take];omega
 have f1:=h1.fst;have s1:=h1.snd
 rw[t1] at f1 s1
 refine⟨?_,h1.hi⟩
 rcases Nat.lt_or_ge i nx with e1|e1
 ·have:=f1 e1;omega
 have:=(s1 e1).1;omega
def Gd (sx sy:Nat→Nat) (q o:Opn):Prop:=q.b<o.b∧(o.a<q.a+sx q.a.toNat↔o.b<q.b+sy q.b.toNat)
theorem ploop (a b:Node) (ha:aU a≤100000) (hb:aU b≤100000) (ps:List Opn) (m:List Bool) (hl:ps.length≤100000)
  (hr:∀o∈ps,0≤o.a∧o.a<aU a∧0≤o.b∧o.b<aU b) (C:ps.Pairwise fun q o=>q.a<o.a∧q.b≠o.b):
  (¬ps.Pairwise (Gd (szp (prN a 0 (-1))) (szp (prN b 0 (-1))))∧dZ (fun s=>nV (nmb (prN a 0 (-1))) (nmb (prN b 0 (-1))) (ps,m) s) 0=some (.ret false))∨
  (ps.Pairwise (Gd (szp (prN a 0 (-1))) (szp (prN b 0 (-1))))∧dZ (fun s=>nV (nmb (prN a 0 (-1))) (nmb (prN b 0 (-1))) (ps,m) s) 0=some (.brk ())):=by
 generalize hsx:szp (prN a 0 (-1))=sx
 generalize hsy:szp (prN b 0 (-1))=sy
 have hp':=List.pairwise_iff_getElem.1 C
 have main:=up_loop (body:=fun s=>nV (nmb (prN a 0 (-1))) (nmb (prN b 0 (-1))) (ps,m) s) (fun k=>∃j q o,j<k∧ps[j]?=some q∧ps[k]?=some o∧¬Gd sx sy q o) (.ret false) (.brk ()) ps.length ps.length 0 (by omega) (fun k _ hk=>by
  obtain⟨o,B⟩:=dD hk
  have hro:=hr o (List.mem_of_getElem? B)
  simp only[nV]
  rw[if_pos (by simp;omega),aZ B,bsn,sub_ok (by omega) (by omega) (by omega),bsn]
  have hx10:(ps.take (k:Int).toNat).drop (0:Int).toNat=ps.take k:=by simp
  rw[hx10]
  have inner:=up_loop (body:=fun s=>sO (nmb (prN a 0 (-1))) (nmb (prN b 0 (-1))) o (ps.take k) s) (fun j=>∃q,ps[j]?=some q∧¬Gd sx sy q o) (.ret false) (.brk ()) k k 0 (by omega) (fun j _ A=>by
   obtain⟨q,hq⟩:=dD (show j<ps.length by omega)
   have hrq:=hr q (List.mem_of_getElem? hq)
   obtain⟨hab,hne⟩:q.a<o.a∧q.b≠o.b:=by
    have:=hp' j k (by omega) hk A
    rwa [(List.getElem?_eq_some_iff.1 hq).2,(List.getElem?_eq_some_iff.1 B).2] at this
   have hq':(ps.take k)[j]?=some q:=by rw[List.getElem?_take,if_pos A];exact hq
   simp only[sO]
   rw[if_pos (by simp;omega),aZ hq',bsn,above_m b hb o.b q.b (by omega) (by omega),above_m b hb q.b o.b (by omega) (by omega),above_m a ha q.a o.a (by omega) (by omega),hsx,hsy,bsn]
   have e1:((if(decide (o.b<q.b))=true then some (!decide (o.b<q.b∧q.b<o.b+sy o.b.toNat)) else some false):Option Bool)=some (decide (o.b<q.b∧¬q.b<o.b+sy o.b.toNat)):=by
    by_cases h:o.b<q.b
    ·rw[if_pos (decide_eq_true h)];congr 1
     rw[Bool.eq_iff_iff];simp only[Bool.not_eq_true',decide_eq_false_iff_not,decide_eq_true_eq];omega
    rw[if_neg (by simpa using h),decide_eq_false (by omega)]
   rw[e1,bsn,bsn,bsn]
   have e2:((if(decide (o.b<q.b∧¬q.b<o.b+sy o.b.toNat))=true then some true else some (!((decide (q.a<o.a∧o.a<q.a+sx q.a.toNat))==(decide (q.b<o.b∧o.b<q.b+sy q.b.toNat))))):Option Bool)=some (decide ((o.b<q.b∧¬q.b<o.b+sy o.b.toNat)∨¬((q.a<o.a∧o.a<q.a+sx q.a.toNat)↔(q.b<o.b∧o.b<q.b+sy q.b.toNat)))):=by
    by_cases h:(o.b<q.b∧¬q.b<o.b+sy o.b.toNat)
    ·rw[if_pos (decide_eq_true h),decide_eq_true (Or.inl h)]
    rw[if_neg (by simpa using h)]
    congr 1
    rw[Bool.eq_iff_iff]
    simp only[Bool.not_eq_true',beq_eq_false_iff_ne,ne_eq,decide_eq_decide,decide_eq_true_eq]
    exact⟨Or.inr,fun g=>g.resolve_left h⟩
   rw[e2,bsn,bsn]
   have e3:((if(decide ((o.b<q.b∧¬q.b<o.b+sy o.b.toNat)∨¬((q.a<o.a∧o.a<q.a+sx q.a.toNat)↔(q.b<o.b∧o.b<q.b+sy q.b.toNat))))=true then some true else some (decide (o.b<q.b∧q.b<o.b+sy o.b.toNat))):Option Bool)=some (decide (¬(q.b<o.b∧(o.a<q.a+sx q.a.toNat↔o.b<q.b+sy q.b.toNat)))):=by
    by_cases h:(o.b<q.b∧¬q.b<o.b+sy o.b.toNat)∨¬((q.a<o.a∧o.a<q.a+sx q.a.toNat)↔(q.b<o.b∧o.b<q.b+sy q.b.toNat))
    ·rw[if_pos (decide_eq_true h)]
     exact congrArg some (decide_eq_true (by omega)).symm
    rw[if_neg (by rw[decide_eq_true_eq];exact h)]
    congr 1
    rw[Bool.eq_iff_iff,decide_eq_true_eq,decide_eq_true_eq]
    omega
   rw[e3,bsn]
   by_cases hg:Gd sx sy q o
   ·rw[if_neg (by rw[decide_eq_true_eq];exact fun h=>h hg),dX (by omega),bsn]
    exact Or.inr ⟨fun⟨q',hq2,h⟩=>by rw[hq] at hq2;cases hq2;exact h hg,rfl⟩
   ·rw[if_pos (by rw[decide_eq_true_eq];exact hg)]
    exact Or.inl ⟨⟨q,hq,hg⟩,O⟩) (by
   simp only[sO]
   rw[if_neg (by simp;omega)])
  rcases inner with⟨⟨j,_,A,q,hq,hg⟩,e⟩|⟨hall,e⟩
  ·refine Or.inl ⟨⟨j,q,o,A,hq,B,hg⟩,?_⟩
   rw[show((0:Nat):Int)=0 from rfl] at e
   rw[e,bsn]
  ·refine Or.inr ⟨fun⟨j,q,o',A,hq,ho',hg⟩=>by rw[B] at ho';cases ho';exact hall j (Nat.zero_le _) A ⟨q,hq,hg⟩,?_⟩
   rw[show((0:Nat):Int)=0 from rfl] at e
   rw[e,bsn]
   simp only
   rw[dX (by omega)];rfl) (by
  simp only[nV]
  rw[if_neg (by simp)])
 have iff:ps.Pairwise (Gd sx sy)↔∀k,0≤k→k<ps.length→¬ ∃j q o,j<k∧ps[j]?=some q∧ps[k]?=some o∧¬Gd sx sy q o:=by
  rw[List.pairwise_iff_getElem]
  constructor
  ·rintro h k _ hk ⟨j,q,o,A,hq,B,hg⟩
   have:=h j k (by omega) hk A
   rw[(List.getElem?_eq_some_iff.1 hq).2,(List.getElem?_eq_some_iff.1 B).2] at this
   exact hg this
  intro h i j hi A hij
  exact Classical.byContradiction fun hg=>h j (Nat.zero_le _) A ⟨i,_,_,hij,List.getElem?_eq_getElem hi,List.getElem?_eq_getElem A,hg⟩
 rcases main with⟨⟨k,h0,hk,h⟩,e⟩|⟨h,e⟩
 ·exact Or.inl ⟨fun hh=>iff.1 hh k h0 hk h,e⟩
 exact Or.inr ⟨iff.2 h,e⟩
theorem contains_m (m:List Bool) (h:m.length≤100000):jR m false=some (decide (false∈m)):=by
 unfold jR pM
 rcases scan_loop (body:=fun s=>jC m false s) m (fun x=> !x) (fun k _=> .ret (k:Int)) (.brk ()) (fun k x A=>by
  have:=(List.getElem?_eq_some_iff.1 A).1
  simp only[jC]
  rw[if_pos (by simp;omega),aZ A,bsn,dX (by omega),bsn]
  cases x<;>rfl) (by
  simp only[jC]
  rw[if_neg (by simp)]) with⟨k,x,A,hp,_,_,_,e⟩|⟨hall,_,_,e⟩
 ·rw[e,bsn,bsn]
  congr 1
  rw[decide_eq_true (by omega),decide_eq_true]
  have:x=false:=by simpa using hp
  exact this▸List.mem_of_getElem? A
 rw[e,bsn,bsn]
 congr 1
 rw[decide_eq_false (by omega),decide_eq_false]
 intro B
 have:=hall false B
 simp at this
theorem Mk.all {ny:Nat} {l:List Opn} {m:List Bool} (h:Mk ny l m):false∉m↔∀b:Nat,b<ny→∃q∈l,q.b=b:=by
 constructor
 ·intro A b hb
  rw[←h.2 b hb]
  obtain⟨x,B⟩:=dD (show b<m.length by rw[h.1];exact hb)
  cases x with
  |true=>exact B
  |false=>exact absurd (List.mem_of_getElem? B) A
 intro hs A
 obtain⟨b,hb,e⟩:=List.mem_iff_getElem.1 A
 have:=(h.2 b (by rw[←h.1];exact hb)).2 (hs b (by rw[←h.1];exact hb))
 rw[List.getElem?_eq_getElem hb,e] at this
 cases this
def Va (a b:Node) (l:List Opn):Prop:=Vd (aU a) (aU b) (szp (prN a 0 (-1))) (szp (prN b 0 (-1))) l
theorem pr_pairs {nx ny:Nat} {sx sy:Nat→Nat} {l:List Opn}:(l.filter (fun o=>decide (0≤o.a)&&decide (0≤o.b))).Pairwise (Gd sx sy)↔l.Pairwise (PrO sx sy):=by
 rw[List.pairwise_filter]
 refine⟨fun h=>h.imp fun{q o} g h1 h2 h3 h4=>g (by simp[h1,h2]) (by simp[h3,h4]),fun h=>h.imp fun{q o} g h1 h2=>?_⟩
 simp only[Bool.and_eq_true,decide_eq_true_eq] at h1 h2
 exact g h1.1 h1.2 h2.1 h2.2
open Classical in
theorem valid_m (a b:Node) (ha:aU a≤100000) (hb:aU b≤100000) (l:List Opn) (E:l.length≤9223372036854775807) (C:∀o∈l,I64 o.a∧I64 o.b):rP a b l=some (decide (Va a b l)):=by
 unfold rP
 have na:(nmb (prN a 0 (-1))).nodes.length=aU a:=by unfold nmb;simp[nD.1]
 have nb:(nmb (prN b 0 (-1))).nodes.length=aU b:=by unfold nmb;simp[nD.1]
 rw[J3 a ha,bsn,J3 b hb,bsn,na,nb]
 by_cases h0:l.length<aU a
 ·rw[if_pos (by simpa using h0),decide_eq_false fun h=>by have:=h.len;omega]
 rw[if_neg (by simpa using h0),mkc_ok (by omega),bsn,Int.toNat_natCast]
 obtain⟨r,hr,D⟩:=vloop (aU a) (aU b) l (nmb (prN a 0 (-1))) na ha E C
 rw[hr,bsn]
 rcases D with⟨rfl,hn⟩|⟨m,rfl,B,hM⟩
 ·simp only
  rw[decide_eq_false fun h=>hn h.scr]
 simp only
 have hrng:=scr_rng B
 have hfl:(l.filter (fun o=>decide (0≤o.a)&&decide (0≤o.b))).length≤100000:=by
  have hpw:(l.filter (fun o=>decide (0≤o.a)&&decide (0≤o.b))).Pairwise fun q o=>q.a<o.a:=by
   rw[List.pairwise_filter]
   exact(scr_pw B).imp fun{q o} g h1 h2=>by
    simp only[Bool.and_eq_true,decide_eq_true_eq] at h1 h2
    exact g.1 h1.1 h2.1
  generalize hF:l.filter (fun o=>decide (0≤o.a)&&decide (0≤o.b))=F at hpw
  have hFr:∀o∈F,0≤o.a∧o.a<aU a:=fun o A=>by
   rw[←hF,List.mem_filter] at A
   simp only[Bool.and_eq_true,decide_eq_true_eq] at A
   exact⟨A.2.1,(hrng o A.1).1⟩
  have key:∀(k:Nat) (o:Opn),F[k]?=some o→(k:Int)≤o.a:=by
   intro k
   induction k with
   |zero=>intro o A;have:=(hFr o (List.mem_of_getElem? A)).1;omega
   |succ k ih=>
    intro o A
    have hk:=(List.getElem?_eq_some_iff.1 A).1
    have h1:=ih F[k] (List.getElem?_eq_getElem (by omega))
    have h2:=List.pairwise_iff_getElem.1 hpw k (k+1) (by omega) hk (by omega)
    rw[(List.getElem?_eq_some_iff.1 A).2] at h2
    omega
  apply Classical.byContradiction
  intro hc
  obtain⟨o,A⟩:=dD (show 100000<F.length by omega)
  have h1:=key _ o A
  have h2:=(hFr o (List.mem_of_getElem? A)).2
  omega
 have hfr:∀o∈l.filter (fun o=>decide (0≤o.a)&&decide (0≤o.b)),0≤o.a∧o.a<aU a∧0≤o.b∧o.b<aU b:=fun o A=>by
  rw[List.mem_filter] at A
  simp only[Bool.and_eq_true,decide_eq_true_eq] at A
  exact⟨A.2.1,(hrng o A.1).1,A.2.2,(hrng o A.1).2⟩
 have hfp:(l.filter (fun o=>decide (0≤o.a)&&decide (0≤o.b))).Pairwise fun q o=>q.a<o.a∧q.b≠o.b:=by
  rw[List.pairwise_filter]
  exact(scr_pw B).imp fun{q o} g h1 h2=>by
   simp only[Bool.and_eq_true,decide_eq_true_eq] at h1 h2
   exact⟨g.1 h1.1 h2.1,g.2 h2.2⟩
 rcases ploop a b ha hb _ m hfl hfr hfp with⟨hn,e⟩|⟨hy,e⟩
 ·rw[e,bsn]
  simp only
  rw[decide_eq_false fun h=>hn (pr_pairs (nx:=aU a) (ny:=aU b).2 h.prs)]
 rw[e,bsn]
 simp only
 rw[contains_m m (by rw[hM.1];exact hb),bsn]
 congr 1
 rw[Bool.eq_iff_iff]
 simp only[Bool.not_eq_true',decide_eq_false_iff_not,decide_eq_true_eq]
 rw[hM.all]
 exact⟨fun h=>⟨B,by omega,h,(pr_pairs (nx:=aU a) (ny:=aU b)).1 hy⟩,fun h=>h.sur⟩
theorem aJ0 {nx ny:Nat} {l:List Opn} (h:Scr nx ny l):l.length≤nx+ny:=by
 have key:∀(k:Nat) (o:Opn),l[nx+k]?=some o→(k:Int)≤o.b:=by
  intro k
  induction k with
  |zero=>
   intro o A
   have hk:=(List.getElem?_eq_some_iff.1 A).1
   have:=((h _ o A).snd (by rw[List.length_take];omega)).2.1
   omega
  |succ k ih=>
   intro o A
   have hk:=(List.getElem?_eq_some_iff.1 A).1
   obtain⟨q,hq⟩:=dD (show nx+k<l.length by omega)
   have h1:=ih q hq
   have h2:=((h _ o A).snd (by rw[List.length_take];omega)).2.2 q (List.mem_of_getElem? (i:=k) (by rw[List.getElem?_drop,List.getElem?_take,if_pos (by omega)];exact hq))
   omega
 apply Classical.byContradiction
 intro hc
 obtain⟨o,A⟩:=dD (show nx+ny<l.length by omega)
 have:=key ny o A
 have:=(h _ o A).hi
 omega
noncomputable def iT (D:(List Span)) (C:(List Bool)) (aQ:Int):Option (Step Int Int):=
 ((if(decide (0≤aQ))=true then
  (idx C aQ).bind fun B=>
  some (!B)
 else
  some false):Option Bool).bind fun m1=>
 if m1=true then
  (idx D aQ).bind fun A=>
  some (.next A.parent)
 else
  some (.done aQ)
noncomputable def zB (A:(List Span)) (D:(List Bool)) (C:Int):Option Int:=
 (idx A C).bind fun B=>
 (dZ (fun s=>iT A D s) B.parent:Option Int).bind fun b2=>
 some b2
def iP (P:List (Node×Int×Nat)) (i:Nat):Int:=match P[i]? with
 |none=> -1
 |some x=>x.2.1
def kC (P:List (Node×Int×Nat)) (i:Nat):Int×ByteArray:=match P[i]? with
 |none=>(0,ByteArray.empty)
 |some x=>(x.1.kind,x.1.text)
theorem at_Q (n:Node) (k:Nat) (h:k<aU n):∃m,(prN n 0 (-1))[k]?=some (m,iP (prN n 0 (-1)) k,k)∧ -1≤iP (prN n 0 (-1)) k∧iP (prN n 0 (-1)) k<k∧kC (prN n 0 (-1)) k=(m.kind,m.text)∧szp (prN n 0 (-1)) k=aU m∧k+aU m≤aU n:=by
 obtain⟨m,q,a1,a2,a3⟩:=szp_le n k h
 have hp:=(aC3.1 n 0 (-1) k m q k a1).2.2
 have e:iP (prN n 0 (-1)) k=q:=by unfold iP;rw[a1]
 rw[e]
 refine⟨m,a1,by omega,by omega,by unfold kC;rw[a1],a2,a3⟩
theorem aI5 (n:Node) (k:Nat) (h:k<aU n):(nmb (prN n 0 (-1))).parent[k]?=some (iP (prN n 0 (-1)) k):=by
 obtain⟨m,e,_⟩:=at_Q n k h
 simp[nmb,e]
theorem spn_get (n:Node) (k:Nat) (h:k<aU n):((prN n 0 (-1)).map spn)[k]?=some ⟨(kC (prN n 0 (-1)) k).1,(kC (prN n 0 (-1)) k).2,((k+szp (prN n 0 (-1)) k:Nat):Int),iP (prN n 0 (-1)) k⟩:=by
 obtain⟨m,e,_,_,e1,e2,_⟩:=at_Q n k h
 rw[List.getElem?_map,e,e1,e2];rfl
theorem nod_get (n:Node) (k:Nat) (h:k<aU n):∃m,(nmb (prN n 0 (-1))).nodes[k]?=some m∧kC (prN n 0 (-1)) k=(m.kind,m.text):=by
 obtain⟨m,e,_,_,e1,_⟩:=at_Q n k h
 exact⟨m,by simp[nmb,e],e1⟩
def ctO (P Q:List (Node×Int×Nat)) (o:Opn):Bool:=decide (o.a<0)||decide (o.b<0)|| !decide (kC P o.a.toNat=kC Q o.b.toNat)
theorem cost_loop (a b:Node) (ha:aU a≤100000) (hb:aU b≤100000) (l:List Opn) (hl:l.length≤200000) (hr:∀o∈l,o.a<aU a∧o.b<aU b):
  dZ (fun s=>uH l (nmb (prN a 0 (-1))) (nmb (prN b 0 (-1))) s.1 s.2) (0,0)=some (l.countP (ctO (prN a 0 (-1)) (prN b 0 (-1))):Int)∧
  dZ (fun s=>tV l ((prN a 0 (-1)).map spn) ((prN b 0 (-1)).map spn) s.1 s.2) (0,0)=some (l.countP (ctO (prN a 0 (-1)) (prN b 0 (-1))):Int):=by
 have B:∀(i:Nat) (o:Opn),l[i]?=some o→(l.take (i+1)).countP (ctO (prN a 0 (-1)) (prN b 0 (-1)))=(l.take i).countP (ctO (prN a 0 (-1)) (prN b 0 (-1)))+if ctO (prN a 0 (-1)) (prN b 0 (-1)) o=true then 1 else 0:=fun i o A=>by
  rw[lL A,List.countP_append,List.countP_singleton]
 have hle:∀i,(l.take i).countP (ctO (prN a 0 (-1)) (prN b 0 (-1)))≤200000:=fun i=>by
  have:=List.countP_le_length (p:=ctO (prN a 0 (-1)) (prN b 0 (-1))) (l:=l.take i)
  rw[List.length_take] at this;omega
 constructor
 ·refine yY (fun i=>(((l.take i).countP (ctO (prN a 0 (-1)) (prN b 0 (-1))):Int),(i:Int))) l.length (by simp) (fun i hi=>?_) (by simp only[uH];rw[if_neg (by simp),List.take_of_length_le (Nat.le_refl _)])
  obtain⟨o,A⟩:=dD hi
  obtain⟨h1,h2⟩:=hr o (List.mem_of_getElem? A)
  have h3:=hle i
  simp only[uH]
  rw[if_pos (by simp;omega),aZ A,bsn]
  have e:((if((decide (o.a<0))||(decide (o.b<0)))=true then some true else(idx (nmb (prN a 0 (-1))).nodes o.a).bind fun E=>(idx (nmb (prN b 0 (-1))).nodes o.b).bind fun D=>(kJ E D).bind fun C=>some (!C)):Option Bool)=some (ctO (prN a 0 (-1)) (prN b 0 (-1)) o):=by
   unfold ctO
   by_cases h:o.a<0∨o.b<0
   ·rw[if_pos (by simpa using h)]
    congr 1
    rcases h with h|h<;>simp[h]
   rw[if_neg (by simpa using h)]
   obtain⟨m,e1,e2⟩:=nod_get a o.a.toNat (by omega)
   obtain⟨q,e3,e4⟩:=nod_get b o.b.toNat (by omega)
   rw[yB (by omega) e1,bsn,yB (by omega) e3,bsn,e2,e4]
   unfold kJ
   rw[bsn,decide_eq_false (p:=o.a<0) (by omega),decide_eq_false (p:=o.b<0) (by omega)]
   simp[Prod.mk.injEq]
  rw[e,bsn,B i o A]
  cases ctO (prN a 0 (-1)) (prN b 0 (-1)) o with
  |true=>rw[if_pos rfl,if_pos rfl,dX (by omega),bsn,fC (by omega),bsn];rfl
  |false=>rw[if_neg (by simp),if_neg (by simp),fC (by omega),bsn];rfl
 refine yY (fun i=>(((l.take i).countP (ctO (prN a 0 (-1)) (prN b 0 (-1))):Int),(i:Int))) l.length (by simp) (fun i hi=>?_) (by simp only[tV];rw[if_neg (by simp),List.take_of_length_le (Nat.le_refl _)])
 obtain⟨o,A⟩:=dD hi
 obtain⟨h1,h2⟩:=hr o (List.mem_of_getElem? A)
 have h3:=hle i
 simp only[tV]
 rw[if_pos (by simp;omega),aZ A,bsn,B i o A,show(if ctO (prN a 0 (-1)) (prN b 0 (-1)) o=true then 1 else 0:Nat)=if(decide (o.a<0)||decide (o.b<0)|| !decide (kC (prN a 0 (-1)) o.a.toNat=kC (prN b 0 (-1)) o.b.toNat))=true then 1 else 0 from rfl]
 by_cases h:o.a<0∨o.b<0
 ·rw[if_pos (by simpa using h),bsn,if_pos rfl,bsn,if_pos rfl,dX (by omega),bsn,fC (by omega),bsn,if_pos (by rcases h with h|h<;>simp[h])];rfl
 rw[if_neg (by simpa using h),yB (by omega) (spn_get a o.a.toNat (by omega)),bsn,yB (by omega) (spn_get b o.b.toNat (by omega)),bsn,bsn]
 simp only
 by_cases hk:(kC (prN a 0 (-1)) o.a.toNat).1=(kC (prN b 0 (-1)) o.b.toNat).1
 ·rw[if_neg (by simpa using hk),bsn,bsn,bsn]
  simp only
  by_cases ht:(kC (prN a 0 (-1)) o.a.toNat).2=(kC (prN b 0 (-1)) o.b.toNat).2
  ·rw[if_neg (by simpa using ht),fC (by omega),bsn,if_neg (by simp only[Bool.or_eq_true,decide_eq_true_eq,Bool.not_eq_true',decide_eq_false_iff_not,not_or,Decidable.not_not];exact⟨by omega,Prod.ext hk ht⟩)];rfl
  rw[if_pos (by simpa using ht),dX (by omega),bsn,fC (by omega),bsn,if_pos (by simp only[Bool.or_eq_true,decide_eq_true_eq,Bool.not_eq_true',decide_eq_false_iff_not];exact Or.inr fun e=>ht (congrArg Prod.snd e))];rfl
 rw[if_pos (by simpa using hk),bsn,if_pos rfl,dX (by omega),bsn,fC (by omega),bsn,if_pos (by simp only[Bool.or_eq_true,decide_eq_true_eq,Bool.not_eq_true',decide_eq_false_iff_not];exact Or.inr fun e=>hk (congrArg Prod.fst e))];rfl
def cstO (a b:Node) (l:List Opn):Nat:=l.countP (ctO (prN a 0 (-1)) (prN b 0 (-1)))
open Classical in
theorem cost_m (a b:Node) (ha:aU a≤100000) (hb:aU b≤100000) (l:List Opn) (B:l.length≤9223372036854775807) (A:∀o∈l,I64 o.a∧I64 o.b):xU a b l=some (if Va a b l then((cstO a b l:Int),0) else(0,1)):=by
 unfold xU
 rw[valid_m a b ha hb l B A,bsn]
 by_cases h:Va a b l
 ·rw[decide_eq_true h,if_neg (by simp),if_pos h,J3 a ha,bsn,J3 b hb,bsn,(cost_loop a b ha hb l (by have:=aJ0 h.scr;omega) (scr_rng h.scr)).1];rfl
 rw[decide_eq_false h,if_pos (by rfl),if_neg h]
def nr (Q:List (Node×Int×Nat)) (T:List Bool):Nat→Int→Int
 |0,p=>p
 |f+1,p=>if p<0 then p else if T[p.toNat]?=some true then p else nr Q T f (iP Q p.toNat)
def near (Q:List (Node×Int×Nat)) (T:List Bool) (s:Nat):Int:=nr Q T (s+1) (iP Q s)
def nc (f:Nat→Bool) (n:Nat):Nat:=(List.range n).countP f
theorem nc_0 (f:Nat→Bool):nc f 0=0:=rfl
theorem nc_succ (f:Nat→Bool) (n:Nat):nc f (n+1)=nc f n+if f n=true then 1 else 0:=by
 unfold nc;rw[List.range_succ,List.countP_append,List.countP_singleton]
theorem nc_le (f:Nat→Bool) (n:Nat):nc f n≤n:=by
 unfold nc
 have:=List.countP_le_length (p:=f) (l:=List.range n)
 rwa [List.length_range] at this
theorem nc_ext {f:Nat→Bool} {e:Nat}:∀(n:Nat),e≤n→(∀s,e≤s→s<n→f s=false)→nc f n=nc f e
 |0,h,_=>by rw[show e=0 by omega]
 |n+1,h,h2=>by
  rcases Nat.lt_or_ge n e with h3|h3
  ·rw[show e=n+1 by omega]
  rw[nc_succ,h2 n h3 (by omega),nc_ext n h3 fun s a b=>h2 s a (by omega)];simp
theorem nc_zero {f:Nat→Bool} {n:Nat} (h:∀s,s<n→f s=false):nc f n=0:=by
 rw[nc_ext (e:=0) n (by omega) fun s _ b=>h s b];rfl
theorem near_loop (n:Node) (T:List Bool) (A:T.length=aU n):∀(f:Nat) (p:Int),p<f→p<aU n→ -1≤p→
  dZ (fun s=>fD (nmb (prN n 0 (-1))) T s) p=some (nr (prN n 0 (-1)) T f p)∧dZ (fun s=>iT ((prN n 0 (-1)).map spn) T s) p=some (nr (prN n 0 (-1)) T f p)
 |0,p,h0,h1,h2=>by
  unfold nr
  constructor
  ·refine kD ?_
   simp only[fD]
   rw[if_neg (by simp;omega),bsn,if_neg (by simp)]
  refine kD ?_
  simp only[iT]
  rw[if_neg (by simp;omega),bsn,if_neg (by simp)]
 |f+1,p,h0,h1,h2=>by
  unfold nr
  by_cases hp:p<0
  ·rw[if_pos hp]
   constructor
   ·refine kD ?_
    simp only[fD]
    rw[if_neg (by simp;omega),bsn,if_neg (by simp)]
   refine kD ?_
   simp only[iT]
   rw[if_neg (by simp;omega),bsn,if_neg (by simp)]
  rw[if_neg hp]
  obtain⟨t,ht⟩:=dD (show p.toNat<T.length by omega)
  rw[ht]
  obtain⟨_,_,g1,g2,_⟩:=at_Q n p.toNat (by omega)
  cases t with
  |true=>
   rw[if_pos rfl]
   constructor
   ·refine kD ?_
    simp only[fD]
    rw[if_pos (by simp;omega),yB (by omega) ht,bsn,bsn,if_neg (by simp)]
   refine kD ?_
   simp only[iT]
   rw[if_pos (by simp;omega),yB (by omega) ht,bsn,bsn,if_neg (by simp)]
  |false=>
   rw[if_neg (by simp)]
   obtain⟨e1,e2⟩:=near_loop n T A f (iP (prN n 0 (-1)) p.toNat) (by omega) (by omega) g1
   constructor
   ·rw[vG (s':=iP (prN n 0 (-1)) p.toNat) ?_,e1]
    simp only[fD]
    rw[if_pos (by simp;omega),yB (by omega) ht,bsn,bsn,if_pos (by rfl),yB (by omega) (aI5 n p.toNat (by omega))];rfl
   rw[vG (s':=iP (prN n 0 (-1)) p.toNat) ?_,e2]
   simp only[iT]
   rw[if_pos (by simp;omega),yB (by omega) ht,bsn,bsn,if_pos (by rfl),yB (by omega) (spn_get n p.toNat (by omega))];rfl
theorem near_m (n:Node) (T:List Bool) (A:T.length=aU n) (s:Nat) (hs:s<aU n):
  dZ (fun s=>fD (nmb (prN n 0 (-1))) T s) (iP (prN n 0 (-1)) s)=some (near (prN n 0 (-1)) T s)∧zB ((prN n 0 (-1)).map spn) T (s:Int)=some (near (prN n 0 (-1)) T s):=by
 obtain⟨_,_,g1,g2,_⟩:=at_Q n s hs
 obtain⟨e1,e2⟩:=near_loop n T A (s+1) (iP (prN n 0 (-1)) s) (by omega) (by omega) g1
 refine⟨e1,?_⟩
 unfold zB
 rw[aZ (spn_get n s hs),bsn,e2];rfl
def kdB (Q:List (Node×Int×Nat)) (T:List Bool) (k s:Nat):Bool:=(T[s]?==some true)&&(decide (iP Q k<0)||(decide (iP Q k<s)&&decide ((s:Int)<iP Q k+szp Q (iP Q k).toNat)))&&decide (near Q T s=iP Q k)
def H8 (Q:List (Node×Int×Nat)) (T:List Bool) (k:Nat):Chg:=
 ⟨2,iP Q k,(nc (fun s=>kdB Q T k s&&decide (s<k)) Q.length:Int),(nc (fun s=>kdB Q T k s&&decide (k<s)&&decide (s<k+szp Q k)) Q.length:Int),(kC Q k).1,(kC Q k).2⟩
theorem insertion_m (n:Node) (hn:aU n≤100000) (T:List Bool) (C:T.length=aU n) (k:Nat) (hk:k<aU n) (hlo:∀s,s<k→T[s]?=some true):
  kU (nmb (prN n 0 (-1))) (k:Int) T=some (H8 (prN n 0 (-1)) T k):=by
 obtain⟨m,g0,g1,g2,g3,g4,g5⟩:=at_Q n k hk
 obtain⟨m',n1,n2⟩:=nod_get n k hk
 have hlen:=nD.1 n 0 (-1)
 unfold kU
 rw[aZ n1,bsn,bsn]
 have hnode:dZ (fun s=>fZ (nmb (prN n 0 (-1))) (k:Int) T s.1 s.2) (0,(-1))=some (iP (prN n 0 (-1)) k):=by
  by_cases hp:iP (prN n 0 (-1)) k<0
  ·refine yY (fun i=>((i:Int),-1)) T.length O (fun i hi=>?_) ?_
   ·obtain⟨t,ht⟩:=dD hi
    simp only[fZ]
    rw[if_pos (by simp;omega),aZ ht,bsn,aZ (aI5 n k hk),bsn,if_neg (by simp;omega)]
    have e:((if t=true then some (decide (0≤iP (prN n 0 (-1)) k)) else some false):Option Bool)=some false:=by
     cases t
     ·rfl
     rw[if_pos rfl,decide_eq_false (by omega)]
    rw[bsn,e,bsn,if_neg (by simp),fC (by omega)];rfl
   simp only[fZ]
   rw[if_neg (by simp),show iP (prN n 0 (-1)) k= -1 by omega]
  refine yY (fun i=>((i:Int),(i:Int)-1)) (iP (prN n 0 (-1)) k).toNat (by simp) (fun i hi=>?_) ?_
  ·simp only[fZ]
   rw[if_pos (by simp;omega),aZ (hlo i (by omega)),bsn,aZ (aI5 n k hk),bsn,if_neg (by simp;omega),if_pos rfl,bsn,bsn,if_pos (by simp;omega),dX (by omega),bsn,fC (by omega),bsn]
   simp only[Option.some.injEq,Step.next.injEq,Prod.mk.injEq,true_and]
   omega
  obtain⟨t,ht⟩:=dD (show(iP (prN n 0 (-1)) k).toNat<T.length by omega)
  simp only[fZ]
  rw[if_pos (by simp;omega),aZ ht,bsn,aZ (aI5 n k hk),bsn,if_pos (by simp;omega),dX (by omega),bsn]
  simp only[Option.some.injEq,Step.done.injEq]
  omega
 rw[hnode,bsn]
 have hcnt:dZ (fun s=>iW (nmb (prN n 0 (-1))) (k:Int) T s.1 s.2.1 s.2.2) (0,0,0)=some ((nc (fun s=>kdB (prN n 0 (-1)) T k s&&decide (s<k)) (aU n):Int),(nc (fun s=>kdB (prN n 0 (-1)) T k s&&decide (k<s)&&decide (s<k+szp (prN n 0 (-1)) k)) (aU n):Int)):=by
  refine yY (fun i=>((i:Int),(nc (fun s=>kdB (prN n 0 (-1)) T k s&&decide (s<k)) i:Int),(nc (fun s=>kdB (prN n 0 (-1)) T k s&&decide (k<s)&&decide (s<k+szp (prN n 0 (-1)) k)) i:Int))) (aU n) (by simp[nc_0]) (fun i hi=>?_) (by simp only[iW];rw[if_neg (by rw[C];simp)])
  obtain⟨t,ht⟩:=dD (show i<T.length by omega)
  have b1:=nc_le (fun s=>kdB (prN n 0 (-1)) T k s&&decide (s<k)) i
  have b2:=nc_le (fun s=>kdB (prN n 0 (-1)) T k s&&decide (k<s)&&decide (s<k+szp (prN n 0 (-1)) k)) i
  simp only[iW]
  rw[if_pos (by rw[C];simp;omega),aZ ht,bsn,nc_succ,nc_succ,aZ (aI5 n k hk),bsn,bsn,aZ (aI5 n i hi),bsn,(near_m n T C i hi).1,bsn,bsn]
  have hin:inK .i64 ((i:Int)+1)=some ((i+1:Nat):Int):=fC (by omega)
  have hab:0≤iP (prN n 0 (-1)) k→eY (nmb (prN n 0 (-1))) (iP (prN n 0 (-1)) k) (i:Int)=some (decide (iP (prN n 0 (-1)) k<i∧(i:Int)<iP (prN n 0 (-1)) k+szp (prN n 0 (-1)) (iP (prN n 0 (-1)) k).toNat)):=fun h=>above_m n hn _ _ h (by omega)
  have hak:=above_m n hn (k:Int) (i:Int) (by omega) (by omega)
  rw[Int.toNat_natCast] at hak
  have hkd:kdB (prN n 0 (-1)) T k i=(t&&(decide (iP (prN n 0 (-1)) k<0)||(decide (iP (prN n 0 (-1)) k<i)&&decide ((i:Int)<iP (prN n 0 (-1)) k+szp (prN n 0 (-1)) (iP (prN n 0 (-1)) k).toNat)))&&decide (near (prN n 0 (-1)) T i=iP (prN n 0 (-1)) k)):=by
   unfold kdB;rw[ht];cases t<;>simp
  rw[hkd]
  generalize near (prN n 0 (-1)) T i=nv
  generalize hpk:iP (prN n 0 (-1)) k=pk at*
  generalize szp (prN n 0 (-1)) k=sk at*
  generalize szp (prN n 0 (-1)) pk.toNat=sp at*
  have e1:((if(!t)=true then some true else(if(decide (0≤pk))=true then(eY (nmb (prN n 0 (-1))) pk (i:Int)).bind fun A=>some (!A) else some false).bind fun m3=>some m3):Option Bool)=some (!(t&&(decide (pk<0)||(decide (pk<i)&&decide ((i:Int)<pk+sp))))):=by
   cases t with
   |false=>rfl
   |true=>
    rw[if_neg (by simp)]
    by_cases h:0≤pk
    ·rw[if_pos (by simpa using h),hab h,bsn,bsn,decide_eq_false (p:=pk<0) (by omega)]
     congr 1
     by_cases h3:pk<i<;>by_cases h4:(i:Int)<pk+sp<;>simp[h3,h4]
    rw[if_neg (by simpa using h),bsn,decide_eq_true (p:=pk<0) (by omega)];simp
  rw[e1,bsn]
  by_cases B:(t&&(decide (pk<0)||(decide (pk<i)&&decide ((i:Int)<pk+sp))))=true
  ·rw[B,if_neg (by simp)]
   by_cases hnv:nv=pk
   ·rw[if_neg (by simp[hnv]),decide_eq_true hnv]
    by_cases h3:i<k
    ·rw[if_pos (by simp;omega),dX (by omega),bsn,bsn,hin,bsn,decide_eq_true h3,decide_eq_false (p:=k<i) (by omega)]
     simp
    rw[if_neg (by simp;omega),hak,bsn,decide_eq_false h3]
    by_cases h4:k<i∧i<k+sk
    ·rw[if_pos (by rw[decide_eq_true_eq];omega),dX (by omega),bsn,bsn,hin,bsn,decide_eq_true h4.1,decide_eq_true h4.2]
     simp
    rw[if_neg (by rw[decide_eq_true_eq];omega),bsn,hin,bsn,if_neg (by simp),if_neg (by simp;omega)]
    simp
   rw[if_pos (by simp[hnv]),bsn,hin,bsn,decide_eq_false hnv]
   simp
  rw[Bool.not_eq_true] at B
  rw[B,if_pos (by rfl),bsn,hin,bsn]
  simp
 rw[hcnt,bsn]
 unfold H8
 rw[n2,hlen]
theorem reverse_m (l:List Chg) (h:l.length≤1000000):sU l=some l.reverse:=by
 unfold sU
 rw[dX (by omega),bsn]
 obtain⟨r,h1,rfl⟩:=D7 (body:=fun s=>pR s.1 s.2.1 s.2.2) (fun s=>∃i:Nat,s.1=(i:Int)∧s.2.1=(l.length:Int)-1-i∧2*i≤l.length∧s.2.2.length=l.length∧∀j:Nat,j<l.length→s.2.2[j]?=if j<i∨l.length-i≤j then l[l.length-1-j]? else l[j]?) (fun s=>l.length-s.1.toNat)
  (fun r=>r=l.reverse)
  (by
   rintro⟨a,b,L⟩ ⟨i,e1,e2,hi,B,hg⟩
   simp only at e1 e2 B hg
   subst e1
   by_cases hlt:(i:Int)<b
   ·obtain⟨j,C⟩:∃j:Nat,b=(j:Int):=⟨b.toNat,by omega⟩
    subst C
    obtain⟨x,A⟩:=dD (show i<L.length by omega)
    obtain⟨y,hy⟩:=dD (show j<L.length by omega)
    left
    refine⟨(((i+1:Nat):Int),(j:Int)-1,(L.set i y).set j x),?_,⟨i+1,O,by simp only;omega,by omega,by simp[B],fun k hk=>?_⟩,by simp;omega⟩
    ·simp only[pR]
     rw[if_pos (by simpa using hlt),aZ hy,bsn,aZ A,bsn,bsn,Int.toNat_natCast,aZ (a:=y) (by rw[List.getElem?_set_ne (by omega)];exact hy),bsn,fC (by omega),bsn,dX (by omega),bsn,Int.toNat_natCast]
    have gx:=hg i (by omega)
    have gy:=hg j (by omega)
    rw[A,if_neg (by omega)] at gx
    rw[hy,if_neg (by omega)] at gy
    simp only
    rw[List.getElem?_set,List.getElem?_set,List.length_set,hg k hk]
    by_cases k1:j=k
    ·rw[if_pos k1,if_pos (by omega),if_pos (by omega),gx];congr 1;omega
    rw[if_neg k1]
    by_cases k2:i=k
    ·rw[if_pos k2,if_pos (by omega),if_pos (by omega),gy];congr 1;omega
    rw[if_neg k2]
    by_cases k3:k<i∨l.length-i≤k
    ·rw[if_pos k3,if_pos (by omega)]
    rw[if_neg k3,if_neg (by omega)]
   right
   refine⟨L,by simp only[pR];rw[if_neg (by simpa using hlt)],List.ext_getElem? fun k=>?_⟩
   rcases Nat.lt_or_ge k l.length with hk|hk
   ·rw[hg k hk,List.getElem?_reverse hk]
    by_cases k3:k<i∨l.length-i≤k
    ·rw[if_pos k3]
    rw[if_neg k3];congr 1;omega
   rw[List.getElem?_eq_none (by omega),List.getElem?_eq_none (by simpa using hk)]) (0,(l.length:Int)-1,l) ⟨0,rfl,by simp only;omega,by omega,rfl,fun j C=>by rw[if_neg (by omega)]⟩
 rw[h1];rfl
theorem concat_m (A B C:List Chg) (h:A.length+B.length+C.length≤1000000):uK [A,B,C]=some (A++B++C):=by
 unfold uK
 refine yP (fun i=>((match i with
  |0=>0
  |1=>(A.length:Int)
  |2=>(A.length:Int)+B.length
  |_=>(A.length:Int)+B.length+C.length),(i:Int))) 3 ((A.length:Int)+B.length+C.length) rfl (fun i hi=>?_) rfl ?_
 ·simp only[xI]
  match i,hi with
  |0,_=>rw[if_pos (by simp),aZ (a:=A) rfl,bsn];simp only;rw[Int.zero_add,dX (by omega),bsn,if_neg (by simp),fC (by omega),bsn]
  |1,_=>rw[if_pos (by simp),aZ (a:=B) rfl,bsn];simp only;rw[dX (by omega),bsn,if_neg (by simp;omega),fC (by omega),bsn]
  |2,_=>rw[if_pos (by simp),aZ (a:=C) rfl,bsn];simp only;rw[dX (by omega),bsn,if_neg (by simp;omega),fC (by omega),bsn]
 rw[show m_grow ((A.length:Int)+B.length+C.length)=some [] by unfold m_grow;rw[if_pos (by omega)],bsn]
 refine yP (fun i=>((i:Int),(match i with
  |0=>[]
  |1=>A
  |2=>A++B
  |_=>A++B++C))) 3 (A++B++C) rfl (fun i hi=>?_) rfl rfl
 simp only[xJ]
 match i,hi with
 |0,_=>rw[if_pos (by simp),aZ (a:=A) rfl,bsn];simp only;rw[wI (by simp;omega),bsn,fC (by omega),bsn];rfl
 |1,_=>rw[if_pos (by simp),aZ (a:=B) rfl,bsn];simp only;rw[wI (by omega),bsn,fC (by omega),bsn]
 |2,_=>rw[if_pos (by simp),aZ (a:=C) rfl,bsn];simp only;rw[wI (by simp;omega),bsn,fC (by omega),bsn]
def yH (P Q:List (Node×Int×Nat)) (o:Opn):Option Chg:=if 0≤o.a∧0≤o.b∧kC P o.a.toNat≠kC Q o.b.toNat then some ⟨0,o.a,0,0,(kC Q o.b.toNat).1,(kC Q o.b.toNat).2⟩ else none
def O1 (o:Opn):Option Chg:=if o.b<0 then some ⟨1,o.a,0,0,0,ByteArray.empty⟩ else none
def thB (l:List Opn) (s:Nat):Bool:=l.any fun q=>decide (0≤q.a)&&decide (q.b=(s:Int))
def TK (l:List Opn) (ny k:Nat):List Bool:=(List.range ny).map fun s=>decide (s<k)||thB l s
def insL (Q:List (Node×Int×Nat)) (l:List Opn) (ks:List Nat):List Chg:=ks.map fun k=>H8 Q (TK l Q.length k) k
def chgL (P Q:List (Node×Int×Nat)) (l:List Opn):List Chg:=l.filterMap (yH P Q)++(l.filterMap O1).reverse++insL Q l ((List.range Q.length).filter fun s=> !thB l s)
theorem TK_get (l:List Opn) (ny k s:Nat) (h:s<ny):(TK l ny k)[s]?=some (decide (s<k)||thB l s):=by
 unfold TK;rw[List.getElem?_map,List.getElem?_range h];rfl
theorem TK_len (l:List Opn) (ny k:Nat):(TK l ny k).length=ny:=by simp[TK]
theorem thB_iff (l:List Opn) (s:Nat):thB l s=true↔∃q∈l,0≤q.a∧q.b=s:=by simp[thB]
theorem mO {α β:Type} (f:α→Option β) {l:List α} {i:Nat} {x:α} (h:l[i]?=some x):(l.take (i+1)).filterMap f=(l.take i).filterMap f++(f x).toList:=by
 rw[lL h,List.filterMap_append]
 cases hf:f x<;>simp[hf]
theorem wM {α:Type} (f:α→Bool) {l:List α} {i:Nat} {x:α} (h:l[i]?=some x):(l.take (i+1)).filter f=(l.take i).filter f++if f x=true then [x] else []:=by
 rw[lL h,List.filter_append]
 congr 1
 cases hf:f x<;>simp[hf]
theorem aC5 {nx ny:Nat} {l:List Opn} (h:Scr nx ny l) {j:Nat} {q:Opn} (hq:l[j]?=some q):(j<nx→q.a=j)∧(nx≤j→q.a= -1∧0≤q.b):=by
 have hk:=(List.getElem?_eq_some_iff.1 hq).1
 have t:(l.take j).length=j:=by rw[List.length_take];omega
 have h1:=(h j q hq).fst
 have h2:=(h j q hq).snd
 rw[t] at h1 h2
 exact⟨h1,fun e=>⟨(h2 e).1,(h2 e).2.1⟩⟩
theorem scr_lt {nx ny:Nat} {l:List Opn} (h:Scr nx ny l) {i j:Nat} {q o:Opn} (hq:l[i]?=some q) (A:l[j]?=some o) (h1:nx≤i) (h2:i<j):q.b<o.b:=by
 have hk:=(List.getElem?_eq_some_iff.1 A).1
 refine((h j o A).snd (by rw[List.length_take];omega)).2.2 q (List.mem_of_getElem? (i:=i-nx) ?_)
 rw[List.getElem?_drop,List.getElem?_take,if_pos (by omega),show nx+(i-nx)=i by omega];exact hq
theorem TK_of {nx ny:Nat} {sx sy:Nat→Nat} {l:List Opn} (B:Vd nx ny sx sy l) {i:Nat} {o:Opn} (C:l[i]?=some o) (hi:nx≤i) {T:List Bool} (D:Mk ny (l.filter (fun q=>decide (0≤q.a))++(l.take i).filter fun q=>decide (q.a<0)) T):T=TK l ny o.b.toNat:=by
 have hob:=(aC5 B.scr C).2 hi
 refine List.ext_getElem? fun s=>?_
 rcases Nat.lt_or_ge s ny with hs|hs
 ·obtain⟨v,hv⟩:=dD (show s<T.length by rw[D.1];exact hs)
  have h1:=D.2 s hs
  rw[hv] at h1
  rw[hv,TK_get l ny _ s hs]
  congr 1
  rw[Bool.eq_iff_iff]
  rw[show(v=true)↔(some v=some true) by simp,h1,Bool.or_eq_true,decide_eq_true_eq,thB_iff]
  constructor
  ·rintro⟨q,hq,e⟩
   rcases List.mem_append.1 hq with h|h
   ·rw[List.mem_filter] at h
    exact Or.inr ⟨q,h.1,of_decide_eq_true h.2,e⟩
   rw[List.mem_filter] at h
   obtain⟨j,A⟩:=List.mem_iff_getElem?.1 h.1
   have hji:j<i:=by have:=(List.getElem?_eq_some_iff.1 A).1;rw[List.length_take] at this;omega
   rw[List.getElem?_take,if_pos hji] at A
   have ha:=of_decide_eq_true h.2
   have hjn:nx≤j:=Nat.le_of_not_lt fun e=>by have:=(aC5 B.scr A).1 e;omega
   have:=scr_lt B.scr A C hjn hji
   exact Or.inl (by omega)
  rintro(h|⟨q,hq,ha,e⟩)
  ·obtain⟨q,hq,e⟩:=B.sur s hs
   obtain⟨j,A⟩:=List.mem_iff_getElem?.1 hq
   refine⟨q,?_,e⟩
   rw[List.mem_append,List.mem_filter,List.mem_filter]
   by_cases ha:0≤q.a
   ·exact Or.inl ⟨hq,decide_eq_true ha⟩
   have hjn:nx≤j:=Nat.le_of_not_lt fun e=>by have:=(aC5 B.scr A).1 e;omega
   have hji:j<i:=by
    apply Classical.byContradiction
    intro hc
    rcases Nat.lt_or_ge i j with h2|h2
    ·have:=scr_lt B.scr C A hi h2;omega
    obtain rfl:i=j:=by omega
    rw[C] at A;cases A;omega
   exact Or.inr ⟨List.mem_of_getElem? (i:=j) (by rw[List.getElem?_take,if_pos hji];exact A),decide_eq_true (by omega)⟩
  exact⟨q,by rw[List.mem_append,List.mem_filter];exact Or.inl ⟨hq,decide_eq_true ha⟩,e⟩
 rw[List.getElem?_eq_none (by rw[D.1];exact hs),List.getElem?_eq_none (by rw[TK_len];exact hs)]
theorem ins_eq {nx ny:Nat} {sx sy:Nat→Nat} {l:List Opn} (A:Vd nx ny sx sy l):(l.filter fun q=>decide (q.a<0)).map (fun o=>o.b.toNat)=(List.range ny).filter fun s=> !thB l s:=by
 have hpos:∀q∈l,q.a<0→∃j,l[j]?=some q∧nx≤j∧0≤q.b:=fun q hq ha=>by
  obtain⟨j,B⟩:=List.mem_iff_getElem?.1 hq
  have hjn:nx≤j:=Nat.le_of_not_lt fun e=>by have:=(aC5 A.scr B).1 e;omega
  exact⟨j,B,hjn,((aC5 A.scr B).2 hjn).2⟩
 refine aE4 (r:=fun a b:Nat=>a<b) (fun a=>Nat.lt_irrefl a) (fun a b c=>Nat.lt_trans) ?_ (List.Pairwise.filter _ (List.pairwise_lt_range)) fun s=>?_
 ·rw[List.pairwise_map,List.pairwise_filter,List.pairwise_iff_getElem]
  intro i j hi B hij h1 h2
  have h1:=of_decide_eq_true h1
  have h2:=of_decide_eq_true h2
  have hjn:nx≤i:=Nat.le_of_not_lt fun e=>by have:=(aC5 A.scr (List.getElem?_eq_getElem hi)).1 e;omega
  have h3:=scr_lt A.scr (List.getElem?_eq_getElem hi) (List.getElem?_eq_getElem B) hjn hij
  have h4:=((aC5 A.scr (List.getElem?_eq_getElem hi)).2 hjn).2
  omega
 rw[List.mem_map,List.mem_filter,List.mem_range]
 constructor
 ·rintro⟨q,hq,e⟩
  rw[List.mem_filter] at hq
  have ha:=of_decide_eq_true hq.2
  obtain⟨j,B,hjn,hb⟩:=hpos q hq.1 ha
  have hr:=scr_rng A.scr q hq.1
  refine⟨by omega,?_⟩
  rw[Bool.not_eq_true',←Bool.not_eq_true,thB_iff]
  rintro⟨q',hq',ha',e'⟩
  obtain⟨j',hj'⟩:=List.mem_iff_getElem?.1 hq'
  have hj2:j'<nx:=Nat.lt_of_not_le fun e=>by have:=((aC5 A.scr hj').2 e).1;omega
  have:=List.pairwise_iff_getElem.1 (scr_pw A.scr) j' j (List.getElem?_eq_some_iff.1 hj').1 (List.getElem?_eq_some_iff.1 B).1 (by omega)
  rw[(List.getElem?_eq_some_iff.1 hj').2,(List.getElem?_eq_some_iff.1 B).2] at this
  exact this.2 hb (by omega)
 rintro⟨hs,hn⟩
 rw[Bool.not_eq_true',←Bool.not_eq_true,thB_iff] at hn
 obtain⟨q,hq,e⟩:=A.sur s hs
 have ha:q.a<0:=by
  apply Classical.byContradiction
  intro h;exact hn ⟨q,hq,by omega,e⟩
 exact⟨q,by rw[List.mem_filter];exact⟨hq,decide_eq_true ha⟩,by omega⟩
end Go.Proofs.YtopnldfjcciieaaGreat

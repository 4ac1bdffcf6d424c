/- The solver: what a learned clause makes of the state; the trail as a number. -/
import Derived.Test.YtpkhmndpeipfmaaKDe24
import Derived.Test.YtpkhmndpeipfmaaKDe5
import Derived.Test.YtpkhmndpeipfmaaKDe6
set_option linter.unusedVariables false
set_option linter.unusedSimpArgs false
namespace Go.Proofs.Ytpkhmndpeipfmaa
open Go.RowKit
def phi (n:Nat) (st:List Int):Nat→Nat
 |0=>0
 |t+1=>phi n st t+if(t:Int)∈st then 0 else 2 ^ (n-1-t)
theorem xY (n:Nat) (st:List Int) (t:Nat):phi n st (t+1)=phi n st t+if(t:Int)∈st then 0 else 2 ^ (n-1-t):=rfl
theorem phi_lt {n:Nat} {st:List Int}:∀t,t≤n→phi n st t+2 ^ (n-t)≤2 ^ n
 |0,_=>by simp[phi]
 |t+1,h=>by
  have ih:=phi_lt (n:=n) (st:=st) t (by omega)
  have e:n-t=(n-1-t)+1:=by omega
  have e2:n-(t+1)=n-1-t:=by omega
  rw[e,Nat.pow_succ] at ih
  rw[xY,e2]
  split<;>omega
theorem phi_mono {n:Nat} {st:List Int} {t u:Nat} (h:t≤u):phi n st t≤phi n st u:=by
 induction h with
 |refl=>exact Nat.le_refl _
 |step _ ih=>exact Nat.le_trans ih (by rw[xY];omega)
theorem phi_congr {n:Nat} {st su:List Int}:∀t,(∀i:Nat,i<t→((i:Int)∈st↔(i:Int)∈su))→phi n st t=phi n su t
 |0,_=>rfl
 |t+1,h=>by
  have h1:=h t (by omega)
  rw[xY,xY,phi_congr t fun i hi=>h i (by omega)]
  by_cases e:(t:Int)∈su
  ·rw[if_pos e,if_pos (h1.2 e)]
  rw[if_neg e,if_neg (fun e'=>e (h1.1 e'))]
theorem phi_dec {n:Nat} {st:List Int} {b:Nat} (hb:(b:Int)∈st):∀t,b<t→t≤n→phi n st t+2 ^ (n-t)≤phi n st b+2 ^ (n-1-b)
 |0,h,_=>by omega
 |t+1,h,hn=>by
  by_cases e:t=b
  ·subst e
   rw[xY,if_pos hb,show n-(t+1)=n-1-t by omega]
   omega
  have ih:=phi_dec (n:=n) hb t (by omega) (by omega)
  have e1:n-t=(n-1-t)+1:=by omega
  have e2:n-(t+1)=n-1-t:=by omega
  rw[e1,Nat.pow_succ] at ih
  rw[xY,e2]
  have:(if(t:Int)∈st then 0 else 2 ^ (n-1-t))≤2 ^ (n-1-t):=by split<;>omega
  omega
theorem phi_back {n:Nat} {st su:List Int} {b t:Nat} (hb:(b:Int)∈st) (ht:b<t) (hn:t≤n) (hs:∀i:Nat,i<b→((i:Int)∈st↔(i:Int)∈su)) (hbu:(b:Int)∉su):phi n st t+1≤phi n su (b+1):=by
 have h1:=phi_dec hb t ht hn
 have h2:0<2 ^ (n-t):=Nat.pow_pos (by decide)
 rw[phi_congr b hs] at h1
 rw[xY,if_neg hbu]
 omega
theorem clF_of_inc {n:Int}:∀(c:List Int) (t:Int),Inc c→(∀y∈c,t<vr y∧vr y≤n)→clF n t c=true
 | [],_,_,_=>rfl
 |x::c,t,hi,h=>by
  have h1:=h x (List.mem_cons_self ..)
  have h2:=nS.1 h1.2
  obtain⟨i1,i2⟩:=List.pairwise_cons.1 hi
  unfold clF
  rw[clF_of_inc c (vr x) i2 (fun y hy=>⟨i1 y hy,(h y (List.mem_cons_of_mem _ hy)).2⟩)]
  simp only[Bool.and_true,Bool.and_eq_true,decide_eq_true_eq]
  exact⟨⟨h2.1,h2.2⟩,h1.1⟩
theorem inc_len {n:Int}:∀(c:List Int) (t:Int),t≤n→Inc c→(∀y∈c,t<vr y∧vr y≤n)→(c.length:Int)≤n-t
 | [],t,ht,_,_=>by simp;omega
 |x::c,t,_,hi,h=>by
  have h1:=h x (List.mem_cons_self ..)
  obtain⟨i1,i2⟩:=List.pairwise_cons.1 hi
  have:=inc_len c (vr x) h1.2 i2 (fun y hy=>⟨i1 y hy,(h y (List.mem_cons_of_mem _ hy)).2⟩)
  simp only[List.length_cons]
  omega
theorem normal_of {n:Int} (hn:0≤n∧n≤65536) {q:List Int} (hl:∀y∈q,y≠0∧vr y≤n) (ho:∀y∈q,-y∉q):∃o,normF q=(o,true)∧(∀z,z∈o↔z∈q)∧clF n 0 o=true∧(o.length:Int)≤n:=by
 have h:=aG8 q [] List.Pairwise.nil (by simp)
 have hr:∀x∈q,zO x=true:=fun x hx=>by
  have h1:=hl x hx
  have h2:=nS.1 h1.2
  unfold zO
  simp only[Bool.and_eq_true,decide_eq_true_eq]
  exact⟨⟨h1.1,by omega⟩,by omega⟩
 unfold normF
 cases hq:nrm [] q with
 |none=>
  rw[hq] at h
  simp only at h
  rcases h with⟨x,hx,e⟩|⟨x,h0,hx,hy⟩
  ·rw[hr x hx] at e;cases e
  simp only[List.not_mem_nil,false_or] at hx hy
  exact absurd hy (ho x hx)
 |some o=>
  rw[hq] at h
  simp only at h
  have hm:∀z,z∈o↔z∈q:=fun z=>by rw[h.2.1];simp
  have hb:∀y∈o,(0:Int)<vr y∧vr y≤n:=fun y hy=>by
   have h1:=hl y ((hm y).1 hy)
   have h2:=jC y
   have h3:vr y≠0:=fun e=>h1.1 (oL.1 e)
   exact⟨by omega,h1.2⟩
  have:=inc_len o 0 hn.1 h.1 hb
  exact⟨o,rfl,hm,clF_of_inc o 0 h.1 hb,by omega⟩
section
variable {n:Int} {F:List (List Int)} {st:List Int} {D:Nat→Int→Prop} {val lev:List Int} {rea:List (Option Nat)} {trail:List Int} {ws:List (List Nat)} {cl:List (List Int)}
theorem negs_mono {q o:List Int} (h:∀z,z∈q↔z∈o) {G:List (List Int)} (hf:Fails G (wH q)):Fails G (wH o):=
 hf.mono (fun _ h=>h) fun x hx=>by
  have:=(h _).1 (X7 hx)
  have h2:=P6.2 this
  rwa [Int.neg_neg] at h2
theorem clash_zero (h:Cor n F [] D val lev rea trail ws cl) {id:Nat} (hc:Clash [] trail cl id):Fails F []:=by
 obtain⟨c,h1,h2,_⟩:=hc.ex
 obtain⟨o,ho,k1,k2⟩:=h.eng.src id c h1
 refine Or.inr ⟨o,(mem_big.1 ho).1,fun y hy=>?_⟩
 have hyc:y∈c:=Classical.byContradiction fun hn=>by have:=k2 y hy hn;simp at this
 obtain⟨k,hk⟩:=List.getElem?_of_mem (h2 y hyc)
 exact h.up0 k hk rfl
structure Ahead (n:Int) (st trail q:List Int) (k:Nat) (b d:Int):Prop where
 q0:q[0]?=some (-d)
 open_:d∉trail.take b.toNat∧ -d∉trail.take b.toNat
 lit:∀y∈q,y≠0∧vr y≤n
 rest:∀(j:Nat) (y:Int),1≤j→q[j]?=some y→ -y∈trail.take b.toNat
 q1:1<q.length→∃(y:Int) (i:Nat),q[1]?=some y∧(trail.take b.toNat)[i]?=some (-y)∧lvl (st.take k) i=k∧∀c∈st.take k,c≤(i:Int)
theorem Learned.ahead (h:Cor n F st D val lev rea trail ws cl) {q:List Int} {k:Nat} {b:Int} (hL:Learned n F st trail q k) (hk:st[k]?=some b):∃d,Ahead n st trail q k b d:=by
 obtain⟨d,bd,h1,h2,h3,h4⟩:=hL.hd
 have hb:=h.stb b (bK hk)
 have hkl:=dB hk
 have lt_of:∀i:Nat,lvl st i≤(k:Int)→i<b.toNat:=fun i hi=>by
  rcases Nat.lt_or_ge i b.toNat with h5|h5
  ·exact h5
  have:=lvl_ge h.sts hk (show b≤(i:Int) by omega)
  omega
 have mem_take:∀(i:Nat) (x:Int),trail[i]?=some x→i<b.toNat→(trail.take b.toNat)[i]?=some x:=fun i x hx hi=>by
  rw[List.getElem?_take,if_pos hi];exact hx
 have hdn:∀x:Int,vr x=vr d→x∉trail.take b.toNat:=fun x hx hm=>by
  obtain⟨i,hi⟩:=List.getElem?_of_mem hm
  rw[List.getElem?_take] at hi
  split at hi
  ·rename_i hib
   have e:=h.at_ hi h1 hx
   subst e
   have:=lvl_lt' h.sts hk (show(i:Int)<b by omega)
   omega
  cases hi
 refine⟨d,h4,⟨hdn d rfl,hdn (-d) (kU d)⟩,fun y hy=>⟨(hL.lit y hy).1,(hL.lit y hy).2.1⟩,fun j y hj hy=>?_,fun hq=>?_⟩
 ·obtain⟨i,i1,i2⟩:=hL.lo j y hj hy
  exact bK (mem_take i _ i1 (lt_of i i2))
 obtain⟨y,i,i0,i1,i2⟩:=hL.hi hq
 have hib:=lt_of i (by omega)
 refine⟨y,i,i0,mem_take i _ i1 hib,by rw[←lvl_lt h.sts hk (show(i:Int)<b by omega)];exact i2,fun c hc=>?_⟩
 obtain⟨j,hj⟩:=List.getElem?_of_mem hc
 rw[List.getElem?_take] at hj
 split at hj
 ·rename_i hjk
  rcases Int.lt_or_le (i:Int) c with h5|h5
  ·have:=lvl_lt' h.sts hj h5
   omega
  exact h5
 cases hj
theorem Cor.learnt {k:Nat} (h:Cor n F (st.take k) (fun _ w=> -w∈trail) val lev rea trail ws cl) {tr0 q o:List Int} {b d:Int} (hA:Ahead n st tr0 q k b d) (htr:trail=tr0.take b.toNat) (hkl:k≤st.length) (hq:1<q.length) (hnd:q.Nodup) (ho:∀z,z∈q↔z∈o) (ho2:2≤o.length) {Ra Rb:List Nat} {a2:Int} (hq1:q[1]?=some a2) (hra:ws[ixL (-d)]?=some Ra) (hrb:ws[ixL a2]?=some Rb):
  Cor n (F++[o]) (st.take k) (fun _ w=> -w∈trail) (val.set (vr (-d)).toNat (-d)) (lev.set (vr (-d)).toNat ((st.take k).length:Int)) (rea.set (vr (-d)).toNat (some cl.length)) (trail++[-d]) ((ws.set (ixL (-d)) (Ra++[cl.length])).set (ixL a2) (Rb++[cl.length])) (cl++[q]):=by
 have hp:Pair q (-d) a2:=Or.inl ⟨hA.q0,hq1⟩
 obtain⟨y,i,y1,i1,i2,i3⟩:=hA.q1 hq
 obtain rfl:=Option.some.inj (hq1.symm.trans y1)
 rw[←htr] at i1
 have hop:=hA.open_
 rw[←htr] at hop
 have hdl:=hA.lit _ (bK hA.q0)
 have h1:=h.addW (q:=o) (d:=q) ho2 hA.q0 hq1 hnd hA.lit ho hra hrb (fun c hc w p hpw hw=>by
  exfalso
  rcases hp.other hpw with⟨rfl,_⟩|⟨rfl,_⟩
  ·rw[Int.neg_neg] at hw
   exact hop.1 (List.mem_of_mem_take hw)
  obtain⟨j,hj⟩:=List.getElem?_of_mem hw
  rw[List.getElem?_take] at hj
  split at hj
  ·have e:=nI h.eng.nd hj i1
   have:=i3 c hc
   have:=h.stb c hc
   omega
  cases hj)
 have hz:gv val (-d)=some 0:=by
  rcases h.eng.cases hdl.1 hdl.2 with⟨_,hm⟩|⟨_,hm⟩|⟨hz,_⟩
  ·exact absurd hm hop.2
  ·rw[Int.neg_neg] at hm;exact absurd hm hop.1
  exact hz
 have hnew:(cl++[q])[cl.length]?=some q:=by rw[List.getElem?_append_right (Nat.le_refl _)];simp
 have hlk:((st.take k).length:Int)=k:=by rw[List.length_take,Nat.min_eq_left hkl]
 have hne:a2≠ -d:=fun e=>by subst e;have:=nI hnd hq1 hA.q0;omega
 have h2:=h1.hold hdl.1 hdl.2 hz (r:=some cl.length) ⟨q,hnew,bK hA.q0,fun z hz hne=>by
  rw[List.take_length]
  obtain⟨j,hj⟩:=List.getElem?_of_mem hz
  have:j≠0:=fun e=>by subst e;exact hne (Option.some.inj (hj.symm.trans hA.q0))
  rw[htr]
  exact hA.rest j z (by omega) hj,a2,bK hq1,hne,i,i1,by rw[i2,h.top (Nat.le_refl _),hlk]⟩ (fun id e=>by rw[←Option.some.inj e,List.length_append];simp)
 refine h2.more fun id c w p hc hpw hw=>?_
 by_cases e:id=cl.length
 ·subst e
  obtain rfl:=Option.some.inj (hnew.symm.trans hc)
  rcases hp.other hpw with⟨rfl,_⟩|⟨rfl,rfl⟩
  ·have hw: - -d∈trail:=hw
   rw[Int.neg_neg] at hw
   exact absurd hw hop.1
  simp
 exact h2.eng.pr id c w p hc hpw ⟨hw,e⟩
theorem Cor.learnt1 (h:Cor n F (st.take 0) (fun _ w=> -w∈trail) val lev rea trail ws cl) {tr0 q o:List Int} {b d:Int} (hA:Ahead n st tr0 q 0 b d) (htr:trail=tr0.take b.toNat) (ho:o=[-d]):
  Cor n (F++[o]) (st.take 0) (fun _ w=> -w∈trail) (val.set (vr (-d)).toNat (-d)) (lev.set (vr (-d)).toNat ((st.take 0).length:Int)) (rea.set (vr (-d)).toNat none) (trail++[-d]) ws cl:=by
 have hop:=hA.open_
 rw[←htr] at hop
 have hdl:=hA.lit _ (bK hA.q0)
 have hz:gv val (-d)=some 0:=by
  rcases h.eng.cases hdl.1 hdl.2 with⟨_,hm⟩|⟨_,hm⟩|⟨hz,_⟩
  ·exact absurd hm hop.2
  ·rw[Int.neg_neg] at hm;exact absurd hm hop.1
  exact hz
 subst ho
 have h1:=h.addU (q:=[-d]) (by simp)
 exact h1.hold hdl.1 hdl.2 hz (r:=none) (Or.inr ⟨rfl,.unit (List.mem_append_right _ (List.mem_singleton.2 rfl)) (by simp) fun y hy hne=>absurd (List.mem_singleton.1 hy) hne⟩) (fun id e=>by cases e)
end
theorem accP_snoc:∀{p F:List (List Int)} {c:List Int},J6 F (p++[c])↔J6 F p∧Fails (F++p) (wH c)
 | [],F,c=>by simp[J6]
 |q::p,F,c=>by
  have ih:= @accP_snoc p (F++[q]) c
  rw[List.append_assoc] at ih
  show Fails F (wH q)∧J6 (F++[q]) (p++[c])↔(Fails F (wH q)∧J6 (F++[q]) p)∧Fails (F++q::p) (wH c)
  rw[ih]
  exact⟨fun⟨a,b,c⟩=>⟨⟨a,b⟩,c⟩,fun⟨⟨a,b⟩,c⟩=>⟨a,b,c⟩⟩
def jG (n:Int) (F0:List (List Int)) (m:List Int):Prop:=(m.length:Int)=n∧MdL m∧∀c∈F0,yS m c=true
def uD (n:Int) (F0 P:List (List Int)):Prop:=P.getLast?=some []∧J6 F0 P∧(∀q∈P,clF n 0 q=true)∧oH P≤1048576∧P.length≤65537
structure RInv (n:Int) (F0:List (List Int)) (c:Nat) (s:Sol):Prop where
 inv:SInv n (F0++s.proof) s
 pl:s.proof.length=c
 acc:J6 F0 s.proof
 pcl:∀q∈s.proof,clF n 0 q=true
 li:s.literals=(oH s.proof:Int)
 l2:oH s.proof≤c*n.toNat
 l3:oH s.proof≤1048576
 ph:c≤phi n.toNat s.starts s.trail.length
abbrev RunS:=Int×Int×Int×Bool×List Int×List Int×List (Option Nat)×List Int×(List (List Nat)×List (List Int))×List Int×List Int×List Int×List Bool×List (List Int)
def yQ (c:Int) (s:Sol):RunS:=(c,s.head,s.literals,s.broken,s.value,s.level,s.reason,s.saved,s.watches,s.trail,s.starts,s.queue.list,s.queue.isin,s.proof)
noncomputable def E8 (p:Int) (s:RunS):=fE p s.1 s.2.1 s.2.2.1 s.2.2.2.1 s.2.2.2.2.1 s.2.2.2.2.2.1 s.2.2.2.2.2.2.1 s.2.2.2.2.2.2.2.1 s.2.2.2.2.2.2.2.2.1 s.2.2.2.2.2.2.2.2.2.1 s.2.2.2.2.2.2.2.2.2.2.1 s.2.2.2.2.2.2.2.2.2.2.2.1 s.2.2.2.2.2.2.2.2.2.2.2.2.1 s.2.2.2.2.2.2.2.2.2.2.2.2.2
theorem aG7 (p:List (List Int)) (q:List Int):oH (p++[q])=oH p+q.length:=by rw[litN_app];simp[oH]
theorem note_ok {s:Sol} {q o:List Int} (hq:q.length≤1073741824) (ho:normF q=(o,true)) (hp:s.proof.length≤1000000) (hol:o.length≤100000) {k:Nat} (hli:s.literals=(k:Int)) (hk:k≤1048576):
  kZ s q=some (decide (((k+o.length:Nat):Int)≤1048576),Sol.mk s.value s.level s.reason s.saved s.watches s.trail s.starts s.head s.queue (s.proof++[o]) ((k+o.length:Nat):Int) s.broken):=by
 unfold kZ
 rw[cnf_Normal hq,ho,bsm,oM (by simp;omega),bsm,hli]
 simp only
 rw[oG (show(k:Int)+(o.length:Int)=((k+o.length:Nat):Int) by omega) ⟨by omega,by omega⟩,bsm]
section
variable {n:Int} {F0:List (List Int)}
theorem model_of {F:List (List Int)} {st:List Int} {val lev:List Int} {rea:List (Option Nat)} {trail:List Int} {ws:List (List Nat)} {cl:List (List Int)} (h:Cor n F st (fun _ w=> -w∈trail) val lev rea trail ws cl) (hn:0≤n∧n≤65536) (hall:∀v:Int,1≤v→v≤n→val[v.toNat]?≠some 0) (hu:∀l,[l]∈F→l∈trail) (he: []∉F) (hF:∀c∈F,∀y∈c,y≠0∧vr y≤n):jG n F (val.drop 1):=by
 have hlen:=h.eng.vo.len
 have hget:∀(i:Nat) x,(val.drop 1)[i]?=some x→x=(i:Int)+1∨x= -((i:Int)+1):=fun i x hx=>by
  rw[List.getElem?_drop] at hx
  have hl:=dB hx
  rcases h.eng.vo.own _ x hx with rfl|⟨_,e⟩
  ·exact absurd (by rw[show(((1+i:Nat):Int)).toNat=1+i by omega];exact hx) (hall ((1+i:Nat):Int) (by omega) (by omega))
  have:=zV x
  omega
 refine⟨by rw[List.length_drop];omega,hget,fun c hc=>?_⟩
 have sat:∀y∈c,gv val y=some y→yS (val.drop 1) c=true:=fun y hy hg=>by
  unfold yS
  rw[List.any_eq_true]
  refine⟨y,hy,?_⟩
  have h1:=hF c hc y hy
  have h2:=jC y
  have h3:vr y≠0:=fun e=>h1.1 (oL.1 e)
  rw[decide_eq_true_eq,List.getElem?_drop,show 1+(vr y-1).toNat=(vr y).toNat by omega]
  exact hg
 have tru:∀y,y∈trail→gv val y=some y:=fun y hy=>((h.eng.tr y).1 hy).2
 match c,hc,sat with
 | [],hc,_=>exact absurd hc he
 | [x],hc,sat=>exact sat x (by simp) (tru x (hu x hc))
 |x::y::r,hc,sat=>
  rcases h.eng.closed (fun id w hw=>hw) (x::y::r) (mem_big.2 ⟨hc,by simp⟩) with⟨z,hz,hg⟩|⟨z,hz,_,_,_,hg,_⟩
  ·exact sat z hz hg
  have h1:=hF _ hc z hz
  have h2:=jC z
  have h3:vr z≠0:=fun e=>h1.1 (oL.1 e)
  exact absurd hg (hall (vr z) (by omega) h1.2)
theorem RInv.lt {c:Nat} {s:Sol} (h:RInv n F0 c s) (hn:0≤n):c+1≤2 ^ n.toNat:=by
 have h1:=h.inv.cor.eng.trailLen hn
 have h2:=phi_lt (n:=n.toNat) (st:=s.starts) s.trail.length (by omega)
 have h3:0<2 ^ (n.toNat-s.trail.length):=Nat.pow_pos (by decide)
 have:=h.ph
 omega
end
section
variable {n:Int} {F0:List (List Int)}
theorem clF_lits {F0 P:List (List Int)} (h0:∀c∈F0,tH n c) (hp:∀q∈P,clF n 0 q=true):∀c∈F0++P,tH n c:=fun c hc=>by
 rcases List.mem_append.1 hc with hc|hc
 ·exact h0 c hc
 exact clF_ok (hp c hc)
theorem step_decide {c:Nat} {val lev:List Int} {rea:List (Option Nat)} {sav:List Int} {W:List (List Nat)×List (List Int)} {tr st:List Int} {hd:Int} {q:Que} {pf:List (List Int)} {li:Int} {br:Bool} (hn:0≤n∧n≤65536) (h:RInv n F0 c (Sol.mk val lev rea sav W tr st hd q pf li br)) (hbr:br=false)
  {v2 l2 v3 l3:List Int} {r2 r3:List (Option Nat)} {ext:List Int} {W':List (List Nat)×List (List Int)} {q':Que} {x:Int} (hWl:W'.2.length=W.2.length)
  (hC:Cor n (F0++pf) (st++[((tr++ext).length:Int)]) (fun _ w=> -w∈tr++ext) v3 l3 r3 ((tr++ext)++[x]) W'.1 W'.2) (hst:∀b∈st,b<tr.length) (hq:QOk n q') (hu:Unq n v3 q'.list):
  RInv n F0 c (Sol.mk v3 l3 r3 sav W' ((tr++ext)++[x]) (st++[((tr++ext).length:Int)]) ((tr++ext).length:Int) q' pf li br):=by
 have hI:=h.inv
 have hpre:∀(k:Nat) (l:Int),tr[k]?=some l→((tr++ext)++[x])[k]?=some l:=fun k l hk=>by
  rw[List.append_assoc,List.getElem?_append_left (dB hk)];exact hk
 refine⟨⟨?_,⟨by show(0:Int)≤((tr++ext).length:Int);omega,by show((tr++ext).length:Int)≤(((tr++ext)++[x]).length:Int);rw[@List.length_append _ (tr++ext) _];omega,fun b hb=>?_⟩,hq,hu,hI.sv,fun _ l hl=>?_,hI.emp,hI.brk,by show W'.2.length≤_;rw[hWl];exact hI.cll⟩,h.pl,h.acc,h.pcl,h.li,h.l2,h.l3,?_⟩
 ·show Cor n (F0++pf) _ (fun _ w=> -w∈((tr++ext)++[x]).take ((tr++ext).length:Int).toNat) _ _ _ _ _ _
  rw[Int.toNat_natCast,List.take_left' rfl]
  exact hC
 ·have hb:b∈st++[((tr++ext).length:Int)]:=hb
  rw[List.mem_append,List.mem_singleton] at hb
  show b≤((tr++ext).length:Int)
  rcases hb with hb|hb
  ·have:=hst b hb
   rw[List.length_append];omega
  omega
 ·obtain⟨k,hk,hk2⟩:=hI.unit hbr l hl
  refine⟨k,hpre k l hk,?_⟩
  have hkl:=dB hk
  show lvl (st++[((tr++ext).length:Int)]) k=0
  rw[lvl_snoc (by rw[List.length_append];have:k<tr.length:=hkl;omega)]
  exact hk2
 have h1:=h.ph
 show c≤phi n.toNat (st++[((tr++ext).length:Int)]) ((tr++ext)++[x]).length
 have h2:phi n.toNat (st++[((tr++ext).length:Int)]) tr.length=phi n.toNat st tr.length:=phi_congr _ fun i hi=>by
  rw[List.mem_append,List.mem_singleton]
  exact⟨fun h=>h.resolve_right (by rw[List.length_append];omega),Or.inl⟩
 have h3:phi n.toNat (st++[((tr++ext).length:Int)]) tr.length≤phi n.toNat (st++[((tr++ext).length:Int)]) ((tr++ext)++[x]).length:=phi_mono (by simp)
 have h4:c≤phi n.toNat st tr.length:=h1
 omega
theorem step_learn {c:Nat} {val lev:List Int} {rea:List (Option Nat)} {sav:List Int} {W:List (List Nat)×List (List Int)} {tr st:List Int} {hd:Int} {q:Que} {pf:List (List Int)} {li:Int} {br:Bool} (hn:0≤n∧n≤65536) (h:RInv n F0 c (Sol.mk val lev rea sav W tr st hd q pf li br)) (hbr:br=false)
  {ext:List Int} {D:Nat→Int→Prop} {v2 l2:List Int} {r2:List (Option Nat)} {W2:List (List Nat)×List (List Int)} (hC0:Cor n (F0++pf) st D v2 l2 r2 (tr++ext) W2.1 W2.2) (hW2:W2.2.length=W.2.length)
  {qc o:List Int} {k:Nat} {b d:Int} (hL:Learned n (F0++pf) st (tr++ext) qc k) (hk:st[k]?=some b) (hA:Ahead n st (tr++ext) qc k b d) (ho:∀z,z∈o↔z∈qc) (hoc:clF n 0 o=true) (hol:(o.length:Int)≤n) (hl3:oH pf+o.length≤1048576)
  {v3 l3:List Int} {r3:List (Option Nat)} {W3:List (List Nat)×List (List Int)} {sv3:List Int} {q3:Que} {x:Option Nat}
  (hC:Cor n ((F0++pf)++[o]) (st.take k) (fun _ w=> -w∈(tr++ext).take b.toNat) (v3.set (vr (-d)).toNat (-d)) l3 r3 ((tr++ext).take b.toNat++[-d]) W3.1 W3.2) (hW3:W3.2.length≤W2.2.length+1) (hs3:SvOk n sv3) (hq3:QOk n q3) (hu3:Unq n v3 q3.list):
  RInv n F0 (c+1) (Sol.mk (v3.set (vr (-d)).toNat (-d)) l3 r3 sv3 W3 ((tr++ext).take b.toNat++[-d]) (st.take k) b q3 (pf++[o]) ((oH pf+o.length:Nat):Int) br):=by
 have hI:=h.inv
 have hb:=hC0.stb b (bK hk)
 have hkl:=dB hk
 have hd0:=hA.lit _ (bK hA.q0)
 have htl:=hC0.eng.trailLen hn.1
 have htk:((tr++ext).take b.toNat).length=b.toNat:=by rw[List.length_take];omega
 have sb:∀e∈st.take k,e<b:=fun e he=>by
  obtain⟨j,hj⟩:=List.getElem?_of_mem he
  rw[List.getElem?_take] at hj
  split at hj
  ·rename_i hjk
   have hjl:=dB hj
   have:=List.pairwise_iff_getElem.1 hC0.sts j k hjl hkl hjk
   rw[List.getElem?_eq_getElem hjl] at hj
   rw[List.getElem?_eq_getElem hkl] at hk
   rw[Option.some.inj hj,Option.some.inj hk] at this
   exact this
  cases hj
 have sb2:∀e∈st,e∉st.take k→b≤e:=fun e he hne=>by
  rw[←List.take_append_drop k st,List.mem_append] at he
  obtain⟨j,hj⟩:=List.getElem?_of_mem (he.resolve_left hne)
  rw[List.getElem?_drop] at hj
  by_cases e0:j=0
  ·subst e0
   rw[Nat.add_zero,hk] at hj
   rw[Option.some.inj hj];exact Int.le_refl _
  have hjl:=dB hj
  have:=List.pairwise_iff_getElem.1 hC0.sts k (k+j) hkl hjl (by omega)
  rw[List.getElem?_eq_getElem hjl] at hj
  rw[List.getElem?_eq_getElem hkl] at hk
  rw[Option.some.inj hj,Option.some.inj hk] at this
  omega
 have htake:((tr++ext).take b.toNat++[-d]).take b.toNat=(tr++ext).take b.toNat:=List.take_left' htk
 refine⟨⟨?_,⟨hb.1,?_,fun e he=>?_⟩,hq3,fun v hv1 hv2 hv0=>?_,hs3,fun _ l hl=>?_,fun _ hm=>?_,fun e=>?_,?_⟩,?_,?_,fun p hp=>?_,?_,?_,?_,?_⟩
 ·show Cor n (F0++(pf++[o])) (st.take k) (fun _ w=> -w∈((tr++ext).take b.toNat++[-d]).take b.toNat) _ _ _ _ _ _
  rw[htake,←List.append_assoc]
  exact hC
 ·show b≤(((tr++ext).take b.toNat++[-d]).length:Int)
  rw[List.length_append,htk];omega
 ·have:=sb e he
  show e≤b
  omega
 ·have hv0:(v3.set (vr (-d)).toNat (-d))[v.toNat]?=some 0:=hv0
  rcases dS hv0 with⟨_,e⟩|⟨_,hv0⟩
  ·exact absurd e.symm hd0.1
  exact hu3 v hv1 hv2 hv0
 ·have hl: [l]∈F0++(pf++[o]):=hl
  show ∃i:Nat,((tr++ext).take b.toNat++[-d])[i]?=some l∧lvl (st.take k) i=0
  rw[←List.append_assoc,List.mem_append,List.mem_singleton] at hl
  rcases hl with hl|hl
  ·obtain⟨i,hi,hi2⟩:=hI.unit hbr l hl
   have hi:tr[i]?=some l:=hi
   have hi2:lvl st i=0:=hi2
   have hib:i<b.toNat:=by
    rcases Nat.lt_or_ge i b.toNat with h5|h5
    ·exact h5
    have:=lvl_ge hC0.sts hk (show b≤(i:Int) by omega)
    omega
   refine⟨i,?_,?_⟩
   ·rw[List.getElem?_append_left (by omega),List.getElem?_take,if_pos hib,List.getElem?_append_left (dB hi)]
    exact hi
   rw[←lvl_lt hC0.sts hk (show(i:Int)<b by omega)]
   exact hi2
  have hqm:∀z,z∈qc↔z=l:=fun z=>by rw[←ho,←hl];simp
  have hql:qc.length≤1:=by
   rcases Nat.lt_or_ge 1 qc.length with h5|h5
   ·obtain⟨y1,hy1⟩:=bJ h5
    have e1:=(hqm _).1 (bK hy1)
    have e0:=(hqm _).1 (bK hA.q0)
    have:=nI hL.nd (hy1.trans (congrArg some e1)) (hA.q0.trans (congrArg some e0))
    omega
   exact h5
  have hk0:=hL.one hql
  have e0:=(hqm _).1 (bK hA.q0)
  refine⟨b.toNat,?_,?_⟩
  ·rw[List.getElem?_append_right (by omega),htk,Nat.sub_self,←e0];rfl
  have:k=0:=by omega
  subst this
  rfl
 ·have hm: []∈F0++(pf++[o]):=hm
  rw[←List.append_assoc,List.mem_append,List.mem_singleton] at hm
  rcases hm with hm|hm
  ·exact hI.emp hbr hm
  have:=(ho (-d)).2 (bK hA.q0)
  rw[←hm] at this
  simp at this
 ·have e:br=true:=e
  rw[hbr] at e;cases e
 ·show W3.2.length≤(F0++(pf++[o])).length
  have h1:W.2.length≤(F0++pf).length:=hI.cll
  rw[←List.append_assoc,List.length_append,List.length_singleton]
  omega
 ·show(pf++[o]).length=c+1
  have h1:pf.length=c:=h.pl
  rw[List.length_append,h1];rfl
 ·exact accP_snoc.2 ⟨h.acc,negs_mono (fun z=>(ho z).symm) hL.rup⟩
 ·have hp:p∈pf++[o]:=hp
  rw[List.mem_append,List.mem_singleton] at hp
  rcases hp with hp|rfl
  ·exact h.pcl p hp
  exact hoc
 ·show((oH pf+o.length:Nat):Int)=(oH (pf++[o]):Int)
  rw[aG7]
 ·show oH (pf++[o])≤(c+1)*n.toNat
  have h1:oH pf≤c*n.toNat:=h.l2
  rw[aG7,Nat.add_mul]
  omega
 ·show oH (pf++[o])≤1048576
  rw[aG7];exact hl3
 show c+1≤phi n.toNat (st.take k) ((tr++ext).take b.toNat++[-d]).length
 have h1:c≤phi n.toNat st tr.length:=h.ph
 have h2:phi n.toNat st tr.length≤phi n.toNat st (tr++ext).length:=phi_mono (by simp)
 have h3:=phi_back (n:=n.toNat) (st:=st) (su:=st.take k) (b:=b.toNat) (t:=(tr++ext).length) (by rw[Int.toNat_of_nonneg hb.1];exact bK hk) (by omega) (by omega) (fun i hi=>by
  constructor
  ·intro hm
   apply Classical.byContradiction
   intro hne
   have:=sb2 _ hm hne
   omega
  ·intro hm
   exact List.mem_of_mem_take hm) (fun hm=>by
  have:=sb _ hm
  omega)
 rw[List.length_append,htk]
 exact Nat.le_trans (Nat.succ_le_succ (Nat.le_trans h1 h2)) h3
end
theorem two_of:∀{o:List Int} {a b:Int},a∈o→b∈o→a≠b→2≤o.length
 | [],_,_,h,_,_=>by simp at h
 | [z],_,_,h1,h2,hne=>absurd ((List.mem_singleton.1 h1).trans (List.mem_singleton.1 h2).symm) hne
 |z::w::t,_,_,_,_,_=>by simp
theorem one_of:∀{o:List Int} {a:Int},a∈o→o.Nodup→(∀z∈o,z=a)→o=[a]
 | [],_,h,_,_=>by simp at h
 | [z],_,_,_,hz=>by rw[hz z (by simp)]
 |z::w::t,a,_,hnd,hz=>by
  have e1:=hz z (by simp)
  have e2:=hz w (by simp)
  rw[e1,e2] at hnd
  simp at hnd
section
variable {n:Int} {F0:List (List Int)}
def ConfOut (n:Int) (F0:List (List Int)) (c:Nat) (o:Option (Step RunS (Out (Int×Int×Bool×List Int×List Int×List (Option Nat)×List Int×(List (List Nat)×List (List Int))×List Int×List Int×List Int×List Bool×List (List Int)) Answer))):Prop:=
 (∃P,o=some (.done (.ret (Answer.mk 1 [] P ((c+1:Nat):Int))))∧uD n F0 P)∨(o=some (.done (.ret (Answer.mk 2 [] [] ((c+1:Nat):Int))))∧1048576<(c+1)*n.toNat)∨(∃s',o=some (.next (yQ ((c+1:Nat):Int) s'))∧RInv n F0 (c+1) s')
theorem proof_end {c:Nat} {pf:List (List Int)} (hacc:J6 F0 pf) (hpc:∀q∈pf,clF n 0 q=true) (hl:oH pf≤1048576) (hpl:pf.length≤65536) (hf:Fails (F0++pf) []):uD n F0 (pf++[[]]):=by
 refine⟨by simp,accP_snoc.2 ⟨hacc,hf⟩,fun q hq=>?_,by rw[aG7];simpa using hl,by simp;omega⟩
 rw[List.mem_append,List.mem_singleton] at hq
 rcases hq with hq|rfl
 ·exact hpc q hq
 rfl
set_option maxHeartbeats 2000000 in
theorem run_step (hn:0≤n∧n≤65536) (hF0:F0.length≤800000) (hcl:∀c∈F0,tH n c) {c:Nat} (hc:c≤65536) {s:Sol} (h:RInv n F0 c s):
  (∃s',(∀p,E8 p (yQ (c:Int) s)=some (.next (yQ (c:Int) s')))∧RInv n F0 c s'∧s.trail.length<s'.trail.length)∨
  (∃m,(∀p,E8 p (yQ (c:Int) s)=some (.done (.ret (Answer.mk 0 m [] (c:Int)))))∧jG n F0 m)∨
  (∃o,(∀p,E8 p (yQ (c:Int) s)=if(decide ((c:Int)=p))=true then some (.done (.ret (Answer.mk 2 [] [] (c:Int)))) else o)∧ConfOut n F0 c o):=by
 obtain⟨val,lev,rea,sav,W,tr,st,hd,⟨ql,qi⟩,pf,li,br⟩:=s
 have hI:=h.inv
 have hlits:∀c∈F0++pf,tH n c:=clF_lits hcl h.pcl
 have hpl:pf.length=c:=h.pl
 have hli:li=(oH pf:Int):=h.li
 have hl3:oH pf≤1048576:=h.l3
 have hcll:W.2.length≤(F0++pf).length:=hI.cll
 have hFl:(F0++pf).length≤900000:=by rw[List.length_append];omega
 obtain⟨hdn,rfl⟩:∃k:Nat,hd=k:=⟨hd.toNat,by have:0≤hd:=hI.hd.1;omega⟩
 have hhd:hdn≤tr.length:=by have:(hdn:Int)≤tr.length:=hI.hd.2.1;omega
 have hstb:∀b∈st,b≤(hdn:Int):=hI.hd.2.2
 have hcor:Cor n (F0++pf) st (fun _ w=> -w∈tr.take hdn) val lev rea tr W.1 W.2:=by
  have:=hI.cor
  simpa only[Int.toNat_natCast] using this
 obtain⟨r,v1,l1,r1,ext,W1,h1,e1,hW1,hcase⟩:=spropagate_ok (s:=Sol.mk val lev rea sav W tr st (hdn:Int) (Que.mk ql qi) pf li br) (h:=hdn) hn (by show W.2.length≤_;omega) rfl rfl hstb hcor hhd
 simp only at e1 hW1 hcase
 have hsv:SvOk n sav:=hI.sv
 have hq:QOk n (Que.mk ql qi):=hI.q
 have hun1:Unq n v1 ql:=by
  have key:∀{D:Nat→Int→Prop},Cor n (F0++pf) st D v1 l1 r1 (tr++ext) W1.1 W1.2→Unq n v1 ql:=fun hC v hv1 hv2 hv0=>by
   refine hI.un v hv1 hv2 ?_
   show val[v.toNat]?=some 0
   obtain⟨y,hy⟩:=bJ (show v.toNat<val.length by have:=hcor.eng.vo.len;omega)
   rcases hcor.eng.vo.own _ y hy with rfl|⟨hy0,hyv⟩
   ·exact hy
   have hg:gv val y=some y:=by unfold gv;rw[show(vr y).toNat=v.toNat by omega];exact hy
   have hm:y∈tr:=(hcor.eng.tr y).2 ⟨hy0,hg⟩
   have h2:=((hC.eng.tr y).1 (List.mem_append_left ext hm)).2
   unfold gv at h2
   rw[show(vr y).toNat=v.toNat by omega,hv0] at h2
   exact absurd (Option.some.inj h2).symm hy0
  rcases hcase with⟨_,_,hC⟩|⟨_,_,_,D,hC⟩
  ·exact key hC
  exact key hC
 by_cases hA:r=none∧br=false
 ·
  obtain⟨rfl,rfl⟩:=hA
  obtain⟨_,rfl,hC⟩:none=none∧h1=((tr++ext).length:Int)∧Cor n (F0++pf) st (fun _ w=> -w∈tr++ext) v1 l1 r1 (tr++ext) W1.1 W1.2:=by
   rcases hcase with h|⟨id,e,_⟩
   ·exact h
   cases e
  rcases sdecide_ok (s:=Sol.mk v1 l1 r1 sav W1 (tr++ext) st ((tr++ext).length:Int) (Que.mk ql qi) pf li false) hC hn hsv hq hun1 with⟨v3,l3,r3,q3,x,e2,hC3,hq3,hu3⟩|⟨q3,e2,hall⟩
  ·simp only at e2 hC3
   refine Or.inl ⟨Sol.mk v3 l3 r3 sav W1 ((tr++ext)++[x]) (st++[((tr++ext).length:Int)]) ((tr++ext).length:Int) q3 pf li false,fun p=>?_,step_decide hn h rfl hW1 hC3 (fun b hb=>(hcor.stb b hb).2) hq3 hu3 (v2:=v1) (l2:=l1) (r2:=r1),by show tr.length<((tr++ext)++[x]).length;simp⟩
   unfold E8 yQ fE
   simp only
   rw[e1,bsm]
   simp only
   rw[if_pos (show((none:Option Nat).isNone&& !false)=true from rfl),e2,bsm]
   simp only
   rw[if_pos trivial,bsm]
  simp only at e2 hall
  have hmo:=model_of hC hn hall (fun l hl=>by
   obtain⟨k,hk,_⟩:=hI.unit rfl l hl
   exact List.mem_append_left _ (bK hk)) (hI.emp rfl) (fun c hc=>(hlits c hc).1)
  refine Or.inr (Or.inl ⟨v1.drop 1,fun p=>?_,hmo.1,hmo.2.1,fun c hc=>hmo.2.2 c (List.mem_append_left _ hc)⟩)
  have hvl:=hC.eng.vo.len
  have hs:sub v1 1 (v1.length:Int)=some (v1.drop 1):=by rw[wI (by decide) (by omega) (by omega),Int.toNat_natCast,List.take_length];rfl
  unfold E8 yQ fE
  simp only
  rw[e1,bsm]
  simp only
  rw[if_pos (show((none:Option Nat).isNone&& !false)=true from rfl),e2,bsm]
  simp only
  rw[if_neg (by decide),hs,bsm,oM (by simp;omega),bsm,List.nil_append,bsm]
 refine Or.inr (Or.inr ?_)
 have hif:¬((r.isNone&& !br)=true):=by
  intro e
  rw[Bool.and_eq_true] at e
  refine hA ⟨by cases r with|none=>rfl|some _=>exact absurd e.1 (by simp),by cases br with|false=>rfl|true=>exact absurd e.2 (by simp)⟩
 have hup:inK .i64 ((c:Int)+1)=some ((c+1:Nat):Int):=oG rfl ⟨by omega,by omega⟩
 by_cases hB:br=true∨st=[]
 ·
  have hf:Fails (F0++pf) []:=by
   rcases hB with hB|hB
   ·exact hI.brk hB
   subst hB
   rcases hcase with⟨rfl,_⟩|⟨id,rfl,hcl2,D,hC⟩
   ·cases br with
    |false=>exact absurd ⟨rfl,rfl⟩ hA
    |true=>exact hI.brk rfl
   exact clash_zero hC hcl2
  refine⟨_,fun p=>?_,Or.inl ⟨pf++[[]],rfl,proof_end (c:=c) h.acc h.pcl hl3 (by omega) hf⟩⟩
  have hnt:=note_ok (s:=Sol.mk v1 l1 r1 sav W1 (tr++ext) st h1 (Que.mk ql qi) pf li br) (q:=[]) (o:=[]) (by simp) rfl (by show pf.length≤_;omega) (by simp) hli hl3
  unfold E8 yQ fE
  simp only
  rw[e1,bsm]
  simp only
  rw[if_neg hif]
  by_cases hcp:(decide ((c:Int)=p))=true
  ·rw[if_pos hcp,if_pos hcp,bsm]
  rw[if_neg hcp,if_neg hcp,hup,bsm,if_pos (by
   rcases hB with hB|hB
   ·rw[hB];rfl
   rw[hB];simp),hnt,bsm,bsm]
 have hbr:br=false:=by cases br with|false=>rfl|true=>exact absurd (Or.inl rfl) hB
 subst hbr
 have hst:st≠[]:=fun e=>hB (Or.inr e)
 obtain⟨id,rfl,hclash,D,hC⟩:∃id,r=some id∧Clash st (tr++ext) W1.2 id∧∃D,Cor n (F0++pf) st D v1 l1 r1 (tr++ext) W1.1 W1.2:=by
  rcases hcase with⟨rfl,_⟩|h
  ·exact absurd ⟨rfl,rfl⟩ hA
  exact h
 obtain⟨qc,back,e2,hL⟩:=slearn_ok hC hn (p0:=Sol.mk v1 l1 r1 sav W1 (tr++ext) st h1 (Que.mk ql qi) pf li false) rfl rfl rfl rfl rfl hst hclash
 obtain⟨k,rfl⟩:∃k:Nat,back=k:=⟨back.toNat,by have:=hL.bk.1;omega⟩
 obtain⟨b,hk⟩:=bJ (show k<st.length by have:=hL.bk.2;omega)
 obtain⟨d,hAh⟩:=hL.ahead hC hk
 have hlq:∀y∈qc,y≠0∧vr y≤n:=fun y hy=>⟨(hL.lit y hy).1,(hL.lit y hy).2.1⟩
 obtain⟨o,ho1,ho2,ho3,ho4⟩:=normal_of hn hlq (fun y hy hm=>hC.eng.opp (hL.lit _ hm).2.2 (by rw[Int.neg_neg];have:=(hL.lit _ hy).2.2;exact(hC.eng.opp this (by rw[Int.neg_neg];have:=(hL.lit _ hm).2.2;rwa [Int.neg_neg] at this)).elim))
 have hqcl:qc.length≤131074:=tH.len ⟨hlq,hL.nd⟩ hn
 have hnt:=note_ok (s:=Sol.mk v1 l1 r1 sav W1 (tr++ext) st h1 (Que.mk ql qi) pf li false) (q:=qc) (o:=o) (by omega) ho1 (by show pf.length≤_;omega) (by omega) hli hl3
 simp only at hnt
 by_cases hov:oH pf+o.length≤1048576
 ·obtain⟨v3,r3,sv3,q3,e3,hC3,hs3,hq3,hu3⟩:=sundo_ok (s:=Sol.mk v1 l1 r1 sav W1 (tr++ext) st h1 (Que.mk ql qi) (pf++[o]) ((oH pf+o.length:Nat):Int) false) hC hn hsv hq hun1 hk
  simp only at e3 hC3
  have hdl:=hlq _ (bK hAh.q0)
  have hdb:=nS.1 hdl.2
  have hlvk:((st.take k).length:Int)=((st.take k).length:Int):=rfl
  by_cases hql:1<qc.length
  ·
   obtain⟨a2,i,y1,i1,i2,i3⟩:=hAh.q1 hql
   have ha2:=hlq _ (bK y1)
   have hab:=nS.1 ha2.2
   have hne: -d≠a2:=fun e=>by have:=nI hL.nd hAh.q0 (e▸y1);omega
   obtain⟨Ra,hRa⟩:=hC3.eng.rowAt hdl.2
   obtain⟨Rb,hRb⟩:=hC3.eng.rowAt ha2.2
   have hRal:=hC3.eng.rowLen hRa
   have hRbl:=hC3.eng.rowLen hRb
   have ho22:2≤o.length:=by
    have m1:=(ho2 _).2 (bK hAh.q0)
    have m2:=(ho2 _).2 (bK y1)
    exact two_of m1 m2 hne
   have hC4:=hC3.learnt hAh rfl (Nat.le_of_lt (dB hk)) hql hL.nd (fun z=>(ho2 z).symm) ho22 y1 hRa hRb
   have hsetW:(W1.2++[qc]).set W1.2.length qc=W1.2++[qc]:=set_self (by simp)
   have hwt:=swatch_ok (s:=Sol.mk v3 l1 r3 sv3 (W1.1,W1.2++[qc]) ((tr++ext).take b.toNat) (st.take k) b q3 (pf++[o]) ((oH pf+o.length:Nat):Int) false) (id:=W1.2.length) (d:=qc) (by simp) hAh.q0 y1 hne ⟨by omega,by omega⟩ ⟨by omega,by omega⟩ hRa hRb (by omega) (by omega)
   simp only at hwt
   have hC3':Cor n (F0++pf) (st.take k) (fun _ w=> -w∈(tr++ext).take b.toNat) v3 l1 r3 ((tr++ext).take b.toNat) W1.1 W1.2:=hC3
   have hnewc:(W1.2++[qc])[W1.2.length]?=some qc:=by simp
   have hhold:=P9 (s:=Sol.mk v3 l1 r3 sv3 ((W1.1.set (ixL (-d)) (Ra++[W1.2.length])).set (ixL a2) (Rb++[W1.2.length]),W1.2++[qc]) ((tr++ext).take b.toNat) (st.take k) b q3 (pf++[o]) ((oH pf+o.length:Nat):Int) false) hC3' hdl.2 hn.2 hn.1 (some W1.2.length) rfl rfl rfl rfl
   simp only at hhold
   refine⟨_,fun p=>?_,Or.inr (Or.inr ⟨_,rfl,step_learn hn h rfl hC hW1 hL hk hAh ho2 ho3 ho4 hov hC4 (W3:=((W1.1.set (ixL (-d)) (Ra++[W1.2.length])).set (ixL a2) (Rb++[W1.2.length]),W1.2++[qc])) (by simp) hs3 hq3 hu3 (x:=none)⟩)⟩
   unfold E8 yQ fE
   simp only
   rw[e1,bsm]
   simp only
   rw[if_neg hif]
   by_cases hcp:(decide ((c:Int)=p))=true
   ·rw[if_pos hcp,if_pos hcp,bsm]
   rw[if_neg hcp,if_neg hcp,hup,bsm,if_neg (by simp;exact hst),e2,bsm]
   simp only
   rw[hnt,bsm]
   simp only
   rw[if_neg (by simp;omega),e3,bsm]
   simp only
   rw[if_pos (by rw[decide_eq_true_eq];omega),hC3.put,bsm,hC3.idsQ,bsm]
   simp only[hsetW]
   rw[hwt,bsm]
   simp only
   rw[hnewc,bsm,show idx qc 0=some (-d) from jR (by decide) hAh.q0,bsm,hhold,bsm,bsm]
  have hk0:k=0:=by have:=hL.one (by omega);omega
  subst hk0
  have hoe:o=[-d]:=by
   have hqe:∀z∈qc,z= -d:=fun z hz=>by
    obtain⟨j,hj⟩:=List.getElem?_of_mem hz
    have:j=0:=by have:=dB hj;omega
    subst this
    exact Option.some.inj (hj.symm.trans hAh.q0)
   have m1:=(ho2 _).2 (bK hAh.q0)
   have hnd:=clF_nodup (Int.le_refl 0) ho3
   exact one_of m1 hnd fun z hz=>hqe z ((ho2 z).1 hz)
  have hC4:=hC3.learnt1 hAh rfl hoe
  have hhold:=P9 (s:=Sol.mk v3 l1 r3 sv3 W1 ((tr++ext).take b.toNat) (st.take 0) b q3 (pf++[o]) ((oH pf+o.length:Nat):Int) false) hC3 hdl.2 hn.2 hn.1 none rfl rfl rfl rfl
  simp only at hhold
  refine⟨_,fun p=>?_,Or.inr (Or.inr ⟨_,rfl,step_learn hn h rfl hC hW1 hL hk hAh ho2 ho3 ho4 hov hC4 (W3:=W1) (by omega) hs3 hq3 hu3 (x:=none)⟩)⟩
  unfold E8 yQ fE
  simp only
  rw[e1,bsm]
  simp only
  rw[if_neg hif]
  by_cases hcp:(decide ((c:Int)=p))=true
  ·rw[if_pos hcp,if_pos hcp,bsm]
  rw[if_neg hcp,if_neg hcp,hup,bsm,if_neg (by simp;exact hst),e2,bsm]
  simp only
  rw[hnt,bsm]
  simp only
  rw[if_neg (by simp;omega),e3,bsm]
  simp only
  rw[if_neg (by rw[decide_eq_true_eq];omega),show idx qc 0=some (-d) from jR (by decide) hAh.q0,bsm,hhold,bsm,bsm]
 have h2:oH pf≤c*n.toNat:=h.l2
 refine⟨_,fun p=>?_,Or.inr (Or.inl ⟨rfl,by rw[Nat.add_mul];omega⟩)⟩
 unfold E8 yQ fE
 simp only
 rw[e1,bsm]
 simp only
 rw[if_neg hif]
 by_cases hcp:(decide ((c:Int)=p))=true
 ·rw[if_pos hcp,if_pos hcp,bsm]
 rw[if_neg hcp,if_neg hcp,hup,bsm,if_neg (by simp;exact hst),e2,bsm]
 simp only
 rw[hnt,bsm]
 simp only
 rw[if_pos (by simp;omega),bsm]
end
def AOk (n:Int) (F0:List (List Int)) (p:Int) (a:Answer):Prop:=
 0≤a.conflicts∧a.conflicts≤p∧a.conflicts≤((2 ^ n.toNat:Nat):Int)∧((a.kind=0∧a.proof=[]∧jG n F0 a.model)∨(a.kind=1∧a.model=[]∧uD n F0 a.proof)∨(a.kind=2∧a.model=[]∧a.proof=[]∧((a.conflicts=p∧p<((2 ^ n.toNat:Nat):Int))∨1048576<a.conflicts.toNat*n.toNat)))
def ARel (a b:Answer):Prop:=(a.kind≠2→a=b)∧(a.kind=2→b.kind=2∨a.conflicts≤b.conflicts)∧(b.kind=2→a.kind=2)
section
variable {n:Int} {F0:List (List Int)}
theorem RInv.trl {c:Nat} {s:Sol} (h:RInv n F0 c s) (hn:0≤n):s.trail.length≤n.toNat:=by
 have:=h.inv.cor.eng.trailLen hn
 omega
theorem model_aok {c:Nat} {s:Sol} (h:RInv n F0 c s) (hn:0≤n∧n≤65536) {p:Int} (hcp:(c:Int)≤p) {m:List Int} (hm:jG n F0 m):AOk n F0 p (Answer.mk 0 m [] (c:Int)):=by
 have:=h.lt hn.1
 exact⟨by show(0:Int)≤c;omega,hcp,by show(c:Int)≤_;omega,Or.inl ⟨rfl,rfl,hm⟩⟩
theorem budget_aok {c:Nat} {s:Sol} (h:RInv n F0 c s) (hn:0≤n∧n≤65536) {p:Int} (hcp:(c:Int)=p):AOk n F0 p (Answer.mk 2 [] [] (c:Int)):=by
 have:=h.lt hn.1
 exact⟨by show(0:Int)≤c;omega,by show(c:Int)≤p;omega,by show(c:Int)≤_;omega,Or.inr (Or.inr ⟨rfl,rfl,rfl,Or.inl ⟨hcp,by omega⟩⟩)⟩
theorem proof_aok {c:Nat} {s:Sol} (h:RInv n F0 c s) (hn:0≤n∧n≤65536) {p:Int} (hcp:((c+1:Nat):Int)≤p) {P:List (List Int)} (hP:uD n F0 P):AOk n F0 p (Answer.mk 1 [] P ((c+1:Nat):Int)):=by
 have:=h.lt hn.1
 exact⟨by show(0:Int)≤((c+1:Nat):Int);omega,hcp,by show((c+1:Nat):Int)≤_;omega,Or.inr (Or.inl ⟨rfl,rfl,hP⟩)⟩
theorem over_aok {c:Nat} {s:Sol} (h:RInv n F0 c s) (hn:0≤n∧n≤65536) {p:Int} (hcp:((c+1:Nat):Int)≤p) (ho:1048576<(c+1)*n.toNat):AOk n F0 p (Answer.mk 2 [] [] ((c+1:Nat):Int)):=by
 have:=h.lt hn.1
 exact⟨by show(0:Int)≤((c+1:Nat):Int);omega,hcp,by show((c+1:Nat):Int)≤_;omega,Or.inr (Or.inr ⟨rfl,rfl,rfl,Or.inr (by show 1048576<(((c+1:Nat):Int)).toNat*n.toNat;rw[Int.toNat_natCast];exact ho)⟩)⟩
theorem mea_dec {P N c t t':Nat} (h:t<t') (h2:t'≤N):(P-c)*(N+2)+(N+1-t')<(P-c)*(N+2)+(N+1-t):=by omega
theorem mea_conf {P N c t t':Nat} (h:c<P):(P-(c+1))*(N+2)+(N+1-t')<(P-c)*(N+2)+(N+1-t):=by
 have e:P-c=(P-(c+1))+1:=by omega
 rw[e,Nat.add_mul]
 omega
theorem run1 (hn:0≤n∧n≤65536) (hF0:F0.length≤800000) (hcl:∀c∈F0,tH n c) {p:Int} (hp:p≤65536):∀(m c:Nat) (s:Sol),(p.toNat-c)*(n.toNat+2)+(n.toNat+1-s.trail.length)≤m→(c:Int)≤p→RInv n F0 c s→
  ∃a,dC (E8 p) (yQ (c:Int) s)=some (.ret a)∧AOk n F0 p a∧(c:Int)≤a.conflicts:=by
 intro m
 induction m with
 |zero=>
  intro c s hm hcp h
  have:=h.trl hn.1
  omega
 |succ m ih=>
  intro c s hm hcp h
  rcases run_step hn hF0 hcl (show c≤65536 by omega) h with⟨s',h1,h2,h3⟩|⟨md,h1,h2⟩|⟨o,h1,h2⟩
  ·obtain⟨a,e1,e2⟩:=ih c s' (by have:=mea_dec (P:=p.toNat) (c:=c) h3 (h2.trl hn.1);omega) hcp h2
   exact⟨a,by rw[fQ (h1 p)];exact e1,e2⟩
  ·exact⟨_,dW (h1 p),model_aok h hn hcp h2,Int.le_refl _⟩
  by_cases hc:(c:Int)=p
  ·exact⟨_,dW (by rw[h1 p,if_pos (by simpa using hc)]),budget_aok h hn hc,Int.le_refl _⟩
  have h1':E8 p (yQ (c:Int) s)=o:=by rw[h1 p,if_neg (by simpa using hc)]
  have hc1:((c+1:Nat):Int)≤p:=by omega
  rcases h2 with⟨P,rfl,hP⟩|⟨rfl,ho⟩|⟨s',rfl,hs'⟩
  ·exact⟨_,dW h1',proof_aok h hn hc1 hP,by show(c:Int)≤((c+1:Nat):Int);omega⟩
  ·exact⟨_,dW h1',over_aok h hn hc1 ho,by show(c:Int)≤((c+1:Nat):Int);omega⟩
  obtain⟨a,e1,e2,e3⟩:=ih (c+1) s' (by have:=mea_conf (P:=p.toNat) (N:=n.toNat) (c:=c) (t:=s.trail.length) (t':=s'.trail.length) (by omega);omega) hc1 hs'
  exact⟨a,by rw[fQ h1'];exact e1,e2,by omega⟩
theorem arel_rfl (a:Answer):ARel a a:=⟨fun _=>rfl,fun h=>Or.inl h,fun h=>h⟩
theorem run2 (hn:0≤n∧n≤65536) (hF0:F0.length≤800000) (hcl:∀c∈F0,tH n c) {p q:Int} (hpq:p≤q) (hq:q≤65536):∀(m c:Nat) (s:Sol),(q.toNat-c)*(n.toNat+2)+(n.toNat+1-s.trail.length)≤m→(c:Int)≤p→RInv n F0 c s→
  ∃a b,dC (E8 p) (yQ (c:Int) s)=some (.ret a)∧dC (E8 q) (yQ (c:Int) s)=some (.ret b)∧AOk n F0 p a∧AOk n F0 q b∧ARel a b:=by
 intro m
 induction m with
 |zero=>
  intro c s hm hcp h
  have:=h.trl hn.1
  omega
 |succ m ih=>
  intro c s hm hcp h
  have hcq:(c:Int)≤q:=by omega
  rcases run_step hn hF0 hcl (show c≤65536 by omega) h with⟨s',h1,h2,h3⟩|⟨md,h1,h2⟩|⟨o,h1,h2⟩
  ·obtain⟨a,b,e1,e2,e3⟩:=ih c s' (by have:=mea_dec (P:=q.toNat) (c:=c) h3 (h2.trl hn.1);omega) hcp h2
   exact⟨a,b,by rw[fQ (h1 p)];exact e1,by rw[fQ (h1 q)];exact e2,e3⟩
  ·exact⟨_,_,dW (h1 p),dW (h1 q),model_aok h hn hcp h2,model_aok h hn hcq h2,arel_rfl _⟩
  by_cases hc:(c:Int)=p
  ·obtain⟨b,e1,e2,e3⟩:=run1 hn hF0 hcl hq _ c s (Nat.le_refl _) hcq h
   exact⟨_,b,dW (by rw[h1 p,if_pos (by simpa using hc)]),e1,budget_aok h hn hc,e2,fun e=>absurd rfl e,fun _=>Or.inr e3,fun _=>rfl⟩
  have h1':E8 p (yQ (c:Int) s)=o:=by rw[h1 p,if_neg (by simpa using hc)]
  have h2':E8 q (yQ (c:Int) s)=o:=by rw[h1 q,if_neg (by simp;omega)]
  have hc1:((c+1:Nat):Int)≤p:=by omega
  have hc2:((c+1:Nat):Int)≤q:=by omega
  rcases h2 with⟨P,rfl,hP⟩|⟨rfl,ho⟩|⟨s',rfl,hs'⟩
  ·exact⟨_,_,dW h1',dW h2',proof_aok h hn hc1 hP,proof_aok h hn hc2 hP,arel_rfl _⟩
  ·exact⟨_,_,dW h1',dW h2',over_aok h hn hc1 ho,over_aok h hn hc2 ho,arel_rfl _⟩
  obtain⟨a,b,e1,e2,e3⟩:=ih (c+1) s' (by have:=mea_conf (P:=q.toNat) (N:=n.toNat) (c:=c) (t:=s.trail.length) (t':=s'.trail.length) (by omega);omega) hc1 hs'
  exact⟨a,b,by rw[fQ h1'];exact e1,by rw[fQ h2'];exact e2,e3⟩
theorem srun_ok (hn:0≤n∧n≤65536) (hF0:F0.length≤800000) (hcl:∀c∈F0,tH n c) {p q:Int} (hp:0≤p) (hpq:p≤q) (hq:q≤65536) {s:Sol} (h:RInv n F0 0 s):
  ∃a b,fJ s p=some a∧fJ s q=some b∧AOk n F0 p a∧AOk n F0 q b∧ARel a b:=by
 obtain⟨a,b,e1,e2,e3⟩:=run2 hn hF0 hcl hpq hq _ 0 s (Nat.le_refl _) (by omega) h
 refine⟨a,b,?_,?_,e3⟩
 ·have e1:dC (E8 p) (yQ 0 s)=some (.ret a):=e1
  show(dC (E8 p) (yQ 0 s)).bind _=_
  rw[e1,bsm]
 have e2:dC (E8 q) (yQ 0 s)=some (.ret b):=e2
 show(dC (E8 q) (yQ 0 s)).bind _=_
 rw[e2,bsm]
end
def xA (f:Formula) (l:List Int) (p:Int):Bool:=decide (0≤p)&&decide (p≤65536)&&lH f&&l.all (sOk f.vars)
theorem fits1_ok {f:Formula} (hv:0≤f.vars∧f.vars≤65536) (x:Int):qR x f=some (!sOk f.vars x):=by
 unfold qR sOk
 by_cases h0:x=0
 ·rw[if_pos (by simpa using h0),bsm];simp[h0]
 rw[if_neg (by simpa using h0),oG (show 0-f.vars= -f.vars by omega) ⟨by omega,by omega⟩,bsm,bsm]
 congr 1
 by_cases h1:x< -f.vars
 ·have:¬ -f.vars≤x:=by omega
  simp[h0,h1,this]
 by_cases h2:f.vars<x
 ·have:¬x≤f.vars:=by omega
  simp[h0,h1,h2,this]
 have a: -f.vars≤x:=by omega
 have b:x≤f.vars:=by omega
 simp[h0,h1,h2,a,b]
theorem fits_ok {f:Formula} {l:List Int} {p:Int} (hf:FLen f.clauses) (hl:l.length≤9223372036854775807):qX f l p=some (xA f l p):=by
 unfold qX xA
 by_cases hp:0≤p∧p≤65536
 ·have e1:(decide (0≤p)&&decide (p≤65536))=true:=by simp[hp]
  rw[if_pos e1,cnf_valid hf,bsm,bsm,e1,Bool.true_and]
  cases hv:lH f with
  |false=>rw[if_neg (by decide),bsm];rfl
  |true=>
   have hb:=oC hv
   rw[if_pos rfl]
   have hc:fP l f=some (l.any fun x=> !sOk f.vars x):=by
    unfold fP jA
    have h:=scan_loop (body:=fun s=>fH l f s) l (fun x=> !sOk f.vars x) (fun k _=>Out.ret (k:Int)) (Out.brk ()) (by
     intro k a hk
     simp only[fH,ltB (dB hk),if_true,dA hk,bsm,fits1_ok ⟨hb.1,hb.2.1⟩,jD (dB hk) hl]
     cases sOk f.vars a<;>rfl) (by simp only[fH,rX,if_false,Bool.false_eq_true])
    rcases h with⟨k,a,_,_,_,h2,_,e⟩|⟨_,h2,_,e⟩
    ·rw[e,h2];simp
    rw[e,h2];simp
   rw[hc,bsm,bsm,Bool.true_and,List.all_eq_not_any_not]
 have e1:¬(decide (0≤p)&&decide (p≤65536))=true:=by simp;omega
 rw[if_neg e1,bsm,if_neg (by decide),bsm,Bool.eq_false_iff.2 e1]
 rfl
theorem tY {f:Formula} {l:List Int} {p:Int}:xA f l p=true↔(0≤p∧p≤65536)∧lH f=true∧∀x∈l,sOk f.vars x=true:=by
 unfold xA
 simp only[Bool.and_eq_true,decide_eq_true_eq,List.all_eq_true]
 exact⟨fun⟨⟨a,b⟩,c⟩=>⟨a,b,c⟩,fun⟨a,b,c⟩=>⟨⟨a,b⟩,c⟩⟩
theorem rfits_ok {f:Formula} {l:List Int} {p:Int} (hf:FLen f.clauses) (hl:l.length≤9223372036854775807):kX f l p=some (xA f l p):=by
 unfold kX
 rw[ref_valid hf,bsm]
 by_cases h:(((!lH f)||(decide (p<0)))||(decide (65536<p)))=true
 ·rw[if_pos h]
  congr 1
  symm
  rw[Bool.eq_false_iff]
  intro e
  obtain⟨h1,h2,_⟩:=tY.1 e
  rw[h2] at h
  simp at h
  omega
 rw[if_neg h]
 simp only[Bool.or_eq_true,decide_eq_true_eq,not_or,Bool.not_eq_true',Bool.not_eq_false] at h
 obtain⟨⟨hv,h1⟩,h2⟩:=h
 have hb:=oC hv
 refine xQ l (fun x=> !sOk f.vars x) (Out.ret false) (Out.brk ()) ?_ ?_ ?_
 ·intro k a hk
  have hlt:=dB hk
  have e:sub l (k:Int) ((k+1:Nat):Int)=some [a]:=by
   rw[wI (by omega) (by omega) (by omega),Int.toNat_natCast,Int.toNat_natCast,dZ hk,List.drop_left' (by rw[List.length_take];omega)]
  simp only[mW,ltB hlt,if_true,jD hlt hl,bsm,e,aH0 (c:=[a]) (v:=f.vars) ⟨hb.1,by omega⟩ (by simp),clF_one]
  cases sOk f.vars a<;>rfl
 ·simp only[mW,rX,if_false,Bool.false_eq_true]
 have e:xA f l p=l.all (sOk f.vars):=by
  unfold xA
  rw[hv]
  have:(decide (0≤p)&&decide (p≤65536))=true:=by simp;omega
  rw[this];simp
 rw[e,tV]
 cases l.all (sOk f.vars)<;>rfl
theorem with_ok {f:Formula} {c:List Int} (h:f.clauses.length+1≤4294967296):mZ f c=some ⟨f.vars,f.clauses++[c]⟩:=by
 unfold mZ
 rw[oM (by simpa using h),bsm]
theorem with28_ok {f:Formula} {l:List Int} (h:f.clauses.length+l.length≤4294967296):jI f l=some ⟨f.vars,f.clauses++ones l⟩:=by
 unfold jI
 obtain⟨b,hb,rfl⟩:=uV (body:=fun s:Int×Int×List (List Int)=>kQ l s.1 s.2.1 s.2.2) (s0:=(0,f.vars,f.clauses)) l.length (fun k t=>((k:Int),f.vars,t)) (fun k t=>t=f.clauses++ones (l.take k)) (fun b=>b=(f.vars,f.clauses++ones l)) (t0:=f.clauses) rfl (by simp[ones]) (by
  rintro k t hk rfl
  obtain⟨x,hx⟩:=bJ hk
  refine Or.inl ⟨f.clauses++ones (l.take (k+1)),?_,rfl⟩
  have hl:(f.clauses++ones (l.take k)).length+1≤4294967296:=by unfold ones;rw[List.length_append,List.length_map,List.length_take];omega
  simp only[kQ,ltB hk,if_true,dA hx,bsm,with_ok (f:=⟨f.vars,f.clauses++ones (l.take k)⟩) hl,jD hk (show l.length≤9223372036854775807 by omega)]
  have e:ones (l.take (k+1))=ones (l.take k)++[[x]]:=by unfold ones;rw[dZ hx,List.map_append];rfl
  rw[e,List.append_assoc]) (by
  rintro t rfl
  rw[List.take_length]
  exact⟨_,by simp only[kQ,rX,if_false,Bool.false_eq_true],rfl⟩)
 rw[hb,bsm]
def fU (m:List Int) (x:Int):Bool:=decide (m[(vr x-1).toNat]?=some x)
theorem con_ok {m:List Int} {x:Int} (hx: -1099511627776≤x∧x≤1099511627776) (h0:0<vr x) (h:vr x≤m.length):fO m x=some (fU m x):=by
 unfold fO fU
 obtain⟨y,h1,h2⟩:=idx_vr h0 h
 rw[rvar_ok (by omega),bsm,iO (by have:= @nS x 1099511627776;omega),bsm,h2,bsm,h1]
 simp
def qK (n:Int) (l:List Int):Prop:=∀x∈l,x≠0∧vr x≤n
theorem sOk_iff {v x:Int}:sOk v x=true↔x≠0∧vr x≤v:=by
 unfold sOk
 simp only[Bool.and_eq_true,decide_eq_true_eq]
 rw[nS]
 exact⟨fun⟨⟨a,b⟩,c⟩=>⟨a,b,c⟩,fun⟨a,b,c⟩=>⟨⟨a,b⟩,c⟩⟩
theorem qK.at_ {n:Int} {l:List Int} (h:qK n l) (hn:n≤65536) {x:Int} (hx:x∈l):(-1099511627776≤x∧x≤1099511627776)∧0<vr x∧vr x≤n:=by
 have h1:=h x hx
 have h2:=nS.1 h1.2
 have h3:=jC x
 have h4:vr x≠0:=fun e=>h1.1 (oL.1 e)
 exact⟨⟨by omega,by omega⟩,by omega,h1.2⟩
theorem all_ok {n:Int} {m l:List Int} (hm:(m.length:Int)=n) (hn:n≤65536) (hl:qK n l) (hll:l.length≤9223372036854775807):lJ m l=some (l.all (fU m)):=by
 unfold lJ
 refine xQ l (fun x=> !fU m x) (Out.ret false) (Out.brk ()) ?_ ?_ ?_
 ·intro k a hk
  obtain⟨h1,h2,h3⟩:=hl.at_ hn (bK hk)
  simp only[nP,ltB (dB hk),if_true,dA hk,bsm,con_ok h1 h2 (show vr a≤m.length by omega),jD (dB hk) hll]
  cases fU m a<;>rfl
 ·simp only[nP,rX,if_false,Bool.false_eq_true]
 rw[tV]
 cases l.all (fU m)<;>rfl
def qQ (a b:List Int):List Int→Bool
 | []=>false
 |x::r=>if fU a x=fU b x then qQ a b r else fU b x
theorem less_ok' {n:Int} {a b l:List Int} (ha:(a.length:Int)=n) (hb:(b.length:Int)=n) (hn:n≤65536) (hl:qK n l) (hll:l.length≤9223372036854775807):nD a b l=some (qQ a b l):=by
 unfold nD
 have h:=loopL (body:=fun s:Int=>kP a b l s) (s0:=(0:Int)) l (fun k _=>(k:Int)) (fun x (t:Unit)=>if fU a x=fU b x then Step.next () else Step.done (Out.ret (fU b x):Out Unit Bool)) (fun _=>Out.brk ()) (fun _ _=>True) (t0:=()) rfl trivial (by
  intro k x t hk _
  obtain⟨h1,h2,h3⟩:=hl.at_ hn (bK hk)
  refine⟨?_,fun _ _=>trivial⟩
  simp only[kP,ltB (dB hk),if_true,dA hk,bsm,con_ok h1 h2 (show vr x≤a.length by omega),con_ok h1 h2 (show vr x≤b.length by omega),jD (dB hk) hll]
  cases fU a x<;>cases fU b x<;>rfl) (by
  intro t _
  simp only[kP,rX,if_false,Bool.false_eq_true])
 rw[h,bsm]
 clear h
 have key:∀l:List Int,(match yR (fun x (t:Unit)=>if fU a x=fU b x then Step.next () else Step.done (Out.ret (fU b x):Out Unit Bool)) (fun _=>Out.brk ()) l () with| .brk _=>some false| .ret r=>some r)=some (qQ a b l):=by
  intro l
  induction l with
  |nil=>rfl
  |cons x r ih=>
   unfold yR qQ
   by_cases e:fU a x=fU b x
   ·rw[if_pos e,if_pos e];exact ih
   rw[if_neg e,if_neg e]
 exact key l
theorem lits_clok {n:Int} {l:List Int} (h:qK n l):∀c∈ones l,tH n c:=fun c hc=>by
 unfold ones at hc
 obtain⟨x,hx,rfl⟩:=List.mem_map.1 hc
 exact⟨fun y hy=>by rw[List.mem_singleton.1 hy];exact h x hx,by simp⟩
theorem proof_chk {f:Formula} {F0 P:List (List Int)} (hv:lH ⟨f.vars,F0⟩=true) (hP:uD f.vars F0 P):chkB ⟨f.vars,F0⟩ P=true:=by
 rw[chk_acc hv (X8.2 ⟨hP.2.2.1,hP.2.2.2.1⟩)]
 exact aG2.2 ⟨hP.1,hP.2.1⟩
theorem mdF_of {m:List Int} (h:MdL m):mdF 1 m=true:=by
 have key:∀(m:List Int) (i:Int),(∀(k:Nat) x,m[k]?=some x→x=i+k∨x= -(i+k))→mdF i m=true:=by
  intro m
  induction m with
  |nil=>intro i _;rfl
  |cons x r ih=>
   intro i h
   have h0:=h 0 x rfl
   unfold mdF
   rw[ih (i+1) (fun k y hy=>by have:=h (k+1) y (by rw[List.getElem?_cons_succ];exact hy);omega)]
   simp only[Bool.and_true,Bool.or_eq_true,decide_eq_true_eq]
   omega
 exact key m 1 fun k x hx=>by have:=h k x hx;omega
theorem X4 {f:Formula} (hv:lH f=true) {m:List Int}:holdsB f m=true↔jG f.vars f.clauses m:=by
 unfold holdsB jG
 simp only[Bool.and_eq_true,decide_eq_true_eq,List.all_eq_true]
 exact⟨fun⟨⟨⟨_,a⟩,b⟩,c⟩=>⟨a,MdL.of b,c⟩,fun⟨a,b,c⟩=>⟨⟨⟨hv,a⟩,mdF_of b⟩,c⟩⟩
theorem con_iff {n:Int} {m:List Int} (hm:MdL m) (hl:(m.length:Int)=n) {x:Int}:yS m [x]=true↔fU m x=true:=by
 unfold yS fU
 simp
theorem xX {n:Int} {F:List (List Int)} {l m:List Int}:jG n (F++ones l) m↔jG n F m∧l.all (fU m)=true:=by
 unfold jG
 constructor
 ·rintro⟨a,b,c⟩
  refine⟨⟨a,b,fun d hd=>c d (List.mem_append_left _ hd)⟩,?_⟩
  rw[List.all_eq_true]
  intro x hx
  exact(con_iff b a).1 (c [x] (List.mem_append_right _ (List.mem_map.2 ⟨x,hx,rfl⟩)))
 rintro⟨⟨a,b,c⟩,d⟩
 rw[List.all_eq_true] at d
 refine⟨a,b,fun e he=>?_⟩
 rcases List.mem_append.1 he with he|he
 ·exact c e he
 unfold ones at he
 obtain⟨x,hx,rfl⟩:=List.mem_map.1 he
 exact(con_iff b a).2 (d x hx)
theorem E5 {n:Int} {F0 P:List (List Int)} (hP:uD n F0 P) (m:List Int):¬jG n F0 m:=fun⟨a,b,c⟩=>by
 have:=acc_sat b a P F0 c (fun q hq=>clF_ok (hP.2.2.1 q hq)) hP.2.1 [] (List.mem_of_getLast? hP.1)
 simp[yS] at this
theorem aB5 {f:Formula} {asX:List Int} {p q:Int} (hv:lH f=true) (hlo:qK f.vars asX) (hp:0≤p) (hpq:p≤q) (hq:q≤65536) (hl:f.clauses.length+asX.length≤300000):
  ∃s a b,nX f asX=some s∧fJ s p=some a∧fJ s q=some b∧AOk f.vars (f.clauses++ones asX) p a∧AOk f.vars (f.clauses++ones asX) q b∧ARel a b:=by
 have hb:=oC hv
 have hcl:=aH4 hv
 have hcl2:∀c∈f.clauses++ones asX,tH f.vars c:=fun c hc=>by
  rcases List.mem_append.1 hc with hc|hc
  ·exact hcl c hc
  exact lits_clok hlo c hc
 obtain⟨s,h1,h2,h3,h4,h5,h6⟩:=sopen_ok (f:=f) (asX:=asX) ⟨hb.1,hb.2.1⟩ (by omega) hcl hlo
 have hR:RInv f.vars (f.clauses++ones asX) 0 s:=by
  refine⟨by rw[h5,List.append_nil];exact h2,by rw[h5];rfl,by rw[h5];trivial,by rw[h5];simp,by rw[h5,h6];rfl,by rw[h5];simp[oH],by rw[h5];simp[oH],Nat.zero_le _⟩
 obtain⟨a,b,e1,e2,e3⟩:=srun_ok ⟨hb.1,hb.2.1⟩ (by unfold ones;rw[List.length_append,List.length_map];omega) hcl2 hp hpq hq hR
 exact⟨s,a,b,h1,e1,e2,e3⟩
theorem aB9 {f:Formula} (hv:lH f=true):FLen f.clauses:=by
 have hb:=oC hv
 exact⟨by omega,fun c hc=>by have:=(aH4 hv c hc).len ⟨hb.1,hb.2.1⟩;omega⟩
theorem solve_ok {f:Formula} {asX:List Int} {p q:Int} (hf:xA f asX p=true) (hpq:p≤q) (hq:q≤65536) (hl:f.clauses.length+asX.length≤300000):
  ∃a b,jJ f asX p=some (a,0)∧jJ f asX q=some (b,0)∧AOk f.vars (f.clauses++ones asX) p a∧AOk f.vars (f.clauses++ones asX) q b∧ARel a b:=by
 obtain⟨hp,hv,ha⟩:=tY.1 hf
 have hlo:qK f.vars asX:=fun x hx=>sOk_iff.1 (ha x hx)
 have hFL:=aB9 hv
 obtain⟨s,a,b,h1,e1,e2,e3⟩:=aB5 hv hlo hp.1 hpq hq hl
 have hfq:xA f asX q=true:=tY.2 ⟨⟨by omega,hq⟩,hv,ha⟩
 refine⟨a,b,?_,?_,e3⟩
 ·unfold jJ
  rw[fits_ok hFL (by omega),bsm,hf,if_neg (by decide),h1,bsm,e1,bsm]
 unfold jJ
 rw[fits_ok hFL (by omega),bsm,hfq,if_neg (by decide),h1,bsm,e2,bsm]
theorem AOk.kind {n:Int} {F0:List (List Int)} {p:Int} {a:Answer} (h:AOk n F0 p a) (hn:0≤n∧n≤12) (hp:((2 ^ n.toNat:Nat):Int)≤p):a.kind≠2:=fun e=>by
 obtain⟨h1,h2,h3,h4⟩:=h
 rcases h4 with⟨k,_⟩|⟨k,_⟩|⟨_,_,_,k⟩
 ·rw[k] at e;cases e
 ·rw[k] at e;cases e
 rcases k with⟨_,k⟩|k
 ·omega
 have e1:n.toNat≤12:=by omega
 have e2:2 ^ n.toNat≤2 ^ 12:=Nat.pow_le_pow_right (by decide) e1
 have e3:a.conflicts.toNat≤2 ^ 12:=by omega
 have e4:a.conflicts.toNat*n.toNat≤2 ^ 12*12:=Nat.mul_le_mul e3 e1
 omega
def mdl:Nat→Nat→List Int
 |0,_=>[]
 |v+1,b=>mdl v (b / 2)++[if b % 2=1 then((v+1:Nat):Int) else -((v+1:Nat):Int)]
theorem yK:∀(v b:Nat),(mdl v b).length=v
 |0,_=>rfl
 |v+1,b=>by unfold mdl;rw[List.length_append,yK v];rfl
theorem mdl_get:∀(v b i:Nat),i<v→(mdl v b)[i]?=some (if(b / 2 ^ (v-1-i)) % 2=1 then((i+1:Nat):Int) else -((i+1:Nat):Int))
 |0,_,_,h=>by omega
 |v+1,b,i,h=>by
  unfold mdl
  by_cases e:i=v
  ·subst e
   rw[List.getElem?_append_right (by rw[yK];exact Nat.le_refl _),yK,Nat.sub_self,show i+1-1-i=0 by omega,Nat.pow_zero,Nat.div_one]
   rfl
  rw[List.getElem?_append_left (by rw[yK];omega),mdl_get v (b / 2) i (by omega),Nat.div_div_eq_div_mul,show v+1-1-i=(v-1-i)+1 by omega,Nat.pow_succ,Nat.mul_comm]
theorem mdl_surj:∀(v:Nat) (m:List Int),MdL m→m.length=v→∃b,b<2 ^ v∧mdl v b=m
 |0,m,_,h=>⟨0,by decide,(List.eq_nil_of_length_eq_zero h).symm⟩
 |v+1,m,hm,h=>by
  obtain⟨x,hx⟩:=bJ (show v<m.length by omega)
  have hs:m=m.take v++[x]:=by
   have:=dZ hx
   rwa [show v+1=m.length by omega,List.take_length] at this
  obtain⟨b,hb,e⟩:=mdl_surj v (m.take v) (fun i y hy=>by
   rw[List.getElem?_take] at hy
   split at hy
   ·exact hm i y hy
   cases hy) (by rw[List.length_take];omega)
  have hx2:=hm v x hx
  refine⟨2*b+(if 0<x then 1 else 0),by rw[Nat.pow_succ];split<;>omega,?_⟩
  unfold mdl
  rw[show(2*b+(if 0<x then 1 else 0)) / 2=b by split<;>omega,e]
  conv=>rhs;rw[hs]
  congr 2
  by_cases h0:0<x
  ·rw[if_pos h0,if_pos (by omega)];omega
  rw[if_neg h0,if_neg (by omega)];omega
theorem model_eq {v b:Nat} (hv:v≤12) (hb:b≤65536):mD (v:Int) (b:Int)=some (mdl v b):=by
 unfold mD
 obtain⟨m,hm,rfl⟩:=uV (body:=fun s:Int×List Int=>iJ (v:Int) (b:Int) s.1 s.2) (s0:=((1:Int),([]:List Int))) v (fun k t=>(((k+1:Nat):Int),t)) (fun k t=>t=(mdl v b).take k) (fun m=>m=mdl v b) (t0:=[]) rfl rfl (by
   rintro k t hk rfl
   have hg:=mdl_get v b k hk
   have e0:(decide (((k+1:Nat):Int)≤(v:Int)))=true:=by simp only[decide_eq_true_eq];omega
   have e1:inK .i64 ((v:Int)-((k+1:Nat):Int))=some ((v-1-k:Nat):Int):=oG (by omega) ⟨by omega,by omega⟩
   have e2:shrK .i64 (b:Int) ((v-1-k:Nat):Int)=some ((b / 2 ^ (v-1-k):Nat):Int):=by
    unfold shrK
    rw[if_neg (by omega),Int.toNat_natCast,show min (v-1-k) (IntKind.bits .i64)=v-1-k from Nat.min_eq_left (by show v-1-k≤64;omega)]
    congr 1
    rw[Int.fdiv_eq_ediv_of_nonneg _ (by exact Int.le_of_lt (Int.pow_pos (by decide)))]
    have:((2:Int) ^ (v-1-k))=((2 ^ (v-1-k):Nat):Int):=by simp
    rw[this];exact(Int.natCast_ediv _ _).symm
   have e3:remK ((b / 2 ^ (v-1-k):Nat):Int) 2=some ((b / 2 ^ (v-1-k) % 2:Nat):Int):=by
    generalize b / 2 ^ (v-1-k)=q
    rw[remK_pos (by omega) (by decide)];rfl
   have e4:inK .i64 (0-((k+1:Nat):Int))=some (-((k+1:Nat):Int)):=oG (by omega) ⟨by omega,by omega⟩
   have e5:inK .i64 (((k+1:Nat):Int)+1)=some ((k+1+1:Nat):Int):=oG rfl ⟨by omega,by omega⟩
   have hl:((mdl v b).take k).length≤12:=by rw[List.length_take,yK];omega
   refine Or.inl ⟨(mdl v b).take (k+1),?_,rfl⟩
   rw[dZ hg]
   by_cases hx:b / 2 ^ (v-1-k) % 2=1
   ·have hx':((b / 2 ^ (v-1-k) % 2:Nat):Int)=1:=by omega
    rw[if_pos hx]
    simp only[iJ,e0,if_true,e1,bsm,e2,e3,hx',decide_true,oM (show((mdl v b).take k).length+[((k+1:Nat):Int)].length≤4294967296 by simp only[List.length_singleton];omega),e5]
   ·have hx':¬((b / 2 ^ (v-1-k) % 2:Nat):Int)=1:=by omega
    rw[if_neg hx]
    simp only[iJ,e0,if_true,e1,bsm,e2,e3,hx',decide_false,Bool.false_eq_true,if_false,e4,oM (show((mdl v b).take k).length+[-((k+1:Nat):Int)].length≤4294967296 by simp only[List.length_singleton];omega),e5]) (by
   rintro t rfl
   have e0:¬(decide (((v+1:Nat):Int)≤(v:Int)))=true:=by simp only[decide_eq_true_eq];omega
   rw[List.take_of_length_le (by rw[yK];exact Nat.le_refl _)]
   exact⟨_,by simp only[iJ,e0,if_false,Bool.false_eq_true],rfl⟩)
 rw[hm,bsm]
theorem shl_eq:∀k:Nat,k≤12→shlK .i64 1 (k:Int)=some ((2 ^ k:Nat):Int):=by decide+kernel
theorem pow_bnd {v:Nat} (hv:v≤12):2 ^ v≤4096:=Nat.pow_le_pow_right (by decide) hv
theorem lessF_irr (a:List Int):∀l,qQ a a l=false
 | []=>rfl
 |x::l=>by unfold qQ;rw[if_pos rfl];exact lessF_irr a l
theorem lessF_trans {a b c:List Int}:∀{l:List Int},qQ a b l=true→qQ b c l=true→qQ a c l=true
 | [],h,_=>by cases h
 |x::l,h1,h2=>by
  unfold qQ at*
  have ih:= @lessF_trans a b c l
  revert h1 h2
  cases fU a x<;>cases fU b x<;>cases fU c x<;>intro h1 h2<;>simp at h1 h2⊢ <;>first|exact ih h1 h2|exact ih h2 h1
theorem best_ok {f:Formula} (hv:lH f=true) (hn:f.vars≤12) {l o:List Int} (hl:qK f.vars l) (ho:qK f.vars o) (hll:l.length≤9223372036854775807) (hol:o.length≤9223372036854775807):
  ∃m ok,nC f l o=some (m,ok)∧(ok=true↔∃x,jG f.vars f.clauses x∧l.all (fU x)=true)∧(ok=true→jG f.vars f.clauses m∧l.all (fU m)=true∧∀x,jG f.vars f.clauses x→l.all (fU x)=true→qQ x m o=false):=by
 have hb:=oC hv
 have hFL:FLen f.clauses:=⟨by omega,fun c hc=>by have:=(aH4 hv c hc).len ⟨hb.1,hb.2.1⟩;omega⟩
 obtain⟨v,hv2⟩:∃v:Nat,f.vars=v:=⟨f.vars.toNat,by omega⟩
 have hp:=pow_bnd (show v≤12 by omega)
 let Ok:Nat→Prop:=fun b=>jG f.vars f.clauses (mdl v b)∧l.all (fU (mdl v b))=true
 unfold nC
 obtain⟨r,hr,h1,h2⟩:=uV (body:=fun s:Bool×Int×List Int=>kN f l o s.1 s.2.1 s.2.2) (s0:=(false,0,([]:List Int))) (2 ^ v) (fun k (t:Bool×List Int)=>(t.1,(k:Int),t.2))
  (fun k t=>(t.1=true↔∃b,b<k∧Ok b)∧(t.1=true→(∃b,b<k∧Ok b∧t.2=mdl v b)∧∀b,b<k→Ok b→qQ (mdl v b) t.2 o=false))
  (fun r=>(r.1=true↔∃b,b<2 ^ v∧Ok b)∧(r.1=true→(∃b,b<2 ^ v∧Ok b∧r.2=mdl v b)∧∀b,b<2 ^ v→Ok b→qQ (mdl v b) r.2 o=false)) (t0:=(false,[])) rfl
  ⟨⟨fun h=>(by cases h),fun⟨b,h,_⟩=>by omega⟩,fun h=>(by cases h)⟩ (by
  rintro k ⟨ok,m⟩ hk ⟨i1,i2⟩
  simp only at i1 i2
  have e0:(decide ((k:Int)<((2 ^ v:Nat):Int)))=true:=ltB hk
  have hml:((mdl v k).length:Int)=f.vars:=by rw[yK];omega
  have hup:=jD hk (show 2 ^ v≤9223372036854775807 by omega)
  have hall:=all_ok hml hb.2.1 hl hll
  simp only[kN,hv2,shl_eq v (by omega),bsm,e0,if_true,model_eq (show v≤12 by omega) (show k≤65536 by omega),ref_holds hFL]
  have hcase:∀b:Bool,((if b=true then(lJ (mdl v k) l).bind fun x4=>some x4 else some false):Option Bool)=some (b&&l.all (fU (mdl v k))):=fun b=>by
   cases b with
   |true=>rw[if_pos rfl,hall,bsm];rfl
   |false=>rfl
  rw[hcase,bsm]
  by_cases hOk:Ok k
  ·have e1:(holdsB f (mdl v k)&&l.all (fU (mdl v k)))=true:=by rw[(X4 hv).2 hOk.1,hOk.2];rfl
   rw[e1]
   cases ok with
   |false=>
    simp only[if_true,Bool.not_false,bsm,hup]
    refine Or.inl ⟨(true,mdl v k),rfl,⟨fun _=>⟨k,by omega,hOk⟩,fun _=>rfl⟩,fun _=>⟨⟨k,by omega,hOk,rfl⟩,fun b hb2 hOb=>?_⟩⟩
    by_cases e:b=k
    ·subst e;exact lessF_irr _ _
    have:(false=true):=i1.2 ⟨b,by omega,hOb⟩
    cases this
   |true=>
    obtain⟨⟨b0,hb0,hOb0,rfl⟩,i3⟩:=i2 rfl
    have hls:=less_ok' (a:=mdl v k) (b:=mdl v b0) hml (by rw[yK];omega) hb.2.1 ho hol
    simp only[if_true,Bool.not_true,Bool.false_eq_true,if_false,bsm,hls]
    cases hlt:qQ (mdl v k) (mdl v b0) o with
    |true=>
     simp only[if_true,hup,bsm]
     refine Or.inl ⟨(true,mdl v k),rfl,⟨fun _=>⟨k,by omega,hOk⟩,fun _=>rfl⟩,fun _=>⟨⟨k,by omega,hOk,rfl⟩,fun b hb2 hOb=>?_⟩⟩
     by_cases e:b=k
     ·subst e;exact lessF_irr _ _
     rw[Bool.eq_false_iff]
     intro h
     have:=lessF_trans h hlt
     rw[i3 b (by omega) hOb] at this
     cases this
    |false=>
     simp only[Bool.false_eq_true,if_false,hup,bsm]
     refine Or.inl ⟨(true,mdl v b0),rfl,⟨fun _=>⟨k,by omega,hOk⟩,fun _=>rfl⟩,fun _=>⟨⟨b0,by omega,hOb0,rfl⟩,fun b hb2 hOb=>?_⟩⟩
     by_cases e:b=k
     ·subst e;exact hlt
     exact i3 b (by omega) hOb
  ·have e1:(holdsB f (mdl v k)&&l.all (fU (mdl v k)))=false:=by
    rw[Bool.eq_false_iff]
    intro h
    rw[Bool.and_eq_true] at h
    exact hOk ⟨(X4 hv).1 h.1,h.2⟩
   rw[e1]
   simp only[Bool.false_eq_true,if_false,bsm,hup]
   refine Or.inl ⟨(ok,m),rfl,?_,fun h=>?_⟩
   ·rw[i1]
    exact⟨fun⟨b,h1,h2⟩=>⟨b,by omega,h2⟩,fun⟨b,h1,h2⟩=>⟨b,by
     by_cases e:b=k
     ·subst e;exact absurd h2 hOk
     omega,h2⟩⟩
   obtain⟨⟨b0,hb0,hOb0,e⟩,i3⟩:=i2 h
   refine⟨⟨b0,by omega,hOb0,e⟩,fun b hb2 hOb=>?_⟩
   by_cases e:b=k
   ·subst e;exact absurd hOb hOk
   exact i3 b (by omega) hOb) (by
  rintro⟨ok,m⟩ hI
  refine⟨(ok,m),?_,hI⟩
  simp only[kN,hv2,shl_eq v (by omega),bsm,rX,if_false,Bool.false_eq_true])
 rw[hr,bsm]
 have surj:∀x,jG f.vars f.clauses x→∃b,b<2 ^ v∧mdl v b=x:=fun x hx=>mdl_surj v x hx.2.1 (by have:=hx.1;omega)
 refine⟨r.2,r.1,rfl,?_,fun h=>?_⟩
 ·rw[h1]
  constructor
  ·rintro⟨b,hb1,hb2⟩;exact⟨mdl v b,hb2⟩
  rintro⟨x,hx1,hx2⟩
  obtain⟨b,hb1,rfl⟩:=surj x hx1
  exact⟨b,hb1,hx1,hx2⟩
 obtain⟨⟨b,hb1,hb2,e⟩,h3⟩:=h2 h
 rw[e]
 refine⟨hb2.1,hb2.2,fun x hx1 hx2=>?_⟩
 obtain⟨c,hc1,rfl⟩:=surj x hx1
 rw[←e]
 exact h3 c hc1 ⟨hx1,hx2⟩
end Go.Proofs.Ytpkhmndpeipfmaa

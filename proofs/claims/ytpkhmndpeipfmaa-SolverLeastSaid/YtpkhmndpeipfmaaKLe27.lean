/- The solver: one round of run. -/
import Derived.Test.YtpkhmndpeipfmaaKLe26
import Derived.Test.YtpkhmndpeipfmaaKLe5
import Derived.Test.YtpkhmndpeipfmaaKLe6
set_option linter.unusedVariables false
set_option linter.unusedSimpArgs false
namespace Go.Proofs.Ytpkhmndpeipfmaa
open Go.RowKit
theorem accP_snoc:∀{p F:List (List Int)} {c:List Int},yL F (p++[c])↔yL F p∧Fails (F++p) (uS c)
 | [],F,c=>by simp[yL]
 |q::p,F,c=>by
  have ih:= @accP_snoc p (F++[q]) c
  rw[List.append_assoc] at ih
  show Fails F (uS q)∧yL (F++[q]) (p++[c])↔(Fails F (uS q)∧yL (F++[q]) p)∧Fails (F++q::p) (uS c)
  rw[ih]
  exact⟨fun⟨a,b,c⟩=>⟨⟨a,b⟩,c⟩,fun⟨⟨a,b⟩,c⟩=>⟨a,b,c⟩⟩
def jL (n:Int) (F0:List (List Int)) (m:List Int):Prop:=(m.length:Int)=n∧MdL m∧∀c∈F0,G6 m c=true
def uM (n:Int) (F0 P:List (List Int)):Prop:=P.getLast?=some []∧yL F0 P∧(∀q∈P,clF n 0 q=true)∧nV P≤1048576∧P.length≤65537
structure RInv (n:Int) (F0:List (List Int)) (c:Nat) (s:Sol):Prop where
 inv:SInv n (F0++s.proof) s
 pl:s.proof.length=c
 acc:yL F0 s.proof
 pcl:∀q∈s.proof,clF n 0 q=true
 li:s.literals=(nV s.proof:Int)
 l2:nV s.proof≤c*n.toNat
 l3:nV s.proof≤1048576
 ph:c≤phi n.toNat s.starts s.trail.length
abbrev RunS:=Int×Int×Int×Bool×List Int×List Int×List (Option Nat)×List Int×(List (List Nat)×List (List Int))×List Int×List Int×List Int×List Bool×List (List Int)
def G5 (c:Int) (s:Sol):RunS:=(c,s.head,s.literals,s.broken,s.value,s.level,s.reason,s.saved,s.watches,s.trail,s.starts,s.queue.list,s.queue.isin,s.proof)
noncomputable def Q5 (p:Int) (s:RunS):=fO p s.1 s.2.1 s.2.2.1 s.2.2.2.1 s.2.2.2.2.1 s.2.2.2.2.2.1 s.2.2.2.2.2.2.1 s.2.2.2.2.2.2.2.1 s.2.2.2.2.2.2.2.2.1 s.2.2.2.2.2.2.2.2.2.1 s.2.2.2.2.2.2.2.2.2.2.1 s.2.2.2.2.2.2.2.2.2.2.2.1 s.2.2.2.2.2.2.2.2.2.2.2.2.1 s.2.2.2.2.2.2.2.2.2.2.2.2.2
theorem aL4 (p:List (List Int)) (q:List Int):nV (p++[q])=nV p+q.length:=by rw[litN_app];simp[nV]
theorem note_ok {s:Sol} {q o:List Int} (hq:q.length≤1073741824) (ho:normF q=(o,true)) (hp:s.proof.length≤1000000) (hol:o.length≤100000) {k:Nat} (hli:s.literals=(k:Int)) (hk:k≤1048576):
  mQ s q=some (decide (((k+o.length:Nat):Int)≤1048576),Sol.mk s.value s.level s.reason s.saved s.watches s.trail s.starts s.head s.queue (s.proof++[o]) ((k+o.length:Nat):Int) s.broken):=by
 unfold mQ
 rw[cnf_Normal hq,ho,bsm,qA (by simp;omega),bsm,hli]
 simp only
 rw[oZ (show(k:Int)+(o.length:Int)=((k+o.length:Nat):Int) by omega) ⟨by omega,by omega⟩,bsm]
section
variable {n:Int} {F0:List (List Int)}
theorem model_of {F:List (List Int)} {st:List Int} {val lev:List Int} {rea:List (Option Nat)} {trail:List Int} {ws:List (List Nat)} {cl:List (List Int)} (h:Cor n F st (fun _ w=> -w∈trail) val lev rea trail ws cl) (hn:0≤n∧n≤65536) (hall:∀v:Int,1≤v→v≤n→val[v.toNat]?≠some 0) (hu:∀l,[l]∈F→l∈trail) (he: []∉F) (hF:∀c∈F,∀y∈c,y≠0∧vr y≤n):jL n F (val.drop 1):=by
 have hlen:=h.eng.vo.len
 have hget:∀(i:Nat) x,(val.drop 1)[i]?=some x→x=(i:Int)+1∨x= -((i:Int)+1):=fun i x hx=>by
  rw[List.getElem?_drop] at hx
  have hl:=dB hx
  rcases h.eng.vo.own _ x hx with rfl|⟨_,e⟩
  ·exact absurd (by rw[show(((1+i:Nat):Int)).toNat=1+i by omega];exact hx) (hall ((1+i:Nat):Int) (by omega) (by omega))
  have:=O3 x
  omega
 refine⟨by rw[List.length_drop];omega,hget,fun c hc=>?_⟩
 have sat:∀y∈c,gv val y=some y→G6 (val.drop 1) c=true:=fun y hy hg=>by
  unfold G6
  rw[List.any_eq_true]
  refine⟨y,hy,?_⟩
  have h1:=hF c hc y hy
  have h2:=jY y
  have h3:vr y≠0:=fun e=>h1.1 (qJ.1 e)
  rw[decide_eq_true_eq,List.getElem?_drop,show 1+(vr y-1).toNat=(vr y).toNat by omega]
  exact hg
 have tru:∀y,y∈trail→gv val y=some y:=fun y hy=>((h.eng.tr y).1 hy).2
 match c,hc,sat with
 | [],hc,_=>exact absurd hc he
 | [x],hc,sat=>exact sat x (by simp) (tru x (hu x hc))
 |x::y::r,hc,sat=>
  rcases h.eng.closed (fun id w hw=>hw) (x::y::r) (mem_big.2 ⟨hc,by simp⟩) with⟨z,hz,hg⟩|⟨z,hz,_,_,_,hg,_⟩
  ·exact sat z hz hg
  have h1:=hF _ hc z hz
  have h2:=jY z
  have h3:vr z≠0:=fun e=>h1.1 (qJ.1 e)
  exact absurd hg (hall (vr z) (by omega) h1.2)
theorem RInv.lt {c:Nat} {s:Sol} (h:RInv n F0 c s) (hn:0≤n):c+1≤2 ^ n.toNat:=by
 have h1:=h.inv.cor.eng.trailLen hn
 have h2:=phi_lt (n:=n.toNat) (st:=s.starts) s.trail.length (by omega)
 have h3:0<2 ^ (n.toNat-s.trail.length):=Nat.pow_pos (by decide)
 have:=h.ph
 omega
end
section
variable {n:Int} {F0:List (List Int)}
theorem clF_lits {F0 P:List (List Int)} (h0:∀c∈F0,uK n c) (hp:∀q∈P,clF n 0 q=true):∀c∈F0++P,uK n c:=fun c hc=>by
 rcases List.mem_append.1 hc with hc|hc
 ·exact h0 c hc
 exact clF_ok (hp c hc)
theorem step_decide {c:Nat} {val lev:List Int} {rea:List (Option Nat)} {sav:List Int} {W:List (List Nat)×List (List Int)} {tr st:List Int} {hd:Int} {q:Que} {pf:List (List Int)} {li:Int} {br:Bool} (hn:0≤n∧n≤65536) (h:RInv n F0 c (Sol.mk val lev rea sav W tr st hd q pf li br)) (hbr:br=false)
  {v2 l2 v3 l3:List Int} {r2 r3:List (Option Nat)} {ext:List Int} {W':List (List Nat)×List (List Int)} {q':Que} {x:Int} (hWl:W'.2.length=W.2.length)
  (hC:Cor n (F0++pf) (st++[((tr++ext).length:Int)]) (fun _ w=> -w∈tr++ext) v3 l3 r3 ((tr++ext)++[x]) W'.1 W'.2) (hst:∀b∈st,b<tr.length) (hq:QOk n q') (hu:Unq n v3 q'.list):
  RInv n F0 c (Sol.mk v3 l3 r3 sav W' ((tr++ext)++[x]) (st++[((tr++ext).length:Int)]) ((tr++ext).length:Int) q' pf li br):=by
 have hI:=h.inv
 have hpre:∀(k:Nat) (l:Int),tr[k]?=some l→((tr++ext)++[x])[k]?=some l:=fun k l hk=>by
  rw[List.append_assoc,List.getElem?_append_left (dB hk)];exact hk
 refine⟨⟨?_,⟨by show(0:Int)≤((tr++ext).length:Int);omega,by show((tr++ext).length:Int)≤(((tr++ext)++[x]).length:Int);rw[@List.length_append _ (tr++ext) _];omega,fun b hb=>?_⟩,hq,hu,hI.sv,fun _ l hl=>?_,hI.emp,hI.brk,by show W'.2.length≤_;rw[hWl];exact hI.cll⟩,h.pl,h.acc,h.pcl,h.li,h.l2,h.l3,?_⟩
 ·show Cor n (F0++pf) _ (fun _ w=> -w∈((tr++ext)++[x]).take ((tr++ext).length:Int).toNat) _ _ _ _ _ _
  rw[Int.toNat_natCast,List.take_left' rfl]
  exact hC
 ·have hb:b∈st++[((tr++ext).length:Int)]:=hb
  rw[List.mem_append,List.mem_singleton] at hb
  show b≤((tr++ext).length:Int)
  rcases hb with hb|hb
  ·have:=hst b hb
   rw[List.length_append];omega
  omega
 ·obtain⟨k,hk,hk2⟩:=hI.unit hbr l hl
  refine⟨k,hpre k l hk,?_⟩
  have hkl:=dB hk
  show lvl (st++[((tr++ext).length:Int)]) k=0
  rw[lvl_snoc (by rw[List.length_append];have:k<tr.length:=hkl;omega)]
  exact hk2
 have h1:=h.ph
 show c≤phi n.toNat (st++[((tr++ext).length:Int)]) ((tr++ext)++[x]).length
 have h2:phi n.toNat (st++[((tr++ext).length:Int)]) tr.length=phi n.toNat st tr.length:=phi_congr _ fun i hi=>by
  rw[List.mem_append,List.mem_singleton]
  exact⟨fun h=>h.resolve_right (by rw[List.length_append];omega),Or.inl⟩
 have h3:phi n.toNat (st++[((tr++ext).length:Int)]) tr.length≤phi n.toNat (st++[((tr++ext).length:Int)]) ((tr++ext)++[x]).length:=phi_mono (by simp)
 have h4:c≤phi n.toNat st tr.length:=h1
 omega
theorem step_learn {c:Nat} {val lev:List Int} {rea:List (Option Nat)} {sav:List Int} {W:List (List Nat)×List (List Int)} {tr st:List Int} {hd:Int} {q:Que} {pf:List (List Int)} {li:Int} {br:Bool} (hn:0≤n∧n≤65536) (h:RInv n F0 c (Sol.mk val lev rea sav W tr st hd q pf li br)) (hbr:br=false)
  {ext:List Int} {D:Nat→Int→Prop} {v2 l2:List Int} {r2:List (Option Nat)} {W2:List (List Nat)×List (List Int)} (hC0:Cor n (F0++pf) st D v2 l2 r2 (tr++ext) W2.1 W2.2) (hW2:W2.2.length=W.2.length)
  {qc o:List Int} {k:Nat} {b d:Int} (hL:Learned n (F0++pf) st (tr++ext) qc k) (hk:st[k]?=some b) (hA:Ahead n st (tr++ext) qc k b d) (ho:∀z,z∈o↔z∈qc) (hoc:clF n 0 o=true) (hol:(o.length:Int)≤n) (hl3:nV pf+o.length≤1048576)
  {v3 l3:List Int} {r3:List (Option Nat)} {W3:List (List Nat)×List (List Int)} {sv3:List Int} {q3:Que} {x:Option Nat}
  (hC:Cor n ((F0++pf)++[o]) (st.take k) (fun _ w=> -w∈(tr++ext).take b.toNat) (v3.set (vr (-d)).toNat (-d)) l3 r3 ((tr++ext).take b.toNat++[-d]) W3.1 W3.2) (hW3:W3.2.length≤W2.2.length+1) (hs3:SvOk n sv3) (hq3:QOk n q3) (hu3:Unq n v3 q3.list):
  RInv n F0 (c+1) (Sol.mk (v3.set (vr (-d)).toNat (-d)) l3 r3 sv3 W3 ((tr++ext).take b.toNat++[-d]) (st.take k) b q3 (pf++[o]) ((nV pf+o.length:Nat):Int) br):=by
 have hI:=h.inv
 have hb:=hC0.stb b (bP hk)
 have hkl:=dB hk
 have hd0:=hA.lit _ (bP hA.q0)
 have htl:=hC0.eng.trailLen hn.1
 have htk:((tr++ext).take b.toNat).length=b.toNat:=by rw[List.length_take];omega
 have sb:∀e∈st.take k,e<b:=fun e he=>by
  obtain⟨j,hj⟩:=List.getElem?_of_mem he
  rw[List.getElem?_take] at hj
  split at hj
  ·rename_i hjk
   have hjl:=dB hj
   have:=List.pairwise_iff_getElem.1 hC0.sts j k hjl hkl hjk
   rw[List.getElem?_eq_getElem hjl] at hj
   rw[List.getElem?_eq_getElem hkl] at hk
   rw[Option.some.inj hj,Option.some.inj hk] at this
   exact this
  cases hj
 have sb2:∀e∈st,e∉st.take k→b≤e:=fun e he hne=>by
  rw[←List.take_append_drop k st,List.mem_append] at he
  obtain⟨j,hj⟩:=List.getElem?_of_mem (he.resolve_left hne)
  rw[List.getElem?_drop] at hj
  by_cases e0:j=0
  ·subst e0
   rw[Nat.add_zero,hk] at hj
   rw[Option.some.inj hj];exact Int.le_refl _
  have hjl:=dB hj
  have:=List.pairwise_iff_getElem.1 hC0.sts k (k+j) hkl hjl (by omega)
  rw[List.getElem?_eq_getElem hjl] at hj
  rw[List.getElem?_eq_getElem hkl] at hk
  rw[Option.some.inj hj,Option.some.inj hk] at this
  omega
 have htake:((tr++ext).take b.toNat++[-d]).take b.toNat=(tr++ext).take b.toNat:=List.take_left' htk
 refine⟨⟨?_,⟨hb.1,?_,fun e he=>?_⟩,hq3,fun v hv1 hv2 hv0=>?_,hs3,fun _ l hl=>?_,fun _ hm=>?_,fun e=>?_,?_⟩,?_,?_,fun p hp=>?_,?_,?_,?_,?_⟩
 ·show Cor n (F0++(pf++[o])) (st.take k) (fun _ w=> -w∈((tr++ext).take b.toNat++[-d]).take b.toNat) _ _ _ _ _ _
  rw[htake,←List.append_assoc]
  exact hC
 ·show b≤(((tr++ext).take b.toNat++[-d]).length:Int)
  rw[List.length_append,htk];omega
 ·have:=sb e he
  show e≤b
  omega
 ·have hv0:(v3.set (vr (-d)).toNat (-d))[v.toNat]?=some 0:=hv0
  rcases eF hv0 with⟨_,e⟩|⟨_,hv0⟩
  ·exact absurd e.symm hd0.1
  exact hu3 v hv1 hv2 hv0
 ·have hl: [l]∈F0++(pf++[o]):=hl
  show ∃i:Nat,((tr++ext).take b.toNat++[-d])[i]?=some l∧lvl (st.take k) i=0
  rw[←List.append_assoc,List.mem_append,List.mem_singleton] at hl
  rcases hl with hl|hl
  ·obtain⟨i,hi,hi2⟩:=hI.unit hbr l hl
   have hi:tr[i]?=some l:=hi
   have hi2:lvl st i=0:=hi2
   have hib:i<b.toNat:=by
    rcases Nat.lt_or_ge i b.toNat with h5|h5
    ·exact h5
    have:=lvl_ge hC0.sts hk (show b≤(i:Int) by omega)
    omega
   refine⟨i,?_,?_⟩
   ·rw[List.getElem?_append_left (by omega),List.getElem?_take,if_pos hib,List.getElem?_append_left (dB hi)]
    exact hi
   rw[←lvl_lt hC0.sts hk (show(i:Int)<b by omega)]
   exact hi2
  have hqm:∀z,z∈qc↔z=l:=fun z=>by rw[←ho,←hl];simp
  have hql:qc.length≤1:=by
   rcases Nat.lt_or_ge 1 qc.length with h5|h5
   ·obtain⟨y1,hy1⟩:=bM h5
    have e1:=(hqm _).1 (bP hy1)
    have e0:=(hqm _).1 (bP hA.q0)
    have:=pI hL.nd (hy1.trans (congrArg some e1)) (hA.q0.trans (congrArg some e0))
    omega
   exact h5
  have hk0:=hL.one hql
  have e0:=(hqm _).1 (bP hA.q0)
  refine⟨b.toNat,?_,?_⟩
  ·rw[List.getElem?_append_right (by omega),htk,Nat.sub_self,←e0];rfl
  have:k=0:=by omega
  subst this
  rfl
 ·have hm: []∈F0++(pf++[o]):=hm
  rw[←List.append_assoc,List.mem_append,List.mem_singleton] at hm
  rcases hm with hm|hm
  ·exact hI.emp hbr hm
  have:=(ho (-d)).2 (bP hA.q0)
  rw[←hm] at this
  simp at this
 ·have e:br=true:=e
  rw[hbr] at e;cases e
 ·show W3.2.length≤(F0++(pf++[o])).length
  have h1:W.2.length≤(F0++pf).length:=hI.cll
  rw[←List.append_assoc,List.length_append,List.length_singleton]
  omega
 ·show(pf++[o]).length=c+1
  have h1:pf.length=c:=h.pl
  rw[List.length_append,h1];rfl
 ·exact accP_snoc.2 ⟨h.acc,negs_mono (fun z=>(ho z).symm) hL.rup⟩
 ·have hp:p∈pf++[o]:=hp
  rw[List.mem_append,List.mem_singleton] at hp
  rcases hp with hp|rfl
  ·exact h.pcl p hp
  exact hoc
 ·show((nV pf+o.length:Nat):Int)=(nV (pf++[o]):Int)
  rw[aL4]
 ·show nV (pf++[o])≤(c+1)*n.toNat
  have h1:nV pf≤c*n.toNat:=h.l2
  rw[aL4,Nat.add_mul]
  omega
 ·show nV (pf++[o])≤1048576
  rw[aL4];exact hl3
 show c+1≤phi n.toNat (st.take k) ((tr++ext).take b.toNat++[-d]).length
 have h1:c≤phi n.toNat st tr.length:=h.ph
 have h2:phi n.toNat st tr.length≤phi n.toNat st (tr++ext).length:=phi_mono (by simp)
 have h3:=phi_back (n:=n.toNat) (st:=st) (su:=st.take k) (b:=b.toNat) (t:=(tr++ext).length) (by rw[Int.toNat_of_nonneg hb.1];exact bP hk) (by omega) (by omega) (fun i hi=>by
  constructor
  ·intro hm
   apply Classical.byContradiction
   intro hne
   have:=sb2 _ hm hne
   omega
  ·intro hm
   exact List.mem_of_mem_take hm) (fun hm=>by
  have:=sb _ hm
  omega)
 rw[List.length_append,htk]
 exact Nat.le_trans (Nat.succ_le_succ (Nat.le_trans h1 h2)) h3
end
theorem two_of:∀{o:List Int} {a b:Int},a∈o→b∈o→a≠b→2≤o.length
 | [],_,_,h,_,_=>by simp at h
 | [z],_,_,h1,h2,hne=>absurd ((List.mem_singleton.1 h1).trans (List.mem_singleton.1 h2).symm) hne
 |z::w::t,_,_,_,_,_=>by simp
theorem one_of:∀{o:List Int} {a:Int},a∈o→o.Nodup→(∀z∈o,z=a)→o=[a]
 | [],_,h,_,_=>by simp at h
 | [z],_,_,_,hz=>by rw[hz z (by simp)]
 |z::w::t,a,_,hnd,hz=>by
  have e1:=hz z (by simp)
  have e2:=hz w (by simp)
  rw[e1,e2] at hnd
  simp at hnd
section
variable {n:Int} {F0:List (List Int)}
def ConfOut (n:Int) (F0:List (List Int)) (c:Nat) (o:Option (Step RunS (Out (Int×Int×Bool×List Int×List Int×List (Option Nat)×List Int×(List (List Nat)×List (List Int))×List Int×List Int×List Int×List Bool×List (List Int)) Answer))):Prop:=
 (∃P,o=some (.done (.ret (Answer.mk 1 [] P ((c+1:Nat):Int))))∧uM n F0 P)∨(o=some (.done (.ret (Answer.mk 2 [] [] ((c+1:Nat):Int))))∧1048576<(c+1)*n.toNat)∨(∃s',o=some (.next (G5 ((c+1:Nat):Int) s'))∧RInv n F0 (c+1) s')
theorem proof_end {c:Nat} {pf:List (List Int)} (hacc:yL F0 pf) (hpc:∀q∈pf,clF n 0 q=true) (hl:nV pf≤1048576) (hpl:pf.length≤65536) (hf:Fails (F0++pf) []):uM n F0 (pf++[[]]):=by
 refine⟨by simp,accP_snoc.2 ⟨hacc,hf⟩,fun q hq=>?_,by rw[aL4];simpa using hl,by simp;omega⟩
 rw[List.mem_append,List.mem_singleton] at hq
 rcases hq with hq|rfl
 ·exact hpc q hq
 rfl
set_option maxHeartbeats 2000000 in
theorem run_step (hn:0≤n∧n≤65536) (hF0:F0.length≤800000) (hcl:∀c∈F0,uK n c) {c:Nat} (hc:c≤65536) {s:Sol} (h:RInv n F0 c s):
  (∃s',(∀p,Q5 p (G5 (c:Int) s)=some (.next (G5 (c:Int) s')))∧RInv n F0 c s'∧s.trail.length<s'.trail.length)∨
  (∃m,(∀p,Q5 p (G5 (c:Int) s)=some (.done (.ret (Answer.mk 0 m [] (c:Int)))))∧jL n F0 m)∨
  (∃o,(∀p,Q5 p (G5 (c:Int) s)=if(decide ((c:Int)=p))=true then some (.done (.ret (Answer.mk 2 [] [] (c:Int)))) else o)∧ConfOut n F0 c o):=by
 obtain⟨val,lev,rea,sav,W,tr,st,hd,⟨ql,qi⟩,pf,li,br⟩:=s
 have hI:=h.inv
 have hlits:∀c∈F0++pf,uK n c:=clF_lits hcl h.pcl
 have hpl:pf.length=c:=h.pl
 have hli:li=(nV pf:Int):=h.li
 have hl3:nV pf≤1048576:=h.l3
 have hcll:W.2.length≤(F0++pf).length:=hI.cll
 have hFl:(F0++pf).length≤900000:=by rw[List.length_append];omega
 obtain⟨hdn,rfl⟩:∃k:Nat,hd=k:=⟨hd.toNat,by have:0≤hd:=hI.hd.1;omega⟩
 have hhd:hdn≤tr.length:=by have:(hdn:Int)≤tr.length:=hI.hd.2.1;omega
 have hstb:∀b∈st,b≤(hdn:Int):=hI.hd.2.2
 have hcor:Cor n (F0++pf) st (fun _ w=> -w∈tr.take hdn) val lev rea tr W.1 W.2:=by
  have:=hI.cor
  simpa only[Int.toNat_natCast] using this
 obtain⟨r,v1,l1,r1,ext,W1,h1,e1,hW1,hcase⟩:=spropagate_ok (s:=Sol.mk val lev rea sav W tr st (hdn:Int) (Que.mk ql qi) pf li br) (h:=hdn) hn (by show W.2.length≤_;omega) rfl rfl hstb hcor hhd
 simp only at e1 hW1 hcase
 have hsv:SvOk n sav:=hI.sv
 have hq:QOk n (Que.mk ql qi):=hI.q
 have hun1:Unq n v1 ql:=by
  have key:∀{D:Nat→Int→Prop},Cor n (F0++pf) st D v1 l1 r1 (tr++ext) W1.1 W1.2→Unq n v1 ql:=fun hC v hv1 hv2 hv0=>by
   refine hI.un v hv1 hv2 ?_
   show val[v.toNat]?=some 0
   obtain⟨y,hy⟩:=bM (show v.toNat<val.length by have:=hcor.eng.vo.len;omega)
   rcases hcor.eng.vo.own _ y hy with rfl|⟨hy0,hyv⟩
   ·exact hy
   have hg:gv val y=some y:=by unfold gv;rw[show(vr y).toNat=v.toNat by omega];exact hy
   have hm:y∈tr:=(hcor.eng.tr y).2 ⟨hy0,hg⟩
   have h2:=((hC.eng.tr y).1 (List.mem_append_left ext hm)).2
   unfold gv at h2
   rw[show(vr y).toNat=v.toNat by omega,hv0] at h2
   exact absurd (Option.some.inj h2).symm hy0
  rcases hcase with⟨_,_,hC⟩|⟨_,_,_,D,hC⟩
  ·exact key hC
  exact key hC
 by_cases hA:r=none∧br=false
 ·
  obtain⟨rfl,rfl⟩:=hA
  obtain⟨_,rfl,hC⟩:none=none∧h1=((tr++ext).length:Int)∧Cor n (F0++pf) st (fun _ w=> -w∈tr++ext) v1 l1 r1 (tr++ext) W1.1 W1.2:=by
   rcases hcase with h|⟨id,e,_⟩
   ·exact h
   cases e
  rcases sdecide_ok (s:=Sol.mk v1 l1 r1 sav W1 (tr++ext) st ((tr++ext).length:Int) (Que.mk ql qi) pf li false) hC hn hsv hq hun1 with⟨v3,l3,r3,q3,x,e2,hC3,hq3,hu3⟩|⟨q3,e2,hall⟩
  ·simp only at e2 hC3
   refine Or.inl ⟨Sol.mk v3 l3 r3 sav W1 ((tr++ext)++[x]) (st++[((tr++ext).length:Int)]) ((tr++ext).length:Int) q3 pf li false,fun p=>?_,step_decide hn h rfl hW1 hC3 (fun b hb=>(hcor.stb b hb).2) hq3 hu3 (v2:=v1) (l2:=l1) (r2:=r1),by show tr.length<((tr++ext)++[x]).length;simp⟩
   unfold Q5 G5 fO
   simp only
   rw[e1,bsm]
   simp only
   rw[if_pos (show((none:Option Nat).isNone&& !false)=true from rfl),e2,bsm]
   simp only
   rw[if_pos trivial,bsm]
  simp only at e2 hall
  have hmo:=model_of hC hn hall (fun l hl=>by
   obtain⟨k,hk,_⟩:=hI.unit rfl l hl
   exact List.mem_append_left _ (bP hk)) (hI.emp rfl) (fun c hc=>(hlits c hc).1)
  refine Or.inr (Or.inl ⟨v1.drop 1,fun p=>?_,hmo.1,hmo.2.1,fun c hc=>hmo.2.2 c (List.mem_append_left _ hc)⟩)
  have hvl:=hC.eng.vo.len
  have hs:sub v1 1 (v1.length:Int)=some (v1.drop 1):=by rw[yM (by decide) (by omega) (by omega),Int.toNat_natCast,List.take_length];rfl
  unfold Q5 G5 fO
  simp only
  rw[e1,bsm]
  simp only
  rw[if_pos (show((none:Option Nat).isNone&& !false)=true from rfl),e2,bsm]
  simp only
  rw[if_neg (by decide),hs,bsm,qA (by simp;omega),bsm,List.nil_append,bsm]
 refine Or.inr (Or.inr ?_)
 have hif:¬((r.isNone&& !br)=true):=by
  intro e
  rw[Bool.and_eq_true] at e
  refine hA ⟨by cases r with|none=>rfl|some _=>exact absurd e.1 (by simp),by cases br with|false=>rfl|true=>exact absurd e.2 (by simp)⟩
 have hup:inK .i64 ((c:Int)+1)=some ((c+1:Nat):Int):=oZ rfl ⟨by omega,by omega⟩
 by_cases hB:br=true∨st=[]
 ·
  have hf:Fails (F0++pf) []:=by
   rcases hB with hB|hB
   ·exact hI.brk hB
   subst hB
   rcases hcase with⟨rfl,_⟩|⟨id,rfl,hcl2,D,hC⟩
   ·cases br with
    |false=>exact absurd ⟨rfl,rfl⟩ hA
    |true=>exact hI.brk rfl
   exact clash_zero hC hcl2
  refine⟨_,fun p=>?_,Or.inl ⟨pf++[[]],rfl,proof_end (c:=c) h.acc h.pcl hl3 (by omega) hf⟩⟩
  have hnt:=note_ok (s:=Sol.mk v1 l1 r1 sav W1 (tr++ext) st h1 (Que.mk ql qi) pf li br) (q:=[]) (o:=[]) (by simp) rfl (by show pf.length≤_;omega) (by simp) hli hl3
  unfold Q5 G5 fO
  simp only
  rw[e1,bsm]
  simp only
  rw[if_neg hif]
  by_cases hcp:(decide ((c:Int)=p))=true
  ·rw[if_pos hcp,if_pos hcp,bsm]
  rw[if_neg hcp,if_neg hcp,hup,bsm,if_pos (by
   rcases hB with hB|hB
   ·rw[hB];rfl
   rw[hB];simp),hnt,bsm,bsm]
 have hbr:br=false:=by cases br with|false=>rfl|true=>exact absurd (Or.inl rfl) hB
 subst hbr
 have hst:st≠[]:=fun e=>hB (Or.inr e)
 obtain⟨id,rfl,hclash,D,hC⟩:∃id,r=some id∧Clash st (tr++ext) W1.2 id∧∃D,Cor n (F0++pf) st D v1 l1 r1 (tr++ext) W1.1 W1.2:=by
  rcases hcase with⟨rfl,_⟩|h
  ·exact absurd ⟨rfl,rfl⟩ hA
  exact h
 obtain⟨qc,back,e2,hL⟩:=slearn_ok hC hn (p0:=Sol.mk v1 l1 r1 sav W1 (tr++ext) st h1 (Que.mk ql qi) pf li false) rfl rfl rfl rfl rfl hst hclash
 obtain⟨k,rfl⟩:∃k:Nat,back=k:=⟨back.toNat,by have:=hL.bk.1;omega⟩
 obtain⟨b,hk⟩:=bM (show k<st.length by have:=hL.bk.2;omega)
 obtain⟨d,hAh⟩:=hL.ahead hC hk
 have hlq:∀y∈qc,y≠0∧vr y≤n:=fun y hy=>⟨(hL.lit y hy).1,(hL.lit y hy).2.1⟩
 obtain⟨o,ho1,ho2,ho3,ho4⟩:=normal_of hn hlq (fun y hy hm=>hC.eng.opp (hL.lit _ hm).2.2 (by rw[Int.neg_neg];have:=(hL.lit _ hy).2.2;exact(hC.eng.opp this (by rw[Int.neg_neg];have:=(hL.lit _ hm).2.2;rwa [Int.neg_neg] at this)).elim))
 have hqcl:qc.length≤131074:=uK.len ⟨hlq,hL.nd⟩ hn
 have hnt:=note_ok (s:=Sol.mk v1 l1 r1 sav W1 (tr++ext) st h1 (Que.mk ql qi) pf li false) (q:=qc) (o:=o) (by omega) ho1 (by show pf.length≤_;omega) (by omega) hli hl3
 simp only at hnt
 by_cases hov:nV pf+o.length≤1048576
 ·obtain⟨v3,r3,sv3,q3,e3,hC3,hs3,hq3,hu3⟩:=sundo_ok (s:=Sol.mk v1 l1 r1 sav W1 (tr++ext) st h1 (Que.mk ql qi) (pf++[o]) ((nV pf+o.length:Nat):Int) false) hC hn hsv hq hun1 hk
  simp only at e3 hC3
  have hdl:=hlq _ (bP hAh.q0)
  have hdb:=nM.1 hdl.2
  have hlvk:((st.take k).length:Int)=((st.take k).length:Int):=rfl
  by_cases hql:1<qc.length
  ·
   obtain⟨a2,i,y1,i1,i2,i3⟩:=hAh.q1 hql
   have ha2:=hlq _ (bP y1)
   have hab:=nM.1 ha2.2
   have hne: -d≠a2:=fun e=>by have:=pI hL.nd hAh.q0 (e▸y1);omega
   obtain⟨Ra,hRa⟩:=hC3.eng.rowAt hdl.2
   obtain⟨Rb,hRb⟩:=hC3.eng.rowAt ha2.2
   have hRal:=hC3.eng.rowLen hRa
   have hRbl:=hC3.eng.rowLen hRb
   have ho22:2≤o.length:=by
    have m1:=(ho2 _).2 (bP hAh.q0)
    have m2:=(ho2 _).2 (bP y1)
    exact two_of m1 m2 hne
   have hC4:=hC3.learnt hAh rfl (Nat.le_of_lt (dB hk)) hql hL.nd (fun z=>(ho2 z).symm) ho22 y1 hRa hRb
   have hsetW:(W1.2++[qc]).set W1.2.length qc=W1.2++[qc]:=set_self (by simp)
   have hwt:=swatch_ok (s:=Sol.mk v3 l1 r3 sv3 (W1.1,W1.2++[qc]) ((tr++ext).take b.toNat) (st.take k) b q3 (pf++[o]) ((nV pf+o.length:Nat):Int) false) (id:=W1.2.length) (d:=qc) (by simp) hAh.q0 y1 hne ⟨by omega,by omega⟩ ⟨by omega,by omega⟩ hRa hRb (by omega) (by omega)
   simp only at hwt
   have hC3':Cor n (F0++pf) (st.take k) (fun _ w=> -w∈(tr++ext).take b.toNat) v3 l1 r3 ((tr++ext).take b.toNat) W1.1 W1.2:=hC3
   have hnewc:(W1.2++[qc])[W1.2.length]?=some qc:=by simp
   have hhold:=aA2 (s:=Sol.mk v3 l1 r3 sv3 ((W1.1.set (ixL (-d)) (Ra++[W1.2.length])).set (ixL a2) (Rb++[W1.2.length]),W1.2++[qc]) ((tr++ext).take b.toNat) (st.take k) b q3 (pf++[o]) ((nV pf+o.length:Nat):Int) false) hC3' hdl.2 hn.2 hn.1 (some W1.2.length) rfl rfl rfl rfl
   simp only at hhold
   refine⟨_,fun p=>?_,Or.inr (Or.inr ⟨_,rfl,step_learn hn h rfl hC hW1 hL hk hAh ho2 ho3 ho4 hov hC4 (W3:=((W1.1.set (ixL (-d)) (Ra++[W1.2.length])).set (ixL a2) (Rb++[W1.2.length]),W1.2++[qc])) (by simp) hs3 hq3 hu3 (x:=none)⟩)⟩
   unfold Q5 G5 fO
   simp only
   rw[e1,bsm]
   simp only
   rw[if_neg hif]
   by_cases hcp:(decide ((c:Int)=p))=true
   ·rw[if_pos hcp,if_pos hcp,bsm]
   rw[if_neg hcp,if_neg hcp,hup,bsm,if_neg (by simp;exact hst),e2,bsm]
   simp only
   rw[hnt,bsm]
   simp only
   rw[if_neg (by simp;omega),e3,bsm]
   simp only
   rw[if_pos (by rw[decide_eq_true_eq];omega),hC3.put,bsm,hC3.idsQ,bsm]
   simp only[hsetW]
   rw[hwt,bsm]
   simp only
   rw[hnewc,bsm,show idx qc 0=some (-d) from kQ (by decide) hAh.q0,bsm,hhold,bsm,bsm]
  have hk0:k=0:=by have:=hL.one (by omega);omega
  subst hk0
  have hoe:o=[-d]:=by
   have hqe:∀z∈qc,z= -d:=fun z hz=>by
    obtain⟨j,hj⟩:=List.getElem?_of_mem hz
    have:j=0:=by have:=dB hj;omega
    subst this
    exact Option.some.inj (hj.symm.trans hAh.q0)
   have m1:=(ho2 _).2 (bP hAh.q0)
   have hnd:=clF_nodup (Int.le_refl 0) ho3
   exact one_of m1 hnd fun z hz=>hqe z ((ho2 z).1 hz)
  have hC4:=hC3.learnt1 hAh rfl hoe
  have hhold:=aA2 (s:=Sol.mk v3 l1 r3 sv3 W1 ((tr++ext).take b.toNat) (st.take 0) b q3 (pf++[o]) ((nV pf+o.length:Nat):Int) false) hC3 hdl.2 hn.2 hn.1 none rfl rfl rfl rfl
  simp only at hhold
  refine⟨_,fun p=>?_,Or.inr (Or.inr ⟨_,rfl,step_learn hn h rfl hC hW1 hL hk hAh ho2 ho3 ho4 hov hC4 (W3:=W1) (by omega) hs3 hq3 hu3 (x:=none)⟩)⟩
  unfold Q5 G5 fO
  simp only
  rw[e1,bsm]
  simp only
  rw[if_neg hif]
  by_cases hcp:(decide ((c:Int)=p))=true
  ·rw[if_pos hcp,if_pos hcp,bsm]
  rw[if_neg hcp,if_neg hcp,hup,bsm,if_neg (by simp;exact hst),e2,bsm]
  simp only
  rw[hnt,bsm]
  simp only
  rw[if_neg (by simp;omega),e3,bsm]
  simp only
  rw[if_neg (by rw[decide_eq_true_eq];omega),show idx qc 0=some (-d) from kQ (by decide) hAh.q0,bsm,hhold,bsm,bsm]
 have h2:nV pf≤c*n.toNat:=h.l2
 refine⟨_,fun p=>?_,Or.inr (Or.inl ⟨rfl,by rw[Nat.add_mul];omega⟩)⟩
 unfold Q5 G5 fO
 simp only
 rw[e1,bsm]
 simp only
 rw[if_neg hif]
 by_cases hcp:(decide ((c:Int)=p))=true
 ·rw[if_pos hcp,if_pos hcp,bsm]
 rw[if_neg hcp,if_neg hcp,hup,bsm,if_neg (by simp;exact hst),e2,bsm]
 simp only
 rw[hnt,bsm]
 simp only
 rw[if_pos (by simp;omega),bsm]
end
def AOk (n:Int) (F0:List (List Int)) (p:Int) (a:Answer):Prop:=
 0≤a.conflicts∧a.conflicts≤p∧a.conflicts≤((2 ^ n.toNat:Nat):Int)∧((a.kind=0∧a.proof=[]∧jL n F0 a.model)∨(a.kind=1∧a.model=[]∧uM n F0 a.proof)∨(a.kind=2∧a.model=[]∧a.proof=[]∧((a.conflicts=p∧p<((2 ^ n.toNat:Nat):Int))∨1048576<a.conflicts.toNat*n.toNat)))
def ARel (a b:Answer):Prop:=(a.kind≠2→a=b)∧(a.kind=2→b.kind=2∨a.conflicts≤b.conflicts)∧(b.kind=2→a.kind=2)
section
variable {n:Int} {F0:List (List Int)}
theorem RInv.trl {c:Nat} {s:Sol} (h:RInv n F0 c s) (hn:0≤n):s.trail.length≤n.toNat:=by
 have:=h.inv.cor.eng.trailLen hn
 omega
theorem model_aok {c:Nat} {s:Sol} (h:RInv n F0 c s) (hn:0≤n∧n≤65536) {p:Int} (hcp:(c:Int)≤p) {m:List Int} (hm:jL n F0 m):AOk n F0 p (Answer.mk 0 m [] (c:Int)):=by
 have:=h.lt hn.1
 exact⟨by show(0:Int)≤c;omega,hcp,by show(c:Int)≤_;omega,Or.inl ⟨rfl,rfl,hm⟩⟩
theorem budget_aok {c:Nat} {s:Sol} (h:RInv n F0 c s) (hn:0≤n∧n≤65536) {p:Int} (hcp:(c:Int)=p):AOk n F0 p (Answer.mk 2 [] [] (c:Int)):=by
 have:=h.lt hn.1
 exact⟨by show(0:Int)≤c;omega,by show(c:Int)≤p;omega,by show(c:Int)≤_;omega,Or.inr (Or.inr ⟨rfl,rfl,rfl,Or.inl ⟨hcp,by omega⟩⟩)⟩
theorem proof_aok {c:Nat} {s:Sol} (h:RInv n F0 c s) (hn:0≤n∧n≤65536) {p:Int} (hcp:((c+1:Nat):Int)≤p) {P:List (List Int)} (hP:uM n F0 P):AOk n F0 p (Answer.mk 1 [] P ((c+1:Nat):Int)):=by
 have:=h.lt hn.1
 exact⟨by show(0:Int)≤((c+1:Nat):Int);omega,hcp,by show((c+1:Nat):Int)≤_;omega,Or.inr (Or.inl ⟨rfl,rfl,hP⟩)⟩
theorem over_aok {c:Nat} {s:Sol} (h:RInv n F0 c s) (hn:0≤n∧n≤65536) {p:Int} (hcp:((c+1:Nat):Int)≤p) (ho:1048576<(c+1)*n.toNat):AOk n F0 p (Answer.mk 2 [] [] ((c+1:Nat):Int)):=by
 have:=h.lt hn.1
 exact⟨by show(0:Int)≤((c+1:Nat):Int);omega,hcp,by show((c+1:Nat):Int)≤_;omega,Or.inr (Or.inr ⟨rfl,rfl,rfl,Or.inr (by show 1048576<(((c+1:Nat):Int)).toNat*n.toNat;rw[Int.toNat_natCast];exact ho)⟩)⟩
theorem mea_dec {P N c t t':Nat} (h:t<t') (h2:t'≤N):(P-c)*(N+2)+(N+1-t')<(P-c)*(N+2)+(N+1-t):=by omega
theorem mea_conf {P N c t t':Nat} (h:c<P):(P-(c+1))*(N+2)+(N+1-t')<(P-c)*(N+2)+(N+1-t):=by
 have e:P-c=(P-(c+1))+1:=by omega
 rw[e,Nat.add_mul]
 omega
theorem run1 (hn:0≤n∧n≤65536) (hF0:F0.length≤800000) (hcl:∀c∈F0,uK n c) {p:Int} (hp:p≤65536):∀(m c:Nat) (s:Sol),(p.toNat-c)*(n.toNat+2)+(n.toNat+1-s.trail.length)≤m→(c:Int)≤p→RInv n F0 c s→
  ∃a,dE (Q5 p) (G5 (c:Int) s)=some (.ret a)∧AOk n F0 p a∧(c:Int)≤a.conflicts:=by
 intro m
 induction m with
 |zero=>
  intro c s hm hcp h
  have:=h.trl hn.1
  omega
 |succ m ih=>
  intro c s hm hcp h
  rcases run_step hn hF0 hcl (show c≤65536 by omega) h with⟨s',h1,h2,h3⟩|⟨md,h1,h2⟩|⟨o,h1,h2⟩
  ·obtain⟨a,e1,e2⟩:=ih c s' (by have:=mea_dec (P:=p.toNat) (c:=c) h3 (h2.trl hn.1);omega) hcp h2
   exact⟨a,by rw[iC (h1 p)];exact e1,e2⟩
  ·exact⟨_,eQ (h1 p),model_aok h hn hcp h2,Int.le_refl _⟩
  by_cases hc:(c:Int)=p
  ·exact⟨_,eQ (by rw[h1 p,if_pos (by simpa using hc)]),budget_aok h hn hc,Int.le_refl _⟩
  have h1':Q5 p (G5 (c:Int) s)=o:=by rw[h1 p,if_neg (by simpa using hc)]
  have hc1:((c+1:Nat):Int)≤p:=by omega
  rcases h2 with⟨P,rfl,hP⟩|⟨rfl,ho⟩|⟨s',rfl,hs'⟩
  ·exact⟨_,eQ h1',proof_aok h hn hc1 hP,by show(c:Int)≤((c+1:Nat):Int);omega⟩
  ·exact⟨_,eQ h1',over_aok h hn hc1 ho,by show(c:Int)≤((c+1:Nat):Int);omega⟩
  obtain⟨a,e1,e2,e3⟩:=ih (c+1) s' (by have:=mea_conf (P:=p.toNat) (N:=n.toNat) (c:=c) (t:=s.trail.length) (t':=s'.trail.length) (by omega);omega) hc1 hs'
  exact⟨a,by rw[iC h1'];exact e1,e2,by omega⟩
theorem arel_rfl (a:Answer):ARel a a:=⟨fun _=>rfl,fun h=>Or.inl h,fun h=>h⟩
theorem run2 (hn:0≤n∧n≤65536) (hF0:F0.length≤800000) (hcl:∀c∈F0,uK n c) {p q:Int} (hpq:p≤q) (hq:q≤65536):∀(m c:Nat) (s:Sol),(q.toNat-c)*(n.toNat+2)+(n.toNat+1-s.trail.length)≤m→(c:Int)≤p→RInv n F0 c s→
  ∃a b,dE (Q5 p) (G5 (c:Int) s)=some (.ret a)∧dE (Q5 q) (G5 (c:Int) s)=some (.ret b)∧AOk n F0 p a∧AOk n F0 q b∧ARel a b:=by
 intro m
 induction m with
 |zero=>
  intro c s hm hcp h
  have:=h.trl hn.1
  omega
 |succ m ih=>
  intro c s hm hcp h
  have hcq:(c:Int)≤q:=by omega
  rcases run_step hn hF0 hcl (show c≤65536 by omega) h with⟨s',h1,h2,h3⟩|⟨md,h1,h2⟩|⟨o,h1,h2⟩
  ·obtain⟨a,b,e1,e2,e3⟩:=ih c s' (by have:=mea_dec (P:=q.toNat) (c:=c) h3 (h2.trl hn.1);omega) hcp h2
   exact⟨a,b,by rw[iC (h1 p)];exact e1,by rw[iC (h1 q)];exact e2,e3⟩
  ·exact⟨_,_,eQ (h1 p),eQ (h1 q),model_aok h hn hcp h2,model_aok h hn hcq h2,arel_rfl _⟩
  by_cases hc:(c:Int)=p
  ·obtain⟨b,e1,e2,e3⟩:=run1 hn hF0 hcl hq _ c s (Nat.le_refl _) hcq h
   exact⟨_,b,eQ (by rw[h1 p,if_pos (by simpa using hc)]),e1,budget_aok h hn hc,e2,fun e=>absurd rfl e,fun _=>Or.inr e3,fun _=>rfl⟩
  have h1':Q5 p (G5 (c:Int) s)=o:=by rw[h1 p,if_neg (by simpa using hc)]
  have h2':Q5 q (G5 (c:Int) s)=o:=by rw[h1 q,if_neg (by simp;omega)]
  have hc1:((c+1:Nat):Int)≤p:=by omega
  have hc2:((c+1:Nat):Int)≤q:=by omega
  rcases h2 with⟨P,rfl,hP⟩|⟨rfl,ho⟩|⟨s',rfl,hs'⟩
  ·exact⟨_,_,eQ h1',eQ h2',proof_aok h hn hc1 hP,proof_aok h hn hc2 hP,arel_rfl _⟩
  ·exact⟨_,_,eQ h1',eQ h2',over_aok h hn hc1 ho,over_aok h hn hc2 ho,arel_rfl _⟩
  obtain⟨a,b,e1,e2,e3⟩:=ih (c+1) s' (by have:=mea_conf (P:=q.toNat) (N:=n.toNat) (c:=c) (t:=s.trail.length) (t':=s'.trail.length) (by omega);omega) hc1 hs'
  exact⟨a,b,by rw[iC h1'];exact e1,by rw[iC h2'];exact e2,e3⟩
theorem srun_ok (hn:0≤n∧n≤65536) (hF0:F0.length≤800000) (hcl:∀c∈F0,uK n c) {p q:Int} (hp:0≤p) (hpq:p≤q) (hq:q≤65536) {s:Sol} (h:RInv n F0 0 s):
  ∃a b,gB s p=some a∧gB s q=some b∧AOk n F0 p a∧AOk n F0 q b∧ARel a b:=by
 obtain⟨a,b,e1,e2,e3⟩:=run2 hn hF0 hcl hpq hq _ 0 s (Nat.le_refl _) (by omega) h
 refine⟨a,b,?_,?_,e3⟩
 ·have e1:dE (Q5 p) (G5 0 s)=some (.ret a):=e1
  show(dE (Q5 p) (G5 0 s)).bind _=_
  rw[e1,bsm]
 have e2:dE (Q5 q) (G5 0 s)=some (.ret b):=e2
 show(dE (Q5 q) (G5 0 s)).bind _=_
 rw[e2,bsm]
end
def vX (f:Formula) (l:List Int) (p:Int):Bool:=decide (0≤p)&&decide (p≤65536)&&lX f&&l.all (sOk f.vars)
theorem fits1_ok {f:Formula} (hv:0≤f.vars∧f.vars≤65536) (x:Int):sO x f=some (!sOk f.vars x):=by
 unfold sO sOk
 by_cases h0:x=0
 ·rw[if_pos (by simpa using h0),bsm];simp[h0]
 rw[if_neg (by simpa using h0),oZ (show 0-f.vars= -f.vars by omega) ⟨by omega,by omega⟩,bsm,bsm]
 congr 1
 by_cases h1:x< -f.vars
 ·have:¬ -f.vars≤x:=by omega
  simp[h0,h1,this]
 by_cases h2:f.vars<x
 ·have:¬x≤f.vars:=by omega
  simp[h0,h1,h2,this]
 have a: -f.vars≤x:=by omega
 have b:x≤f.vars:=by omega
 simp[h0,h1,h2,a,b]
theorem fits_ok {f:Formula} {l:List Int} {p:Int} (hf:FLen f.clauses) (hl:l.length≤9223372036854775807):sW f l p=some (vX f l p):=by
 unfold sW vX
 by_cases hp:0≤p∧p≤65536
 ·have e1:(decide (0≤p)&&decide (p≤65536))=true:=by simp[hp]
  rw[if_pos e1,cnf_valid hf,bsm,bsm,e1,Bool.true_and]
  cases hv:lX f with
  |false=>rw[if_neg (by decide),bsm];rfl
  |true=>
   have hb:=oM hv
   rw[if_pos rfl]
   have hc:gX l f=some (l.any fun x=> !sOk f.vars x):=by
    unfold gX jX
    have h:=scan_loop (body:=fun s=>fV l f s) l (fun x=> !sOk f.vars x) (fun k _=>Out.ret (k:Int)) (Out.brk ()) (by
     intro k a hk
     simp only[fV,ltB (dB hk),if_true,bY hk,bsm,fits1_ok ⟨hb.1,hb.2.1⟩,iH (dB hk) hl]
     cases sOk f.vars a<;>rfl) (by simp only[fV,qZ,if_false,Bool.false_eq_true])
    rcases h with⟨k,a,_,_,_,h2,_,e⟩|⟨_,h2,_,e⟩
    ·rw[e,h2];simp
    rw[e,h2];simp
   rw[hc,bsm,bsm,Bool.true_and,List.all_eq_not_any_not]
 have e1:¬(decide (0≤p)&&decide (p≤65536))=true:=by simp;omega
 rw[if_neg e1,bsm,if_neg (by decide),bsm,Bool.eq_false_iff.2 e1]
 rfl
theorem uN {f:Formula} {l:List Int} {p:Int}:vX f l p=true↔(0≤p∧p≤65536)∧lX f=true∧∀x∈l,sOk f.vars x=true:=by
 unfold vX
 simp only[Bool.and_eq_true,decide_eq_true_eq,List.all_eq_true]
 exact⟨fun⟨⟨a,b⟩,c⟩=>⟨a,b,c⟩,fun⟨a,b,c⟩=>⟨⟨a,b⟩,c⟩⟩
theorem rfits_ok {f:Formula} {l:List Int} {p:Int} (hf:FLen f.clauses) (hl:l.length≤9223372036854775807):kF f l p=some (vX f l p):=by
 unfold kF
 rw[ref_valid hf,bsm]
 by_cases h:(((!lX f)||(decide (p<0)))||(decide (65536<p)))=true
 ·rw[if_pos h]
  congr 1
  symm
  rw[Bool.eq_false_iff]
  intro e
  obtain⟨h1,h2,_⟩:=uN.1 e
  rw[h2] at h
  simp at h
  omega
 rw[if_neg h]
 simp only[Bool.or_eq_true,decide_eq_true_eq,not_or,Bool.not_eq_true',Bool.not_eq_false] at h
 obtain⟨⟨hv,h1⟩,h2⟩:=h
 have hb:=oM hv
 refine zT l (fun x=> !sOk f.vars x) (Out.ret false) (Out.brk ()) ?_ ?_ ?_
 ·intro k a hk
  have hlt:=dB hk
  have e:sub l (k:Int) ((k+1:Nat):Int)=some [a]:=by
   rw[yM (by omega) (by omega) (by omega),Int.toNat_natCast,Int.toNat_natCast,dN hk,List.drop_left' (by rw[List.length_take];omega)]
  simp only[oU,ltB hlt,if_true,iH hlt hl,bsm,e,zF (c:=[a]) (v:=f.vars) ⟨hb.1,by omega⟩ (by simp),clF_one]
  cases sOk f.vars a<;>rfl
 ·simp only[oU,qZ,if_false,Bool.false_eq_true]
 have e:vX f l p=l.all (sOk f.vars):=by
  unfold vX
  rw[hv]
  have:(decide (0≤p)&&decide (p≤65536))=true:=by simp;omega
  rw[this];simp
 rw[e,vV]
 cases l.all (sOk f.vars)<;>rfl
theorem with_ok {f:Formula} {c:List Int} (h:f.clauses.length+1≤4294967296):jD f c=some ⟨f.vars,f.clauses++[c]⟩:=by
 unfold jD
 rw[qA (by simpa using h),bsm]
theorem with28_ok {f:Formula} {l:List Int} (h:f.clauses.length+l.length≤4294967296):jE f l=some ⟨f.vars,f.clauses++ones l⟩:=by
 unfold jE
 obtain⟨b,hb,rfl⟩:=uA (body:=fun s:Int×Int×List (List Int)=>lU l s.1 s.2.1 s.2.2) (s0:=(0,f.vars,f.clauses)) l.length (fun k t=>((k:Int),f.vars,t)) (fun k t=>t=f.clauses++ones (l.take k)) (fun b=>b=(f.vars,f.clauses++ones l)) (t0:=f.clauses) rfl (by simp[ones]) (by
  rintro k t hk rfl
  obtain⟨x,hx⟩:=bM hk
  refine Or.inl ⟨f.clauses++ones (l.take (k+1)),?_,rfl⟩
  have hl:(f.clauses++ones (l.take k)).length+1≤4294967296:=by unfold ones;rw[List.length_append,List.length_map,List.length_take];omega
  simp only[lU,ltB hk,if_true,bY hx,bsm,with_ok (f:=⟨f.vars,f.clauses++ones (l.take k)⟩) hl,iH hk (show l.length≤9223372036854775807 by omega)]
  have e:ones (l.take (k+1))=ones (l.take k)++[[x]]:=by unfold ones;rw[dN hx,List.map_append];rfl
  rw[e,List.append_assoc]) (by
  rintro t rfl
  rw[List.take_length]
  exact⟨_,by simp only[lU,qZ,if_false,Bool.false_eq_true],rfl⟩)
 rw[hb,bsm]
def iE (m:List Int) (x:Int):Bool:=decide (m[(vr x-1).toNat]?=some x)
theorem con_ok {m:List Int} {x:Int} (hx: -1099511627776≤x∧x≤1099511627776) (h0:0<vr x) (h:vr x≤m.length):gV m x=some (iE m x):=by
 unfold gV iE
 obtain⟨y,h1,h2⟩:=idx_vr h0 h
 rw[Q7 (by omega),bsm,iV (by have:= @nM x 1099511627776;omega),bsm,h2,bsm,h1]
 simp
def sD (n:Int) (l:List Int):Prop:=∀x∈l,x≠0∧vr x≤n
theorem sOk_iff {v x:Int}:sOk v x=true↔x≠0∧vr x≤v:=by
 unfold sOk
 simp only[Bool.and_eq_true,decide_eq_true_eq]
 rw[nM]
 exact⟨fun⟨⟨a,b⟩,c⟩=>⟨a,b,c⟩,fun⟨a,b,c⟩=>⟨⟨a,b⟩,c⟩⟩
theorem sD.at_ {n:Int} {l:List Int} (h:sD n l) (hn:n≤65536) {x:Int} (hx:x∈l):(-1099511627776≤x∧x≤1099511627776)∧0<vr x∧vr x≤n:=by
 have h1:=h x hx
 have h2:=nM.1 h1.2
 have h3:=jY x
 have h4:vr x≠0:=fun e=>h1.1 (qJ.1 e)
 exact⟨⟨by omega,by omega⟩,by omega,h1.2⟩
theorem all_ok {n:Int} {m l:List Int} (hm:(m.length:Int)=n) (hn:n≤65536) (hl:sD n l) (hll:l.length≤9223372036854775807):lD m l=some (l.all (iE m)):=by
 unfold lD
 refine zT l (fun x=> !iE m x) (Out.ret false) (Out.brk ()) ?_ ?_ ?_
 ·intro k a hk
  obtain⟨h1,h2,h3⟩:=hl.at_ hn (bP hk)
  simp only[pM,ltB (dB hk),if_true,bY hk,bsm,con_ok h1 h2 (show vr a≤m.length by omega),iH (dB hk) hll]
  cases iE m a<;>rfl
 ·simp only[pM,qZ,if_false,Bool.false_eq_true]
 rw[vV]
 cases l.all (iE m)<;>rfl
def sK (a b:List Int):List Int→Bool
 | []=>false
 |x::r=>if iE a x=iE b x then sK a b r else iE b x
theorem less_ok' {n:Int} {a b l:List Int} (ha:(a.length:Int)=n) (hb:(b.length:Int)=n) (hn:n≤65536) (hl:sD n l) (hll:l.length≤9223372036854775807):kG a b l=some (sK a b l):=by
 unfold kG
 have h:=loopL (body:=fun s:Int=>lT a b l s) (s0:=(0:Int)) l (fun k _=>(k:Int)) (fun x (t:Unit)=>if iE a x=iE b x then Step.next () else Step.done (Out.ret (iE b x):Out Unit Bool)) (fun _=>Out.brk ()) (fun _ _=>True) (t0:=()) rfl trivial (by
  intro k x t hk _
  obtain⟨h1,h2,h3⟩:=hl.at_ hn (bP hk)
  refine⟨?_,fun _ _=>trivial⟩
  simp only[lT,ltB (dB hk),if_true,bY hk,bsm,con_ok h1 h2 (show vr x≤a.length by omega),con_ok h1 h2 (show vr x≤b.length by omega),iH (dB hk) hll]
  cases iE a x<;>cases iE b x<;>rfl) (by
  intro t _
  simp only[lT,qZ,if_false,Bool.false_eq_true])
 rw[h,bsm]
 clear h
 have key:∀l:List Int,(match yG (fun x (t:Unit)=>if iE a x=iE b x then Step.next () else Step.done (Out.ret (iE b x):Out Unit Bool)) (fun _=>Out.brk ()) l () with| .brk _=>some false| .ret r=>some r)=some (sK a b l):=by
  intro l
  induction l with
  |nil=>rfl
  |cons x r ih=>
   unfold yG sK
   by_cases e:iE a x=iE b x
   ·rw[if_pos e,if_pos e];exact ih
   rw[if_neg e,if_neg e]
 exact key l
def sameB (a b:Answer):Bool:=decide (a.kind=b.kind)&&decide (a.conflicts=b.conflicts)&&decide (a.model=b.model)&&decide (a.proof=b.proof)
theorem sameB_self (a:Answer):sameB a a=true:=by simp[sameB]
theorem same_ok {a b:Answer} (ha:FLen a.proof) (hm:a.model.length≤9223372036854775807):gW a b=some (sameB a b):=by
 unfold gW sameB
 by_cases h1:a.kind=b.kind
 ·by_cases h2:a.conflicts=b.conflicts
  ·by_cases h3:a.model.length=b.model.length
   ·rw[if_neg (by simp[h1,h2,h3]),clauses_equal _ _ ha,bsm,bsm]
    by_cases h4:a.proof=b.proof
    ·rw[if_neg (by simp[h4])]
     refine aC6 h3 (Out.ret false) (Out.brk ()) ?_ ?_ ?_
     ·intro k x y hx hy
      simp only[oV,ltB (dB hx),if_true,bY hx,bY hy,bsm,iH (dB hx) hm]
      by_cases e:x=y<;>simp[e]
     ·simp only[oV,qZ,if_false,Bool.false_eq_true]
     by_cases e:a.model=b.model
     ·simp[h1,h2,h4,e]
     simp[h1,h2,h4,e]
    rw[if_pos (by simp[h4])]
    simp[h4]
   rw[if_pos (by simp;omega),bsm,if_pos rfl]
   have:a.model≠b.model:=fun e=>h3 (by rw[e])
   simp[this]
  rw[if_pos (by simp[h2]),bsm,if_pos rfl]
  simp[h2]
 rw[if_pos (by simp[h1]),bsm,if_pos rfl]
 simp[h1]
theorem lits_clok {n:Int} {l:List Int} (h:sD n l):∀c∈ones l,uK n c:=fun c hc=>by
 unfold ones at hc
 obtain⟨x,hx,rfl⟩:=List.mem_map.1 hc
 exact⟨fun y hy=>by rw[List.mem_singleton.1 hy];exact h x hx,by simp⟩
theorem proof_chk {f:Formula} {F0 P:List (List Int)} (hv:lX ⟨f.vars,F0⟩=true) (hP:uM f.vars F0 P):chkB ⟨f.vars,F0⟩ P=true:=by
 rw[chk_acc hv (sZ.2 ⟨hP.2.2.1,hP.2.2.2.1⟩)]
 exact I5.2 ⟨hP.1,hP.2.1⟩
theorem mdF_of {m:List Int} (h:MdL m):mdF 1 m=true:=by
 have key:∀(m:List Int) (i:Int),(∀(k:Nat) x,m[k]?=some x→x=i+k∨x= -(i+k))→mdF i m=true:=by
  intro m
  induction m with
  |nil=>intro i _;rfl
  |cons x r ih=>
   intro i h
   have h0:=h 0 x rfl
   unfold mdF
   rw[ih (i+1) (fun k y hy=>by have:=h (k+1) y (by rw[List.getElem?_cons_succ];exact hy);omega)]
   simp only[Bool.and_true,Bool.or_eq_true,decide_eq_true_eq]
   omega
 exact key m 1 fun k x hx=>by have:=h k x hx;omega
theorem J8 {f:Formula} (hv:lX f=true) {m:List Int}:holdsB f m=true↔jL f.vars f.clauses m:=by
 unfold holdsB jL
 simp only[Bool.and_eq_true,decide_eq_true_eq,List.all_eq_true]
 exact⟨fun⟨⟨⟨_,a⟩,b⟩,c⟩=>⟨a,MdL.of b,c⟩,fun⟨a,b,c⟩=>⟨⟨⟨hv,a⟩,mdF_of b⟩,c⟩⟩
theorem con_iff {n:Int} {m:List Int} (hm:MdL m) (hl:(m.length:Int)=n) {x:Int}:G6 m [x]=true↔iE m x=true:=by
 unfold G6 iE
 simp
theorem aG2 {n:Int} {F:List (List Int)} {l m:List Int}:jL n (F++ones l) m↔jL n F m∧l.all (iE m)=true:=by
 unfold jL
 constructor
 ·rintro⟨a,b,c⟩
  refine⟨⟨a,b,fun d hd=>c d (List.mem_append_left _ hd)⟩,?_⟩
  rw[List.all_eq_true]
  intro x hx
  exact(con_iff b a).1 (c [x] (List.mem_append_right _ (List.mem_map.2 ⟨x,hx,rfl⟩)))
 rintro⟨⟨a,b,c⟩,d⟩
 rw[List.all_eq_true] at d
 refine⟨a,b,fun e he=>?_⟩
 rcases List.mem_append.1 he with he|he
 ·exact c e he
 unfold ones at he
 obtain⟨x,hx,rfl⟩:=List.mem_map.1 he
 exact(con_iff b a).2 (d x hx)
theorem Q4 {n:Int} {F0 P:List (List Int)} (hP:uM n F0 P) (m:List Int):¬jL n F0 m:=fun⟨a,b,c⟩=>by
 have:=acc_sat b a P F0 c (fun q hq=>clF_ok (hP.2.2.1 q hq)) hP.2.1 [] (List.mem_of_getLast? hP.1)
 simp[G6] at this
theorem aG3 {f:Formula} {asX:List Int} {p q:Int} (hv:lX f=true) (hlo:sD f.vars asX) (hp:0≤p) (hpq:p≤q) (hq:q≤65536) (hl:f.clauses.length+asX.length≤300000):
  ∃s a b,qB f asX=some s∧gB s p=some a∧gB s q=some b∧AOk f.vars (f.clauses++ones asX) p a∧AOk f.vars (f.clauses++ones asX) q b∧ARel a b:=by
 have hb:=oM hv
 have hcl:=aA6 hv
 have hcl2:∀c∈f.clauses++ones asX,uK f.vars c:=fun c hc=>by
  rcases List.mem_append.1 hc with hc|hc
  ·exact hcl c hc
  exact lits_clok hlo c hc
 obtain⟨s,h1,h2,h3,h4,h5,h6⟩:=sopen_ok (f:=f) (asX:=asX) ⟨hb.1,hb.2.1⟩ (by omega) hcl hlo
 have hR:RInv f.vars (f.clauses++ones asX) 0 s:=by
  refine⟨by rw[h5,List.append_nil];exact h2,by rw[h5];rfl,by rw[h5];trivial,by rw[h5];simp,by rw[h5,h6];rfl,by rw[h5];simp[nV],by rw[h5];simp[nV],Nat.zero_le _⟩
 obtain⟨a,b,e1,e2,e3⟩:=srun_ok ⟨hb.1,hb.2.1⟩ (by unfold ones;rw[List.length_append,List.length_map];omega) hcl2 hp hpq hq hR
 exact⟨s,a,b,h1,e1,e2,e3⟩
theorem S9 {f:Formula} (hv:lX f=true):FLen f.clauses:=by
 have hb:=oM hv
 exact⟨by omega,fun c hc=>by have:=(aA6 hv c hc).len ⟨hb.1,hb.2.1⟩;omega⟩
theorem solve_ok {f:Formula} {asX:List Int} {p q:Int} (hf:vX f asX p=true) (hpq:p≤q) (hq:q≤65536) (hl:f.clauses.length+asX.length≤300000):
  ∃a b,lW f asX p=some (a,0)∧lW f asX q=some (b,0)∧AOk f.vars (f.clauses++ones asX) p a∧AOk f.vars (f.clauses++ones asX) q b∧ARel a b:=by
 obtain⟨hp,hv,ha⟩:=uN.1 hf
 have hlo:sD f.vars asX:=fun x hx=>sOk_iff.1 (ha x hx)
 have hFL:=S9 hv
 obtain⟨s,a,b,h1,e1,e2,e3⟩:=aG3 hv hlo hp.1 hpq hq hl
 have hfq:vX f asX q=true:=uN.2 ⟨⟨by omega,hq⟩,hv,ha⟩
 refine⟨a,b,?_,?_,e3⟩
 ·unfold lW
  rw[fits_ok hFL (by omega),bsm,hf,if_neg (by decide),h1,bsm,e1,bsm]
 unfold lW
 rw[fits_ok hFL (by omega),bsm,hfq,if_neg (by decide),h1,bsm,e2,bsm]
theorem AOk.kind {n:Int} {F0:List (List Int)} {p:Int} {a:Answer} (h:AOk n F0 p a) (hn:0≤n∧n≤12) (hp:((2 ^ n.toNat:Nat):Int)≤p):a.kind≠2:=fun e=>by
 obtain⟨h1,h2,h3,h4⟩:=h
 rcases h4 with⟨k,_⟩|⟨k,_⟩|⟨_,_,_,k⟩
 ·rw[k] at e;cases e
 ·rw[k] at e;cases e
 rcases k with⟨_,k⟩|k
 ·omega
 have e1:n.toNat≤12:=by omega
 have e2:2 ^ n.toNat≤2 ^ 12:=Nat.pow_le_pow_right (by decide) e1
 have e3:a.conflicts.toNat≤2 ^ 12:=by omega
 have e4:a.conflicts.toNat*n.toNat≤2 ^ 12*12:=Nat.mul_le_mul e3 e1
 omega
def mdl:Nat→Nat→List Int
 |0,_=>[]
 |v+1,b=>mdl v (b / 2)++[if b % 2=1 then((v+1:Nat):Int) else -((v+1:Nat):Int)]
theorem F5:∀(v b:Nat),(mdl v b).length=v
 |0,_=>rfl
 |v+1,b=>by unfold mdl;rw[List.length_append,F5 v];rfl
theorem mdl_get:∀(v b i:Nat),i<v→(mdl v b)[i]?=some (if(b / 2 ^ (v-1-i)) % 2=1 then((i+1:Nat):Int) else -((i+1:Nat):Int))
 |0,_,_,h=>by omega
 |v+1,b,i,h=>by
  unfold mdl
  by_cases e:i=v
  ·subst e
   rw[List.getElem?_append_right (by rw[F5];exact Nat.le_refl _),F5,Nat.sub_self,show i+1-1-i=0 by omega,Nat.pow_zero,Nat.div_one]
   rfl
  rw[List.getElem?_append_left (by rw[F5];omega),mdl_get v (b / 2) i (by omega),Nat.div_div_eq_div_mul,show v+1-1-i=(v-1-i)+1 by omega,Nat.pow_succ,Nat.mul_comm]
theorem mdl_surj:∀(v:Nat) (m:List Int),MdL m→m.length=v→∃b,b<2 ^ v∧mdl v b=m
 |0,m,_,h=>⟨0,by decide,(List.eq_nil_of_length_eq_zero h).symm⟩
 |v+1,m,hm,h=>by
  obtain⟨x,hx⟩:=bM (show v<m.length by omega)
  have hs:m=m.take v++[x]:=by
   have:=dN hx
   rwa [show v+1=m.length by omega,List.take_length] at this
  obtain⟨b,hb,e⟩:=mdl_surj v (m.take v) (fun i y hy=>by
   rw[List.getElem?_take] at hy
   split at hy
   ·exact hm i y hy
   cases hy) (by rw[List.length_take];omega)
  have hx2:=hm v x hx
  refine⟨2*b+(if 0<x then 1 else 0),by rw[Nat.pow_succ];split<;>omega,?_⟩
  unfold mdl
  rw[show(2*b+(if 0<x then 1 else 0)) / 2=b by split<;>omega,e]
  conv=>rhs;rw[hs]
  congr 2
  by_cases h0:0<x
  ·rw[if_pos h0,if_pos (by omega)];omega
  rw[if_neg h0,if_neg (by omega)];omega
theorem model_eq {v b:Nat} (hv:v≤12) (hb:b≤65536):oD (v:Int) (b:Int)=some (mdl v b):=by
 unfold oD
 obtain⟨m,hm,rfl⟩:=uA (body:=fun s:Int×List Int=>jH (v:Int) (b:Int) s.1 s.2) (s0:=((1:Int),([]:List Int))) v (fun k t=>(((k+1:Nat):Int),t)) (fun k t=>t=(mdl v b).take k) (fun m=>m=mdl v b) (t0:=[]) rfl rfl (by
   rintro k t hk rfl
   have hg:=mdl_get v b k hk
   have e0:(decide (((k+1:Nat):Int)≤(v:Int)))=true:=by simp only[decide_eq_true_eq];omega
   have e1:inK .i64 ((v:Int)-((k+1:Nat):Int))=some ((v-1-k:Nat):Int):=oZ (by omega) ⟨by omega,by omega⟩
   have e2:shrK .i64 (b:Int) ((v-1-k:Nat):Int)=some ((b / 2 ^ (v-1-k):Nat):Int):=by
    unfold shrK
    rw[if_neg (by omega),Int.toNat_natCast,show min (v-1-k) (IntKind.bits .i64)=v-1-k from Nat.min_eq_left (by show v-1-k≤64;omega)]
    congr 1
    rw[Int.fdiv_eq_ediv_of_nonneg _ (by exact Int.le_of_lt (Int.pow_pos (by decide)))]
    have:((2:Int) ^ (v-1-k))=((2 ^ (v-1-k):Nat):Int):=by simp
    rw[this];exact(Int.natCast_ediv _ _).symm
   have e3:remK ((b / 2 ^ (v-1-k):Nat):Int) 2=some ((b / 2 ^ (v-1-k) % 2:Nat):Int):=by
    generalize b / 2 ^ (v-1-k)=q
    rw[remK_pos (by omega) (by decide)];rfl
   have e4:inK .i64 (0-((k+1:Nat):Int))=some (-((k+1:Nat):Int)):=oZ (by omega) ⟨by omega,by omega⟩
   have e5:inK .i64 (((k+1:Nat):Int)+1)=some ((k+1+1:Nat):Int):=oZ rfl ⟨by omega,by omega⟩
   have hl:((mdl v b).take k).length≤12:=by rw[List.length_take,F5];omega
   refine Or.inl ⟨(mdl v b).take (k+1),?_,rfl⟩
   rw[dN hg]
   by_cases hx:b / 2 ^ (v-1-k) % 2=1
   ·have hx':((b / 2 ^ (v-1-k) % 2:Nat):Int)=1:=by omega
    rw[if_pos hx]
    simp only[jH,e0,if_true,e1,bsm,e2,e3,hx',decide_true,qA (show((mdl v b).take k).length+[((k+1:Nat):Int)].length≤4294967296 by simp only[List.length_singleton];omega),e5]
   ·have hx':¬((b / 2 ^ (v-1-k) % 2:Nat):Int)=1:=by omega
    rw[if_neg hx]
    simp only[jH,e0,if_true,e1,bsm,e2,e3,hx',decide_false,Bool.false_eq_true,if_false,e4,qA (show((mdl v b).take k).length+[-((k+1:Nat):Int)].length≤4294967296 by simp only[List.length_singleton];omega),e5]) (by
   rintro t rfl
   have e0:¬(decide (((v+1:Nat):Int)≤(v:Int)))=true:=by simp only[decide_eq_true_eq];omega
   rw[List.take_of_length_le (by rw[F5];exact Nat.le_refl _)]
   exact⟨_,by simp only[jH,e0,if_false,Bool.false_eq_true],rfl⟩)
 rw[hm,bsm]
theorem shl_eq:∀k:Nat,k≤12→shlK .i64 1 (k:Int)=some ((2 ^ k:Nat):Int):=by decide+kernel
theorem pow_bnd {v:Nat} (hv:v≤12):2 ^ v≤4096:=Nat.pow_le_pow_right (by decide) hv
theorem lessF_irr (a:List Int):∀l,sK a a l=false
 | []=>rfl
 |x::l=>by unfold sK;rw[if_pos rfl];exact lessF_irr a l
theorem lessF_trans {a b c:List Int}:∀{l:List Int},sK a b l=true→sK b c l=true→sK a c l=true
 | [],h,_=>by cases h
 |x::l,h1,h2=>by
  unfold sK at*
  have ih:= @lessF_trans a b c l
  revert h1 h2
  cases iE a x<;>cases iE b x<;>cases iE c x<;>intro h1 h2<;>simp at h1 h2⊢ <;>first|exact ih h1 h2|exact ih h2 h1
theorem best_ok {f:Formula} (hv:lX f=true) (hn:f.vars≤12) {l o:List Int} (hl:sD f.vars l) (ho:sD f.vars o) (hll:l.length≤9223372036854775807) (hol:o.length≤9223372036854775807):
  ∃m ok,pF f l o=some (m,ok)∧(ok=true↔∃x,jL f.vars f.clauses x∧l.all (iE x)=true)∧(ok=true→jL f.vars f.clauses m∧l.all (iE m)=true∧∀x,jL f.vars f.clauses x→l.all (iE x)=true→sK x m o=false):=by
 have hb:=oM hv
 have hFL:FLen f.clauses:=⟨by omega,fun c hc=>by have:=(aA6 hv c hc).len ⟨hb.1,hb.2.1⟩;omega⟩
 obtain⟨v,hv2⟩:∃v:Nat,f.vars=v:=⟨f.vars.toNat,by omega⟩
 have hp:=pow_bnd (show v≤12 by omega)
 let Ok:Nat→Prop:=fun b=>jL f.vars f.clauses (mdl v b)∧l.all (iE (mdl v b))=true
 unfold pF
 obtain⟨r,hr,h1,h2⟩:=uA (body:=fun s:Bool×Int×List Int=>lS f l o s.1 s.2.1 s.2.2) (s0:=(false,0,([]:List Int))) (2 ^ v) (fun k (t:Bool×List Int)=>(t.1,(k:Int),t.2))
  (fun k t=>(t.1=true↔∃b,b<k∧Ok b)∧(t.1=true→(∃b,b<k∧Ok b∧t.2=mdl v b)∧∀b,b<k→Ok b→sK (mdl v b) t.2 o=false))
  (fun r=>(r.1=true↔∃b,b<2 ^ v∧Ok b)∧(r.1=true→(∃b,b<2 ^ v∧Ok b∧r.2=mdl v b)∧∀b,b<2 ^ v→Ok b→sK (mdl v b) r.2 o=false)) (t0:=(false,[])) rfl
  ⟨⟨fun h=>(by cases h),fun⟨b,h,_⟩=>by omega⟩,fun h=>(by cases h)⟩ (by
  rintro k ⟨ok,m⟩ hk ⟨i1,i2⟩
  simp only at i1 i2
  have e0:(decide ((k:Int)<((2 ^ v:Nat):Int)))=true:=ltB hk
  have hml:((mdl v k).length:Int)=f.vars:=by rw[F5];omega
  have hup:=iH hk (show 2 ^ v≤9223372036854775807 by omega)
  have hall:=all_ok hml hb.2.1 hl hll
  simp only[lS,hv2,shl_eq v (by omega),bsm,e0,if_true,model_eq (show v≤12 by omega) (show k≤65536 by omega),ref_holds hFL]
  have hcase:∀b:Bool,((if b=true then(lD (mdl v k) l).bind fun x4=>some x4 else some false):Option Bool)=some (b&&l.all (iE (mdl v k))):=fun b=>by
   cases b with
   |true=>rw[if_pos rfl,hall,bsm];rfl
   |false=>rfl
  rw[hcase,bsm]
  by_cases hOk:Ok k
  ·have e1:(holdsB f (mdl v k)&&l.all (iE (mdl v k)))=true:=by rw[(J8 hv).2 hOk.1,hOk.2];rfl
   rw[e1]
   cases ok with
   |false=>
    simp only[if_true,Bool.not_false,bsm,hup]
    refine Or.inl ⟨(true,mdl v k),rfl,⟨fun _=>⟨k,by omega,hOk⟩,fun _=>rfl⟩,fun _=>⟨⟨k,by omega,hOk,rfl⟩,fun b hb2 hOb=>?_⟩⟩
    by_cases e:b=k
    ·subst e;exact lessF_irr _ _
    have:(false=true):=i1.2 ⟨b,by omega,hOb⟩
    cases this
   |true=>
    obtain⟨⟨b0,hb0,hOb0,rfl⟩,i3⟩:=i2 rfl
    have hls:=less_ok' (a:=mdl v k) (b:=mdl v b0) hml (by rw[F5];omega) hb.2.1 ho hol
    simp only[if_true,Bool.not_true,Bool.false_eq_true,if_false,bsm,hls]
    cases hlt:sK (mdl v k) (mdl v b0) o with
    |true=>
     simp only[if_true,hup,bsm]
     refine Or.inl ⟨(true,mdl v k),rfl,⟨fun _=>⟨k,by omega,hOk⟩,fun _=>rfl⟩,fun _=>⟨⟨k,by omega,hOk,rfl⟩,fun b hb2 hOb=>?_⟩⟩
     by_cases e:b=k
     ·subst e;exact lessF_irr _ _
     rw[Bool.eq_false_iff]
     intro h
     have:=lessF_trans h hlt
     rw[i3 b (by omega) hOb] at this
     cases this
    |false=>
     simp only[Bool.false_eq_true,if_false,hup,bsm]
     refine Or.inl ⟨(true,mdl v b0),rfl,⟨fun _=>⟨k,by omega,hOk⟩,fun _=>rfl⟩,fun _=>⟨⟨b0,by omega,hOb0,rfl⟩,fun b hb2 hOb=>?_⟩⟩
     by_cases e:b=k
     ·subst e;exact hlt
     exact i3 b (by omega) hOb
  ·have e1:(holdsB f (mdl v k)&&l.all (iE (mdl v k)))=false:=by
    rw[Bool.eq_false_iff]
    intro h
    rw[Bool.and_eq_true] at h
    exact hOk ⟨(J8 hv).1 h.1,h.2⟩
   rw[e1]
   simp only[Bool.false_eq_true,if_false,bsm,hup]
   refine Or.inl ⟨(ok,m),rfl,?_,fun h=>?_⟩
   ·rw[i1]
    exact⟨fun⟨b,h1,h2⟩=>⟨b,by omega,h2⟩,fun⟨b,h1,h2⟩=>⟨b,by
     by_cases e:b=k
     ·subst e;exact absurd h2 hOk
     omega,h2⟩⟩
   obtain⟨⟨b0,hb0,hOb0,e⟩,i3⟩:=i2 h
   refine⟨⟨b0,by omega,hOb0,e⟩,fun b hb2 hOb=>?_⟩
   by_cases e:b=k
   ·subst e;exact absurd hOb hOk
   exact i3 b (by omega) hOb) (by
  rintro⟨ok,m⟩ hI
  refine⟨(ok,m),?_,hI⟩
  simp only[lS,hv2,shl_eq v (by omega),bsm,qZ,if_false,Bool.false_eq_true])
 rw[hr,bsm]
 have surj:∀x,jL f.vars f.clauses x→∃b,b<2 ^ v∧mdl v b=x:=fun x hx=>mdl_surj v x hx.2.1 (by have:=hx.1;omega)
 refine⟨r.2,r.1,rfl,?_,fun h=>?_⟩
 ·rw[h1]
  constructor
  ·rintro⟨b,hb1,hb2⟩;exact⟨mdl v b,hb2⟩
  rintro⟨x,hx1,hx2⟩
  obtain⟨b,hb1,rfl⟩:=surj x hx1
  exact⟨b,hb1,hx1,hx2⟩
 obtain⟨⟨b,hb1,hb2,e⟩,h3⟩:=h2 h
 rw[e]
 refine⟨hb2.1,hb2.2,fun x hx1 hx2=>?_⟩
 obtain⟨c,hc1,rfl⟩:=surj x hx1
 rw[←e]
 exact h3 c hc1 ⟨hx1,hx2⟩
end Go.Proofs.Ytpkhmndpeipfmaa

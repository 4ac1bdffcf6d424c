/- The solver: a further clause, undo, decide. -/
import Derived.Test.YtpkhmndpeipfmaaKLe25
import Derived.Test.YtpkhmndpeipfmaaKLe5
import Derived.Test.YtpkhmndpeipfmaaKLe6
import Derived.Test.YtpkhmndpeipfmaaKLe23
set_option linter.unusedVariables false
set_option linter.unusedSimpArgs false
namespace Go.Proofs.Ytpkhmndpeipfmaa
open Go.RowKit
theorem Why.more {F G:List (List Int)} {st trail:List Int} {cl:List (List Int)} {d:List Int} {i:Nat} {x:Int} {r:Option Nat} (hF:∀c∈F,c∈G) (h:Why F st trail cl i x r):Why G st trail (cl++[d]) i x r:=by
 cases r with
 |none=>exact h.imp id fun h=>⟨h.1,h.2.mono hF (fun _ h=>h)⟩
 |some k=>
  obtain⟨c,h1,h2⟩:=h
  exact⟨c,by rw[List.getElem?_append_left (dB h1)];exact h1,h2⟩
theorem Why.grow {F G:List (List Int)} {st trail:List Int} {cl:List (List Int)} {i:Nat} {x:Int} {r:Option Nat} (hF:∀c∈F,c∈G) (h:Why F st trail cl i x r):Why G st trail cl i x r:=by
 cases r with
 |none=>exact h.imp id fun h=>⟨h.1,h.2.mono hF (fun _ h=>h)⟩
 |some k=>exact h
section
variable {n:Int} {F:List (List Int)} {st:List Int} {D:Nat→Int→Prop} {val lev:List Int} {rea:List (Option Nat)} {trail:List Int} {ws:List (List Nat)} {cl:List (List Int)}
theorem Cor.addU (h:Cor n F st D val lev rea trail ws cl) {q:List Int} (hq:¬2≤q.length):Cor n (F++[q]) st D val lev rea trail ws cl:=
 {h with
  eng:=by rw[big_snoc' F hq];exact h.eng
  re:=fun i x r hx hr=>(h.re i x r hx hr).grow fun c hc=>List.mem_append_left _ hc}
theorem Cor.addW (h:Cor n F st D val lev rea trail ws cl) {q d:List Int} {a b:Int} {Ra Rb:List Nat} (hq:2≤q.length) (ha:d[0]?=some a) (hb:d[1]?=some b) (hnd:d.Nodup) (hlit:∀y∈d,y≠0∧vr y≤n) (hsub:∀y,y∈d↔y∈q)
  (hra:ws[ixL a]?=some Ra) (hrb:ws[ixL b]?=some Rb) (hbas:∀c∈st,∀w o,Pair d w o→ -w∈trail.take c.toNat→o∈trail.take c.toNat):
  Cor n (F++[q]) st (fun i w=>D i w∧i≠cl.length) val lev rea trail ((ws.set (ixL a) (Ra++[cl.length])).set (ixL b) (Rb++[cl.length])) (cl++[d]):=by
 have hF:∀c∈F,c∈F++[q]:=fun c hc=>List.mem_append_left _ hc
 refine{h with eng:=?_,re:=fun i x r hx hr=>(h.re i x r hx hr).more hF,rid:=fun id hid=>?_,bas:=fun c hc id e w o he hp hw=>?_}
 ·rw[big_snoc F hq]
  exact h.eng.addW ha hb hnd hlit hsub hra hrb
 ·have:=h.rid id hid
  rw[List.length_append];omega
 rw[List.getElem?_append] at he
 split at he
 ·exact h.bas c hc id e w o he hp hw
 have hs: [d][id-cl.length]?=some e:=he
 have:e=d:=by
  have:=bP hs
  simpa using this
 subst this
 exact hbas c hc w o hp hw
theorem watch_round {x1:Nat} {x3:List Int} {k:Nat} {l:Int} {W:List (List Nat)×List (List Int)} {R:List Nat} (hk:x3[k]?=some l) (hkl:x3.length≤1000) (hl: -1099511627776≤l∧l≤1099511627776) (hR:W.1[ixL l]?=some R) (hRl:R.length≤1000000000):
  lC x1 x3 (k:Int) W=some (.next (((k+1:Nat):Int),(W.1.set (ixL l) (R++[x1]),W.2))):=by
 have hlt:=dB hk
 unfold lC
 rw[if_pos (ltB hlt),bY hk,bsm,aD6 hl,bsm,bsm,bY hR,bsm,qA (by simp;omega),bsm,qQ,bsm,iH hlt (by omega),bsm]
 rfl
theorem swatch_ok {s:Sol} {id:Nat} {d:List Int} {a b:Int} {Ra Rb:List Nat} (hd:s.watches.2[id]?=some d) (ha:d[0]?=some a) (hb:d[1]?=some b) (hab:a≠b) (hla: -1099511627776≤a∧a≤1099511627776) (hlb: -1099511627776≤b∧b≤1099511627776)
  (hRa:s.watches.1[ixL a]?=some Ra) (hRb:s.watches.1[ixL b]?=some Rb) (hRal:Ra.length≤1000000000) (hRbl:Rb.length≤1000000000):
  lL s (some id)=some (Sol.mk s.value s.level s.reason s.saved ((s.watches.1.set (ixL a) (Ra++[id])).set (ixL b) (Rb++[id]),s.watches.2) s.trail s.starts s.head s.queue s.proof s.literals s.broken):=by
 have hix:ixL b≠ixL a:=fun e=>hab (uP e).symm
 have hlen:=dB hb
 have e2:sub d 0 2=some [a,b]:=by
  rw[yM (by decide) (by omega) (by omega)]
  match d,ha,hb with
  |x::y::r,ha,hb=>
   simp only[List.getElem?_cons_zero,List.getElem?_cons_succ,Option.some.injEq] at ha hb
   subst ha hb
   rfl
 unfold lL
 rw[bsm,hd,bsm,e2,bsm]
 have r0:=watch_round (x1:=id) (x3:=[a,b]) (k:=0) (W:=s.watches) rfl (by simp) hla hRa hRal
 have r1:=watch_round (x1:=id) (x3:=[a,b]) (k:=1) (W:=(s.watches.1.set (ixL a) (Ra++[id]),s.watches.2)) rfl (by simp) hlb (by show(s.watches.1.set _ _)[ixL b]?=_;rw[dA hix];exact hRb) hRbl
 rw[iC r0,iC r1,eQ (b:=((s.watches.1.set (ixL a) (Ra++[id])).set (ixL b) (Rb++[id]),s.watches.2)) (by simp[lC]),bsm]
 simp only
 rw[set_self hd]
def SvOk (n:Int) (sv:List Int):Prop:=(sv.length:Int)=n+1∧∀(v:Nat) x,1≤v→sv[v]?=some x→x=v∨x= -(v:Int)
theorem SvOk.set {sv:List Int} (h:SvOk n sv) {x:Int} (hx:x≠0):SvOk n (sv.set (vr x).toNat x):=by
 refine⟨by rw[List.length_set];exact h.1,fun v y hv hy=>?_⟩
 rcases eF hy with⟨rfl,rfl⟩|⟨_,hy⟩
 ·have:=O3 y
  have:=jY y
  omega
 exact h.2 v y hv hy
set_option maxHeartbeats 1000000 in
theorem undo_loop (hn:0≤n∧n≤65536) {dr sv:List Int} {q:Que} (hd:∀x∈dr,vr x≤n∧x≠0) (hdl:dr.length≤1000000) (hv:(val.length:Int)=n+1) (hr:(rea.length:Int)=n+1) (hs:SvOk n sv) (hq:QOk n q):
  ∃r,dE (fun s:Int×List Int×List (Option Nat)×List Int×List Int×List Bool=>jO dr s.1 s.2.1 s.2.2.1 s.2.2.2.1 s.2.2.2.2.1 s.2.2.2.2.2) (0,val,rea,sv,q.list,q.isin)=some r∧
   r.1.length=val.length∧(∀(v:Nat),(∃x∈dr,(vr x).toNat=v)→r.1[v]?=some 0∨val.length≤v)∧(∀(v:Nat),(∀x∈dr,(vr x).toNat≠v)→r.1[v]?=val[v]?)∧
   r.2.1.length=rea.length∧(∀(v:Nat) o,r.2.1[v]?=some o→o=none∨rea[v]?=some o)∧(∀(v:Nat),(∀x∈dr,(vr x).toNat≠v)→r.2.1[v]?=rea[v]?)∧
   SvOk n r.2.2.1∧QOk n (Que.mk r.2.2.2.1 r.2.2.2.2)∧(∀x∈q.list,x∈r.2.2.2.1)∧∀x∈dr,vr x∈r.2.2.2.1:=by
 refine uA (body:=fun s:Int×List Int×List (Option Nat)×List Int×List Int×List Bool=>jO dr s.1 s.2.1 s.2.2.1 s.2.2.2.1 s.2.2.2.2.1 s.2.2.2.2.2) dr.length (fun k (t:List Int×List (Option Nat)×List Int×List Int×List Bool)=>((k:Int),t))
  (fun k r=>r.1.length=val.length∧(∀(v:Nat),(∃x∈dr.take k,(vr x).toNat=v)→r.1[v]?=some 0∨val.length≤v)∧(∀(v:Nat),(∀x∈dr.take k,(vr x).toNat≠v)→r.1[v]?=val[v]?)∧
   r.2.1.length=rea.length∧(∀(v:Nat) o,r.2.1[v]?=some o→o=none∨rea[v]?=some o)∧(∀(v:Nat),(∀x∈dr.take k,(vr x).toNat≠v)→r.2.1[v]?=rea[v]?)∧
   SvOk n r.2.2.1∧QOk n (Que.mk r.2.2.2.1 r.2.2.2.2)∧(∀x∈q.list,x∈r.2.2.2.1)∧∀x∈dr.take k,vr x∈r.2.2.2.1) _ (t0:=(val,rea,sv,q.list,q.isin)) rfl
  ⟨rfl,fun v ⟨x,hx,_⟩=>by simp at hx,fun v _=>rfl,rfl,fun v o h=>Or.inr h,fun v _=>rfl,hs,hq,fun x h=>h,fun x hx=>by simp at hx⟩ ?_ ?_
 ·rintro k ⟨v',r',s',ql,qi⟩ hk ⟨h1,h2,h3,g1,g2,g3,hs',hq',hqo,hqn⟩
  simp only at h1 h2 h3 g1 g2 g3 hs' hq' hqo hqn
  obtain⟨x,hx⟩:=bM hk
  obtain⟨hxn,hx0⟩:=hd x (bP hx)
  have hxb:=nM.1 hxn
  have hx1:=jY x
  have hx2:vr x≠0:=fun e=>hx0 (qJ.1 e)
  have htk:=dN hx
  obtain⟨y1,e1⟩:=bM (show(vr x).toNat<v'.length by omega)
  obtain⟨y2,e2⟩:=bM (show(vr x).toNat<r'.length by omega)
  obtain⟨y3,e3⟩:=bM (show(vr x).toNat<s'.length by have:=hs'.1;omega)
  obtain⟨y4,e4⟩:=bM (show(vr x).toNat<qi.length by have:(qi.length:Int)=n+1:=hq'.il;omega)
  have hup:=iH hk (show dr.length≤9223372036854775807 by omega)
  have a1:(v'.set (vr x).toNat 0).length=val.length:=by rw[List.length_set];exact h1
  have a2:∀(v:Nat),(∃z∈dr.take (k+1),(vr z).toNat=v)→(v'.set (vr x).toNat 0)[v]?=some 0∨val.length≤v:=fun v hv'=>by
   rw[htk] at hv'
   obtain⟨z,hz,rfl⟩:=hv'
   by_cases e:(vr z).toNat=(vr x).toNat
   ·rw[e];exact Or.inl (dO e1)
   rw[dA e]
   rw[List.mem_append,List.mem_singleton] at hz
   rcases hz with hz|rfl
   ·exact h2 _ ⟨z,hz,rfl⟩
   exact absurd rfl e
  have a3:∀(v:Nat),(∀z∈dr.take (k+1),(vr z).toNat≠v)→(v'.set (vr x).toNat 0)[v]?=val[v]?:=fun v hv'=>by
   rw[htk] at hv'
   rw[dA (fun e=>hv' x (by simp) e.symm)]
   exact h3 v fun z hz=>hv' z (List.mem_append_left _ hz)
  have b1:(r'.set (vr x).toNat none).length=rea.length:=by rw[List.length_set];exact g1
  have b2:∀(v:Nat) o,(r'.set (vr x).toNat none)[v]?=some o→o=none∨rea[v]?=some o:=fun v o ho=>by
   rcases eF ho with⟨_,rfl⟩|⟨_,ho⟩
   ·exact Or.inl rfl
   exact g2 v o ho
  have b3:∀(v:Nat),(∀z∈dr.take (k+1),(vr z).toNat≠v)→(r'.set (vr x).toNat none)[v]?=rea[v]?:=fun v hv'=>by
   rw[htk] at hv'
   rw[dA (fun e=>hv' x (by simp) e.symm)]
   exact g3 v fun z hz=>hv' z (List.mem_append_left _ hz)
  have c1:=hs'.set (n:=n) hx0
  simp only[jO,ltB hk,if_true,bY hx,bsm,xO (show -1099511627776≤x∧x≤1099511627776 by omega),kQ hx1 e1,kQ hx1 e2,kQ hx1 e3,kQ hx1 e4]
  cases y4 with
  |true=>
   simp only[Bool.not_true,Bool.false_eq_true,if_false,hup,bsm]
   refine Or.inl ⟨(v'.set (vr x).toNat 0,r'.set (vr x).toNat none,s'.set (vr x).toNat x,ql,qi),rfl,a1,a2,a3,b1,b2,b3,c1,hq',hqo,fun z hz=>?_⟩
   rw[htk,List.mem_append,List.mem_singleton] at hz
   rcases hz with hz|rfl
   ·exact hqn z hz
   have:=(hq'.ii (vr z).toNat).1 e4
   rwa [Int.toNat_of_nonneg hx1] at this
  |false=>
   have hnew:vr x∉ql:=fun hm=>by
    have:=(hq'.ii (vr x).toNat).2 (by rw[Int.toNat_of_nonneg hx1];exact hm)
    have h5:qi[(vr x).toNat]?=some true:=this
    rw[e4] at h5
    cases h5
   obtain⟨q2,p1,p2,p3⟩:=push_ok hq' hn (v:=vr x) ⟨by omega,hxn⟩ hnew
   simp only[Bool.not_false,if_true,p1,hup,bsm]
   refine Or.inl ⟨(v'.set (vr x).toNat 0,r'.set (vr x).toNat none,s'.set (vr x).toNat x,q2.list,q2.isin),rfl,a1,a2,a3,b1,b2,b3,c1,p2,fun z hz=>(p3 z).2 (Or.inr (hqo z hz)),fun z hz=>?_⟩
   rw[htk,List.mem_append,List.mem_singleton] at hz
   rcases hz with hz|rfl
   ·exact(p3 _).2 (Or.inr (hqn z hz))
   exact(p3 _).2 (Or.inl rfl)
 rintro⟨v',r',s',ql,qi⟩ hI
 rw[List.take_length] at hI
 refine⟨(v',r',s',ql,qi),?_,hI⟩
 simp only[jO,qZ,if_false,Bool.false_eq_true]
end
def Unq (n:Int) (val:List Int) (l:List Int):Prop:=∀v:Int,1≤v→v≤n→val[v.toNat]?=some 0→v∈l
section
variable {n:Int} {F:List (List Int)} {st:List Int} {D:Nat→Int→Prop}
theorem sundo_ok {s:Sol} (h:Cor n F s.starts D s.value s.level s.reason s.trail s.watches.1 s.watches.2) (hn:0≤n∧n≤65536) (hs:SvOk n s.saved) (hq:QOk n s.queue) (hu:Unq n s.value s.queue.list) {k:Nat} {b:Int} (hk:s.starts[k]?=some b):
  ∃v' r' sv' q',pG s (k:Int)=some (Sol.mk v' s.level r' sv' s.watches (s.trail.take b.toNat) (s.starts.take k) b q' s.proof s.literals s.broken)∧Cor n F (s.starts.take k) (fun _ w=> -w∈s.trail.take b.toNat) v' s.level r' (s.trail.take b.toNat) s.watches.1 s.watches.2∧SvOk n sv'∧QOk n q'∧Unq n v' q'.list:=by
 have hkl:=dB hk
 have hb:=h.stb b (bP hk)
 have htl:=h.eng.trailLen hn.1
 obtain⟨r,e1,a1,a2,a3,b1,b2,b3,c1,c2,c3,c4⟩:=undo_loop (n:=n) (val:=s.value) (rea:=s.reason) hn (dr:=s.trail.drop b.toNat) (sv:=s.saved) (q:=s.queue) (fun x hx=>by
  have:=h.lit (List.mem_of_mem_drop hx);exact⟨this.2,this.1⟩) (by rw[List.length_drop];omega) h.eng.vo.len h.rl hs hq
 unfold pG
 have s1:sub s.trail b (s.trail.length:Int)=some (s.trail.drop b.toNat):=by
  rw[yM hb.1 (by omega) (by omega),Int.toNat_natCast,List.take_length]
 have s2:sub s.trail 0 b=some (s.trail.take b.toNat):=by rw[yM (by decide) hb.1 (by omega)];rfl
 have s3:sub s.starts 0 (k:Int)=some (s.starts.take k):=by rw[yM (by decide) (by omega) (by omega),Int.toNat_natCast];rfl
 rw[if_neg (by simp;omega),bY hk,bsm,s1,bsm,e1,bsm,s2,bsm,s3,bsm]
 refine⟨r.1,r.2.1,r.2.2.1,Que.mk r.2.2.2.1 r.2.2.2.2,rfl,h.undo hk a1 b1 a2 a3 b2 b3,c1,c2,fun v hv1 hv2 hv0=>?_⟩
 by_cases hx:∃x∈s.trail.drop b.toNat,(vr x).toNat=v.toNat
 ·obtain⟨x,hx,e⟩:=hx
  have:=c4 x hx
  have h1:=jY x
  rwa [show vr x=v by omega] at this
 have:∀x∈s.trail.drop b.toNat,(vr x).toNat≠v.toNat:=fun x h1 h2=>hx ⟨x,h1,h2⟩
 rw[a3 _ this] at hv0
 exact c3 v (hu v hv1 hv2 hv0)
theorem sdecide_ok {s:Sol} (h:Cor n F s.starts (fun _ w=> -w∈s.trail) s.value s.level s.reason s.trail s.watches.1 s.watches.2) (hn:0≤n∧n≤65536) (hs:SvOk n s.saved) (hq:QOk n s.queue) (hu:Unq n s.value s.queue.list):
  (∃v' l' r' q' x,kS s=some (true,Sol.mk v' l' r' s.saved s.watches (s.trail++[x]) (s.starts++[(s.trail.length:Int)]) s.head q' s.proof s.literals s.broken)∧Cor n F (s.starts++[(s.trail.length:Int)]) (fun _ w=> -w∈s.trail) v' l' r' (s.trail++[x]) s.watches.1 s.watches.2∧QOk n q'∧Unq n v' q'.list)∨
  (∃q',kS s=some (false,Sol.mk s.value s.level s.reason s.saved s.watches s.trail s.starts s.head q' s.proof s.literals s.broken)∧∀v:Int,1≤v→v≤n→s.value[v.toNat]?≠some 0):=by
 have htl:=h.eng.trailLen hn.1
 obtain⟨b,hb,hp⟩:=xA (body:=fun t:List Int×List Bool=>nG s t.1 t.2) (fun t=>QOk n (Que.mk t.1 t.2)∧Unq n s.value t.1) (fun t=>t.1.length)
  (fun b=>(∃v' l' r' q' x,b= .ret (true,Sol.mk v' l' r' s.saved s.watches (s.trail++[x]) (s.starts++[(s.trail.length:Int)]) s.head q' s.proof s.literals s.broken)∧Cor n F (s.starts++[(s.trail.length:Int)]) (fun _ w=> -w∈s.trail) v' l' r' (s.trail++[x]) s.watches.1 s.watches.2∧QOk n q'∧Unq n v' q'.list)∨
   (∃t,b= .brk t∧∀v:Int,1≤v→v≤n→s.value[v.toNat]?≠some 0)) (by
  rintro⟨ql,qi⟩ ⟨hq,hu⟩
  simp only at hq hu
  unfold nG kJ
  rw[bsm]
  by_cases hne:ql=[]
  ·subst hne
   rw[if_neg (by simp)]
   exact Or.inr ⟨_,rfl,Or.inr ⟨_,rfl,fun v h1 h2 h3=>by have:=hu v h1 h2 h3;simp at this⟩⟩
  obtain⟨v,q',p1,p2,p3,p4,p5⟩:=pop_ok hq hn hne
  have hv:=hq.rng v p2
  obtain⟨y,hy⟩:=bM (show v.toNat<s.value.length by have:=h.eng.vo.len;omega)
  rw[if_pos (by simp;exact List.length_pos_iff.2 hne),p1,bsm,kQ (by omega) hy,bsm]
  by_cases h0:y=0
  ·subst h0
   obtain⟨x,hx⟩:=bM (show v.toNat<s.saved.length by have:=hs.1;omega)
   have hx2:=hs.2 v.toNat x (by omega) hx
   have hvx:vr x=v:=by unfold vr;omega
   have hstl:s.starts.length≤s.trail.length:=by
    have h1:=yD s.trail.length (s.starts.map Int.toNat) (by
     unfold List.Nodup
     rw[List.pairwise_map]
     refine List.Pairwise.imp_of_mem (fun{a b} ha hb hlt=>?_) h.sts
     have:=h.stb a ha
     have:=h.stb b hb
     omega) (fun z hz=>by
     obtain⟨b,hb,rfl⟩:=List.mem_map.1 hz
     have:=h.stb b hb
     omega)
    rwa [List.length_map] at h1
   have hz:gv s.value x=some 0:=by unfold gv;rw[hvx];exact hy
   rw[if_pos (by simp),qA (by simp;omega),bsm,kQ (by omega) hx,bsm]
   dsimp only
   rw[aA2 (s:=Sol.mk s.value s.level s.reason s.saved s.watches s.trail (s.starts++[(s.trail.length:Int)]) s.head q' s.proof s.literals s.broken) h (by rw[hvx];omega) hn.2 hn.1 none rfl rfl rfl rfl,bsm]
   refine Or.inr ⟨_,rfl,Or.inl ⟨_,_,_,q',x,rfl,?_,p3,fun w h1 h2 h3=>(p5 w).2 ?_⟩⟩
   ·have hlen:((s.starts++[(s.trail.length:Int)]).length:Int)=(s.starts.length:Int)+1:=by simp
    simp only[hlen]
    exact h.decide (by omega) (by rw[hvx];omega) hz
   rcases eF h3 with⟨e,e0⟩|⟨hne,h3⟩
   ·omega
   exact⟨fun e=>hne (by rw[hvx,e]),hu w h1 h2 h3⟩
  rw[if_neg (by simpa using h0)]
  refine Or.inl ⟨_,rfl,⟨p3,fun w h1 h2 h3=>(p5 w).2 ⟨fun e=>?_,hu w h1 h2 h3⟩⟩,p4⟩
  subst e
  exact h0 (Option.some.inj (hy.symm.trans h3))) (s.queue.list,s.queue.isin) ⟨hq,hu⟩
 unfold kS
 rw[hb,bsm]
 rcases hp with⟨v',l',r',q',x,rfl,h1⟩|⟨t,rfl,h1⟩
 ·exact Or.inl ⟨v',l',r',q',x,rfl,h1⟩
 exact Or.inr ⟨_,rfl,h1⟩
end
structure SInv (n:Int) (F:List (List Int)) (s:Sol):Prop where
 cor:Cor n F s.starts (fun _ w=> -w∈s.trail.take s.head.toNat) s.value s.level s.reason s.trail s.watches.1 s.watches.2
 hd:0≤s.head∧s.head≤s.trail.length∧∀b∈s.starts,b≤s.head
 q:QOk n s.queue
 un:Unq n s.value s.queue.list
 sv:SvOk n s.saved
 unit:s.broken=false→∀l,[l]∈F→∃k:Nat,s.trail[k]?=some l∧lvl s.starts k=0
 emp:s.broken=false→[]∉F
 brk:s.broken=true→Fails F []
 cll:s.watches.2.length≤F.length
section
variable {n:Int} {F:List (List Int)}
theorem Cor.idsQ {st:List Int} {D:Nat→Int→Prop} {val lev:List Int} {rea:List (Option Nat)} {trail:List Int} {ws:List (List Nat)} {cl:List (List Int)} (h:Cor n F st D val lev rea trail ws cl):guardQ cl.length rea=some ():=by
 unfold guardQ idsOkQ
 rw[if_pos]
 rw[List.all_eq_true]
 intro o ho
 cases o with
 |none=>rfl
 |some i=>simpa using h.rid i ho
theorem Cor.put {st:List Int} {D:Nat→Int→Prop} {val lev:List Int} {rea:List (Option Nat)} {trail:List Int} {ws:List (List Nat)} {cl:List (List Int)} (h:Cor n F st D val lev rea trail ws cl) (c:List Int):arPut cl ws c=some (cl++[c]):=by
 unfold arPut;rw[if_pos h.eng.ids]
theorem sadd_ok (hn:0≤n∧n≤65536) (hF:F.length≤1000000) {s:Sol} (h:SInv n F s) (hst:s.starts=[]) (hh:s.head=0) {q:List Int} (hq:uK n q):
  ∃v l r W t br,nK s q=some (Sol.mk v l r s.saved W t s.starts s.head s.queue s.proof s.literals br)∧SInv n (F++[q]) (Sol.mk v l r s.saved W t s.starts s.head s.queue s.proof s.literals br):=by
 have hC:=h.cor
 have hFm:∀c∈F,c∈F++[q]:=fun c hc=>List.mem_append_left _ hc
 have hqm:q∈F++[q]:=List.mem_append_right _ (List.mem_singleton.2 rfl)
 have hlv0:∀k:Nat,lvl s.starts k=0:=fun k=>by rw[hst];rfl
 have hql:=hq.len hn
 have hun2:∀{s':Sol},s'.broken=true→∀c:List Int,c∈F++[q]→s'.broken=false→False:=fun hb c _ hf=>by rw[hb] at hf;cases hf
 unfold nK
 by_cases h0:q.length=0
 ·have:q=[]:=List.eq_nil_of_length_eq_zero h0
  subst this
  rw[if_pos (by simp)]
  exact⟨_,_,_,_,_,true,rfl,hC.addU (by simp),h.hd,h.q,h.un,h.sv,fun e=>(by cases e),fun e=>(by cases e),fun _=>Or.inr ⟨[],hqm,by simp⟩,by show s.watches.2.length≤_;rw[List.length_append];have:=h.cll;omega⟩
 rw[if_neg (by simpa using h0)]
 by_cases h1:q.length=1
 ·obtain⟨x,rfl⟩:=List.length_eq_one_iff.1 h1
  have hx:=hq.1 x (by simp)
  rw[if_pos (by simp),show idx [x] 0=some x from rfl,bsm]
  obtain⟨r,hr,hcase⟩:=sof_ok hC.eng hx.1 hx.2 hn.2 (s:=s) rfl
  have hux:UP (F++[[x]]) [] x:= .unit hqm (by simp) fun y hy hne=>absurd (List.mem_singleton.1 hy) hne
  have hCU:=hC.addU (q:=[x]) (by simp)
  have hcll:s.watches.2.length≤(F++[[x]]).length:=by rw[List.length_append];have:=h.cll;omega
  rw[hr,bsm]
  rcases hcase with⟨rfl,hm⟩|⟨rfl,hm⟩|⟨rfl,hz,hm,hm'⟩
  ·
   rw[if_neg (by decide),if_neg (by decide)]
   refine⟨_,_,_,_,_,s.broken,rfl,hCU,h.hd,h.q,h.un,h.sv,fun e l hl=>?_,fun e hm2=>?_,fun e=>(h.brk e).mono hFm (fun _ h=>h),hcll⟩
   ·rcases List.mem_append.1 hl with hl|hl
    ·exact h.unit e l hl
    simp only[List.mem_singleton,List.cons.injEq,and_true] at hl
    subst hl
    obtain⟨k,hk⟩:=List.getElem?_of_mem hm
    exact⟨k,hk,hlv0 k⟩
   rcases List.mem_append.1 hm2 with hm2|hm2
   ·exact h.emp e hm2
   simp at hm2
  ·
   rw[if_pos (by decide)]
   obtain⟨k,hk⟩:=List.getElem?_of_mem hm
   refine⟨_,_,_,_,_,true,rfl,hCU,h.hd,h.q,h.un,h.sv,fun e=>(by cases e),fun e=>(by cases e),fun _=>Or.inl ⟨x,hux,(hC.up0 k hk (hlv0 k)).mono hFm (fun _ h=>h)⟩,hcll⟩
  rw[if_neg (by decide),if_pos (by decide),bsm,aA2 hC hx.2 hn.2 hn.1 none rfl rfl rfl rfl,bsm]
  have hw:Why (F++[[x]]) s.starts s.trail s.watches.2 s.trail.length x none:=Or.inr ⟨hlv0 _,hux⟩
  have h2:=hCU.hold hx.1 hx.2 hz hw (fun id e=>by cases e)
  have htk:(s.trail++[x]).take s.head.toNat=s.trail.take s.head.toNat:=List.take_append_of_le_length (by have:=h.hd;omega)
  refine⟨_,_,_,_,_,s.broken,rfl,?_,⟨h.hd.1,by show s.head≤((s.trail++[x]).length:Int);rw[List.length_append];have:=h.hd;omega,h.hd.2.2⟩,h.q,fun v hv1 hv2 hv0=>?_,h.sv,fun e l hl=>?_,fun e hm2=>?_,fun e=>(h.brk e).mono hFm (fun _ h=>h),hcll⟩
  ·show Cor n (F++[[x]]) s.starts (fun _ w=> -w∈(s.trail++[x]).take s.head.toNat) _ _ _ (s.trail++[x]) s.watches.1 s.watches.2
   rw[htk];exact h2
  ·rcases eF hv0 with⟨_,e⟩|⟨_,hv0⟩
   ·exact absurd e.symm hx.1
   exact h.un v hv1 hv2 hv0
  ·show ∃k:Nat,(s.trail++[x])[k]?=some l∧lvl s.starts k=0
   rcases List.mem_append.1 hl with hl|hl
   ·obtain⟨k,hk,hk2⟩:=h.unit e l hl
    exact⟨k,by rw[List.getElem?_append_left (dB hk)];exact hk,hk2⟩
   simp only[List.mem_singleton,List.cons.injEq,and_true] at hl
   subst hl
   exact⟨s.trail.length,by simp,hlv0 _⟩
  rcases List.mem_append.1 hm2 with hm2|hm2
  ·exact h.emp e hm2
  simp at hm2
 rw[if_neg (by simp;omega)]
 have h2:2≤q.length:=by omega
 obtain⟨a,ha⟩:=bM (show 0<q.length by omega)
 obtain⟨b,hb⟩:=bM (show 1<q.length by omega)
 have hla:=hq.1 a (bP ha)
 have hlb:=hq.1 b (bP hb)
 have hab:a≠b:=fun e=>by subst e;have:=pI hq.2 ha hb;omega
 obtain⟨Ra,hRa⟩:=hC.eng.rowAt hla.2
 obtain⟨Rb,hRb⟩:=hC.eng.rowAt hlb.2
 have hRal:=hC.eng.rowLen hRa
 have hRbl:=hC.eng.rowLen hRb
 have hcll:=h.cll
 have hva:=nM.1 hla.2
 have hvb:=nM.1 hlb.2
 rw[qA (by simp;omega),bsm,List.nil_append,hC.put,bsm,hC.idsQ,bsm]
 have hset:(s.watches.2++[q]).set s.watches.2.length q=s.watches.2++[q]:=set_self (by simp)
 rw[swatch_ok (s:=Sol.mk s.value s.level s.reason s.saved ((s.watches.1,s.watches.2++[q]).1,(s.watches.1,s.watches.2++[q]).2.set s.watches.2.length q) s.trail s.starts s.head s.queue s.proof s.literals s.broken) (d:=q) (by simp only[hset];simp) ha hb hab ⟨by omega,by omega⟩ ⟨by omega,by omega⟩ hRa hRb (by omega) (by omega),bsm]
 simp only[hset]
 refine⟨_,_,_,_,_,s.broken,rfl,?_,h.hd,h.q,h.un,h.sv,fun e l hl=>?_,fun e hm2=>?_,fun e=>(h.brk e).mono hFm (fun _ h=>h),by simp;omega⟩
 ·have h3:=hC.addW (q:=q) (d:=q) h2 ha hb hq.2 hq.1 (fun _=>Iff.rfl) hRa hRb (fun c hc=>by rw[hst] at hc;simp at hc)
  refine h3.more fun id c w o _ _ hd=>?_
  have hd: -w∈s.trail.take s.head.toNat:=hd
  rw[hh] at hd
  simp at hd
 ·rcases List.mem_append.1 hl with hl|hl
  ·exact h.unit e l hl
  simp only[List.mem_singleton] at hl
  rw[←hl] at h1
  simp at h1
 rcases List.mem_append.1 hm2 with hm2|hm2
 ·exact h.emp e hm2
 simp only[List.mem_singleton] at hm2
 rw[←hm2] at h2
 simp at h2
end
theorem normal_ok {c:List Int} {v:Int} (hv:0≤v∧v≤1099511627776) (hc:c.length≤9223372036854775807):uF c v=some (clF v 0 c):=by
 unfold uF
 have w:∀x:Int,-1099511627776≤x∧x≤1099511627776→IntKind.wrap .i64 (0-x)= -x:=fun x hx=>by rw[IntKind.wrap_i64];omega
 have h:=loopL (body:=fun s:Int×Int=>qG c v s.1 s.2) (s0:=((0:Int),(0:Int))) c (fun k t=>(t,(k:Int)))
  (stCl v) (fun _=>Out.brk ()) (fun _ _=>True) (t0:=(0:Int)) rfl trivial ?_ ?_
 ·rw[h,bsm,←runL_clF (Int.le_refl 0)]
  generalize yG (stCl v) (fun _=>Out.brk ()) c 0=o
  cases o<;>rfl
 ·intro k a t hk _
  refine⟨?_,fun _ _=>trivial⟩
  simp only[qG,stCl]
  rw[if_pos (ltB (dB hk)),bY hk,bsm,w v (by omega)]
  by_cases h1:(decide (a< -v)||decide (v<a))=true
  ·simp[h1]
  have h1':(decide (a< -v)||decide (v<a))=false:=by simpa using h1
  simp only[Bool.or_eq_true,decide_eq_true_eq,not_or] at h1
  rw[w a (by omega),show max a (-a)=vr a by unfold vr;omega]
  simp only[h1',Bool.false_or]
  by_cases h2:vr a≤t
  ·simp[h2]
  simp[h2,iH (dB hk) hc]
 intro t _
 simp only[qG]
 rw[if_neg qZ]
theorem clF_mono {v w:Int} (h:v≤w):∀{t:Int} {c:List Int},clF v t c=true→clF w t c=true
 |_,[],_=>rfl
 |t,x::c,hc=>by
  unfold clF at hc⊢
  simp only[Bool.and_eq_true,decide_eq_true_eq] at hc⊢
  exact⟨⟨⟨by omega,by omega⟩,hc.1.2⟩,clF_mono h hc.2⟩
def nV (p:List (List Int)):Nat:=(p.map List.length).sum
theorem litN_take {p:List (List Int)} {k:Nat} {c:List Int} (h:p[k]?=some c):nV (p.take (k+1))=nV (p.take k)+c.length:=by
 unfold nV;rw[dN h];simp
theorem litN_app (p q:List (List Int)):nV (p++q)=nV p+nV q:=by unfold nV;simp
theorem litN_mono (p:List (List Int)) (k:Nat):nV (p.take k)≤nV p:=by
 have:=litN_app (p.take k) (p.drop k)
 rw[List.take_append_drop] at this;omega
def yE (v:Int) (p:List (List Int)):Bool:=p.all (clF v 0)&&decide (nV p≤1048576)
theorem sZ {v:Int} {p:List (List Int)}:yE v p=true↔(∀c∈p,clF v 0 c=true)∧nV p≤1048576:=by
 unfold yE;rw[Bool.and_eq_true,List.all_eq_true,decide_eq_true_eq]
def PLen (p:List (List Int)):Prop:=p.length≤400000∧∀c∈p,c.length≤400000
theorem PLen.lit {p:List (List Int)} (h:PLen p) (k:Nat):nV (p.take k)≤k*400000:=by
 induction k with
 |zero=>simp[nV]
 |succ k ih=>
  by_cases hk:k<p.length
  ·obtain⟨c,hc⟩:=bM hk
   have:=h.2 c (bP hc)
   rw[litN_take hc];omega
  have e1:p.take k=p:=List.take_of_length_le (by omega)
  have e2:p.take (k+1)=p:=List.take_of_length_le (by omega)
  have e3:=congrArg nV e1
  have e4:=congrArg nV e2
  omega
theorem PLen.all {p:List (List Int)} (h:PLen p):nV p≤160000000000:=by
 have h1:=h.lit p.length
 rw[List.take_length] at h1
 have h2:p.length*400000≤400000*400000:=Nat.mul_le_mul_right _ h.1
 omega
theorem valid_ok {p:List (List Int)} {v:Int} (hv:0≤v∧v≤1099511627776) (hp:PLen p):vJ p v=some (yE v p):=by
 unfold vJ
 obtain⟨b,hb,h⟩:=uA (body:=fun s:Int×Int=>qU p v s.1 s.2) (s0:=((0:Int),(0:Int))) p.length (fun k (t:Nat)=>((t:Int),(k:Int)))
  (fun k t=>t=nV (p.take k)∧t≤1048576∧∀c∈p.take k,clF v 0 c=true) (fun b=>match b with| .brk _=>yE v p=true| .ret r=>r=false∧yE v p=false) (t0:=0) rfl ⟨by simp[nV],by omega,by simp⟩ (by
   rintro k t hk ⟨rfl,h1,h2⟩
   obtain⟨c,hc⟩:=bM hk
   have hcl:=hp.2 c (bP hc)
   have hlt:=litN_take hc
   have e1:inK .i64 ((nV (p.take k):Int)+(c.length:Int))=some ((nV (p.take (k+1)):Nat):Int):=oZ (by omega) ⟨by omega,by omega⟩
   simp only[qU,ltB hk,if_true,bY hc,bsm,e1,normal_ok hv (show c.length≤9223372036854775807 by omega)]
   by_cases h3:((!clF v 0 c)||decide (1048576<((nV (p.take (k+1)):Nat):Int)))=true
   ·refine Or.inr ⟨.ret false,by rw[if_pos h3],rfl,?_⟩
    cases hpb:yE v p with
    |false=>rfl
    |true=>
     have:=sZ.1 hpb
     have h4:=this.1 c (bP hc)
     have h5:=litN_mono p (k+1)
     rw[h4] at h3
     simp at h3
     omega
   ·rw[if_neg h3,iH hk (by have:=hp.1;omega),bsm]
    simp only[Bool.or_eq_true,Bool.not_eq_true',decide_eq_true_eq,not_or,Bool.not_eq_false] at h3
    refine Or.inl ⟨nV (p.take (k+1)),rfl,rfl,by omega,fun d hd=>?_⟩
    rw[dN hc,List.mem_append,List.mem_singleton] at hd
    rcases hd with hd|rfl
    ·exact h2 d hd
    exact h3.1) (by
   rintro t ⟨rfl,h1,h2⟩
   rw[List.take_length] at h1 h2
   exact⟨.brk (),by simp only[qU,qZ,if_false,Bool.false_eq_true],sZ.2 ⟨h2,h1⟩⟩)
 rw[hb,bsm]
 cases b with
 |brk _=>simp only;rw[h]
 |ret r=>simp only;rw[h.1,h.2]
theorem isProof_ok {p:List (List Int)} (hp:PLen p):mO p=some (yE 65536 p):=by
 unfold mO
 obtain⟨b,hb,h⟩:=uA (body:=fun s:Int×Int=>jW p s.1 s.2) (s0:=((0:Int),(0:Int))) p.length (fun k (t:Nat)=>((t:Int),(k:Int)))
  (fun k t=>t=nV (p.take k)∧∀c∈p.take k,clF 65536 0 c=true) (fun b=>match b with| .brk t=>t=(nV p:Int)∧∀c∈p,clF 65536 0 c=true| .ret r=>r=false∧yE 65536 p=false) (t0:=0) rfl ⟨by simp[nV],by simp⟩ (by
   rintro k t hk ⟨rfl,h2⟩
   obtain⟨c,hc⟩:=bM hk
   have hcl:=hp.2 c (bP hc)
   have hlt:=litN_take hc
   have hall:=hp.all
   have hm:=litN_mono p k
   have e1:inK .i64 ((nV (p.take k):Int)+(c.length:Int))=some ((nV (p.take (k+1)):Nat):Int):=oZ (by omega) ⟨by omega,by omega⟩
   simp only[jW,ltB hk,if_true,bY hc,bsm,e1,zF (show(0:Int)≤65536∧(65536:Int)≤1099511627776 by omega) (show c.length≤9223372036854775807 by omega)]
   cases h3:clF 65536 0 c with
   |false=>
    refine Or.inr ⟨.ret false,by simp,rfl,?_⟩
    cases hpb:yE 65536 p with
    |false=>rfl
    |true=>have:=(sZ.1 hpb).1 c (bP hc);rw[h3] at this;cases this
   |true=>
    refine Or.inl ⟨nV (p.take (k+1)),?_,rfl,fun d hd=>?_⟩
    ·simp only[Bool.not_true,Bool.false_eq_true,if_false,iH hk (show p.length≤9223372036854775807 by have:=hp.1;omega),bsm]
    rw[dN hc,List.mem_append,List.mem_singleton] at hd
    rcases hd with hd|rfl
    ·exact h2 d hd
    exact h3) (by
   rintro t ⟨rfl,h2⟩
   rw[List.take_length] at h2
   exact⟨.brk (nV (p.take p.length):Int),by simp only[jW,qZ,if_false,Bool.false_eq_true],by rw[List.take_length],h2⟩)
 rw[hb,bsm]
 cases b with
 |brk t=>
  obtain⟨rfl,h2⟩:=h
  simp only
  have:yE 65536 p=decide (nV p≤1048576):=by
   unfold yE
   rw[List.all_eq_true.2 h2,Bool.true_and]
  rw[this]
  congr 1
  by_cases hh:nV p≤1048576
  ·rw[decide_eq_true hh,decide_eq_true (by omega)]
  rw[decide_eq_false hh,decide_eq_false (by omega)]
 |ret r=>simp only;rw[h.1,h.2]
noncomputable def chkB (f:Formula) (p:List (List Int)):Bool:=lX f&&yE f.vars p&&accB f.clauses p
theorem aA6 {f:Formula} (h:lX f=true):∀c∈f.clauses,uK f.vars c:=fun c hc=>clF_ok ((oM h).2.2.2 c hc)
theorem prov_cl {v:Int} {p:List (List Int)} (h:yE v p=true):∀c∈p,uK v c:=fun c hc=>clF_ok ((sZ.1 h).1 c hc)
theorem check_ok {f:Formula} {p:List (List Int)} (hf:FLen f.clauses) (hp:PLen p):sV f p=some (chkB f p):=by
 unfold sV chkB
 rw[cnf_valid hf,bsm]
 cases hv:lX f with
 |false=>simp
 |true=>
  have hb:=oM hv
  rw[if_pos rfl,valid_ok (by omega) hp,bsm,bsm]
  cases hpr:yE f.vars p with
  |false=>simp
  |true=>
   rw[if_pos rfl,accepted_ok ⟨hb.1,hb.2.1⟩ (by have:=hp.1;omega) (aA6 hv) (prov_cl hpr),bsm,bsm]
   simp
theorem closed_iff {n:Int} {F:List (List Int)} {S:List Int} (hL:Lits n F S) {r:List Int×Bool} (h:(r.2=true∧ValOk n F S r.1∧(∀l∈S,gv r.1 l=some l)∧∀c∈F,Good r.1 c)∨(r.2=false∧Fails F S)):(!r.2)=true↔Fails F S:=by
 rcases h with⟨h1,h2,h3,h4⟩|⟨h1,h2⟩
 ·rw[h1]
  exact⟨fun h=>(by cases h),fun h=>absurd h (closed_ok hL h2 h3 h4)⟩
 rw[h1]
 exact⟨fun _=>h2,fun _=>rfl⟩
theorem follows_ref {f:Formula} {q:List Int} (hn:0≤f.vars∧f.vars≤65536) (hF:∀c∈f.clauses,uK f.vars c) (hl:f.clauses.length≤4294967296) (hq:uK f.vars q):
  ∃r,mM f q=some r∧(r=true↔Fails f.clauses (uS q)):=by
 have hql:=hq.len hn
 unfold mM
 obtain⟨b,hb,rfl⟩:=uA (body:=fun s:Int×List Int=>jV q s.1 s.2) (s0:=((0:Int),([]:List Int))) q.length (fun k t=>((k:Int),t)) (fun k t=>t=uS (q.take k)) (fun b=>b=uS q) (t0:=[]) rfl rfl (by
   rintro k t hk rfl
   obtain⟨y,hy⟩:=bM hk
   have hyb:=nM.1 (hq.1 y (bP hy)).2
   refine Or.inl ⟨uS (q.take (k+1)),?_,rfl⟩
   simp only[jV,ltB hk,if_true,bY hy,bsm,oZ (n:=0-y) (m:= -y) (by omega) ⟨by omega,by omega⟩]
   rw[qA (by simp[uS];omega),bsm,iH hk (by omega),bsm,dN hy]
   simp[uS]) (by
   rintro t rfl
   exact⟨uS (q.take q.length),by simp only[jV,qZ,if_false,Bool.false_eq_true],by rw[List.take_length]⟩)
 rw[hb,bsm]
 have hL:=lits_of hn hF hq
 obtain⟨r,hr,hcase⟩:=ref_closure hL (by simp[uS];omega) hl (fun c hc=>by have:=(hF c hc).len hn;omega)
 rw[hr,bsm]
 exact⟨_,rfl,closed_iff hL hcase⟩
theorem ref_check {f:Formula} {p:List (List Int)} (hf:FLen f.clauses) (hp:PLen p):oC f p=some (chkB f p):=by
 unfold oC
 rw[ref_valid hf,bsm]
 have no:(lX f=true→yE f.vars p=true→p.getLast?=some []→yL f.clauses p→False)→chkB f p=false:=fun h=>by
  cases hc:chkB f p with
  |false=>rfl
  |true=>
   unfold chkB at hc
   simp only[Bool.and_eq_true] at hc
   have:=I5.1 hc.2
   exact(h hc.1.1 hc.1.2 this.1 this.2).elim
 cases hv:lX f with
 |false=>rw[if_pos (by simp),bsm];simp only[Bool.true_or,if_true,bsm];rw[no (fun h=>by rw[hv] at h;cases h)]
 |true=>
  have hb:=oM hv
  rw[if_neg (by simp),isProof_ok hp,bsm,bsm]
  cases hp6:yE 65536 p with
  |false=>
   simp only[Bool.not_false,Bool.true_or,if_true,bsm]
   rw[no (fun _ h _ _=>by
    have h1:=sZ.1 h
    rw[sZ.2 ⟨fun c hc=>clF_mono hb.2.1 (h1.1 c hc),h1.2⟩] at hp6;cases hp6)]
  |true=>
   simp only[Bool.not_true,Bool.false_or]
   by_cases h0:p.length=0
   ·have:p=[]:=List.eq_nil_of_length_eq_zero h0
    rw[if_pos (by simpa using h0),bsm,if_pos rfl,no (fun _ _ h _=>by rw[this] at h;simp at h)]
   obtain⟨c,hc⟩:=bM (show p.length-1<p.length by omega)
   have hg:p.getLast?=some c:=by rw[List.getLast?_eq_getElem?];exact hc
   have hpl:=hp.1
   rw[if_neg (by simpa using h0),oZ (m:=((p.length-1:Nat):Int)) (by omega) ⟨by omega,by omega⟩,bsm,bY hc,bsm,bsm]
   by_cases hcl:c.length=0
   ·have hnil:c=[]:=List.eq_nil_of_length_eq_zero hcl
    subst hnil
    rw[if_neg (by simp)]
    obtain⟨b,hb2,hpost⟩:=uA (body:=fun s:Int×Int×List (List Int)=>kX p s.1 s.2.1 s.2.2) (s0:=((0:Int),f.vars,f.clauses)) p.length (fun k (t:List (List Int))=>((k:Int),f.vars,t))
     (fun k t=>t=f.clauses++p.take k∧(∀c∈p.take k,clF f.vars 0 c=true)∧(yL f.clauses p↔yL (f.clauses++p.take k) (p.drop k)))
     (fun b=>match b with| .brk _=>(∀c∈p,clF f.vars 0 c=true)∧yL f.clauses p| .ret r=>r=false∧¬((∀c∈p,clF f.vars 0 c=true)∧yL f.clauses p)) (t0:=f.clauses) rfl ⟨by simp,by simp,by simp⟩ (by
      rintro k t hk ⟨rfl,h1,h2⟩
      obtain⟨c,hc⟩:=bM hk
      have hcl:=hp.2 c (bP hc)
      have hacc:yL f.clauses p↔Fails (f.clauses++p.take k) (uS c)∧yL (f.clauses++p.take (k+1)) (p.drop (k+1)):=by
       rw[h2,wI hc,dN hc,←List.append_assoc];exact Iff.rfl
      simp only[kX,ltB hk,if_true,bY hc,bsm,zF (show 0≤f.vars∧f.vars≤1099511627776 by omega) (show c.length≤9223372036854775807 by omega)]
      cases h3:clF f.vars 0 c with
      |false=>
       refine Or.inr ⟨.ret false,?_,rfl,fun h=>?_⟩
       ·simp only[Bool.not_false,if_true,bsm]
       have:=h.1 c (bP hc);rw[h3] at this;cases this
      |true=>
       have hFk:∀d∈f.clauses++p.take k,uK f.vars d:=fun d hd=>by
        rcases List.mem_append.1 hd with hd|hd
        ·exact aA6 hv d hd
        exact clF_ok (h1 d hd)
       have hlk:(f.clauses++p.take k).length≤4294967295:=by rw[List.length_append,List.length_take];omega
       obtain⟨r,hr,hiff⟩:=follows_ref (f:=⟨f.vars,f.clauses++p.take k⟩) ⟨hb.1,hb.2.1⟩ hFk (by show(f.clauses++p.take k).length≤_;omega) (clF_ok h3)
       simp only[Bool.not_true,Bool.false_eq_true,if_false,hr,bsm]
       cases r with
       |false=>
        refine Or.inr ⟨.ret false,by simp only[Bool.not_false,if_true],rfl,fun h=>?_⟩
        have:=hiff.2 (hacc.1 h.2).1
        cases this
       |true=>
        have hw:jD ⟨f.vars,f.clauses++p.take k⟩ c=some ⟨f.vars,f.clauses++p.take (k+1)⟩:=by
         unfold jD
         rw[qA (by show(f.clauses++p.take k).length+1≤_;omega),bsm,dN hc]
         simp
        refine Or.inl ⟨f.clauses++p.take (k+1),?_,rfl,fun d hd=>?_,?_⟩
        ·simp only[Bool.not_true,Bool.false_eq_true,if_false,hw,bsm,iH hk (show p.length≤9223372036854775807 by omega)]
        ·rw[dN hc,List.mem_append,List.mem_singleton] at hd
         rcases hd with hd|rfl
         ·exact h1 d hd
         exact h3
        rw[hacc];exact⟨fun h=>h.2,fun h=>⟨hiff.1 rfl,h⟩⟩) (by
      rintro t ⟨rfl,h1,h2⟩
      rw[List.take_length] at h1
      exact⟨.brk (f.vars,f.clauses++p.take p.length),by simp only[kX,qZ,if_false,Bool.false_eq_true],h1,h2.2 (by rw[List.drop_length];trivial)⟩)
    rw[hb2,bsm]
    cases b with
    |brk s=>
     have h6:=sZ.1 hp6
     simp only
     unfold chkB
     rw[hv,sZ.2 ⟨hpost.1,h6.2⟩,I5.2 ⟨hg,hpost.2⟩];rfl
    |ret r=>
     obtain⟨rfl,h⟩:=hpost
     simp only
     rw[no (fun _ h1 _ h2=>h ⟨(sZ.1 h1).1,h2⟩)]
   rw[if_pos (by rw[decide_eq_false (by omega)];rfl),no (fun _ _ h _=>by rw[hg] at h;rw[Option.some.inj h] at hcl;exact hcl rfl)]
theorem PLen.erase {p:List (List Int)} (h:PLen p) (i:Nat):PLen (p.eraseIdx i):=
 ⟨Nat.le_trans (List.length_eraseIdx_le ..) h.1,fun c hc=>h.2 c (List.mem_of_mem_eraseIdx hc)⟩
theorem chk_acc {f:Formula} {p:List (List Int)} (hv:lX f=true) (hp:yE f.vars p=true):chkB f p=accB f.clauses p:=by unfold chkB;rw[hv,hp];simp
open Go.RowKit Go.Lib
def MdL (m:List Int):Prop:=∀(i:Nat) x,m[i]?=some x→x=(i:Int)+1∨x= -((i:Int)+1)
theorem MdL.at {m:List Int} (h:MdL m) {x:Int} (hx:x∈m):x≠0∧m[(vr x-1).toNat]?=some x:=by
 obtain⟨i,hi⟩:=List.getElem?_of_mem hx
 have h1:=h i x hi
 have h2:vr x=(i:Int)+1:=by unfold vr;omega
 refine⟨by omega,?_⟩
 rw[h2,show((i:Int)+1-1).toNat=i by omega];exact hi
theorem MdL.opp {m:List Int} (h:MdL m) {x:Int} (hx:x∈m) (hn: -x∈m):False:=by
 have h1:=h.at hx
 have h2:=(h.at hn).2
 rw[lZ,h1.2] at h2
 simp only[Option.some.injEq] at h2
 omega
theorem mdF_at:∀{m:List Int} {i:Int},mdF i m=true→∀(k:Nat) x,m[k]?=some x→x=i+k∨x= -(i+k)
 | [],_,_,k,x,hx=>by simp at hx
 |a::m,i,h,0,x,hx=>by
  unfold mdF at h
  simp only[Bool.and_eq_true,Bool.or_eq_true,decide_eq_true_eq] at h
  simp only[List.getElem?_cons_zero,Option.some.injEq] at hx
  omega
 |a::m,i,h,k+1,x,hx=>by
  unfold mdF at h
  simp only[Bool.and_eq_true] at h
  rw[List.getElem?_cons_succ] at hx
  have:=mdF_at h.2 k x hx
  omega
theorem MdL.of {m:List Int} (h:mdF 1 m=true):MdL m:=fun i x hx=>by
 have:=mdF_at h i x hx
 omega
theorem sat_mem {m c:List Int} (h:G6 m c=true):∃y∈c,y∈m:=by
 unfold G6 at h
 rw[List.any_eq_true] at h
 obtain⟨y,hy,h⟩:=h
 exact⟨y,hy,bP (by simpa using h)⟩
theorem model_up {F:List (List Int)} {S m:List Int} (hm:MdL m) (hS:∀x∈S,x∈m) (hF:∀c∈F,G6 m c=true):∀{x},UP F S x→x∈m:=by
 intro x hx
 induction hx with
 |start h=>exact hS _ h
 | @unit c x hc hxc _ ih=>
  obtain⟨y,hy,hym⟩:=sat_mem (hF c hc)
  by_cases e:y=x
  ·rw[←e];exact hym
  exact absurd (ih y hy e) (fun hn=>hm.opp hym hn)
theorem model_ok {F:List (List Int)} {S m:List Int} (hm:MdL m) (hS:∀x∈S,x∈m) (hF:∀c∈F,G6 m c=true):¬Fails F S:=by
 rintro(⟨l,h1,h2⟩|⟨c,hc,hy⟩)
 ·exact hm.opp (model_up hm hS hF h1) (model_up hm hS hF h2)
 obtain⟨y,hyc,hym⟩:=sat_mem (hF c hc)
 exact hm.opp hym (model_up hm hS hF (hy y hyc))
theorem fails_sat {n:Int} {F:List (List Int)} {m c:List Int} (hm:MdL m) (hn:(m.length:Int)=n) (hF:∀c∈F,G6 m c=true) (hc:uK n c) (h:Fails F (uS c)):G6 m c=true:=by
 cases hs:G6 m c with
 |true=>rfl
 |false=>
  refine absurd h (model_ok hm (fun x hx=>?_) hF)
  have hx2:=aD4 hx
  obtain⟨h1,h2⟩:=hc.1 _ hx2
  rw[lZ] at h2
  have h3:=jY x
  have h4:vr x≠0:=fun e=>h1 (by have:=qJ.1 e;omega)
  obtain⟨y,hy⟩:=bM (show(vr x-1).toNat<m.length by omega)
  have h5:=hm _ y hy
  have h6:y=x∨y= -x:=by
   have:=O3 x
   omega
  rcases h6 with rfl|rfl
  ·exact bP hy
  unfold G6 at hs
  rw[List.any_eq_false] at hs
  exact absurd (by rw[lZ,hy];simp) (hs (-x) hx2)
theorem acc_sat {n:Int} {m:List Int} (hm:MdL m) (hn:(m.length:Int)=n):∀(p F:List (List Int)),(∀c∈F,G6 m c=true)→(∀c∈p,uK n c)→yL F p→∀c∈p,G6 m c=true
 | [],F,_,_,_,c,hc=>by simp at hc
 |q::p,F,hF,hp,h,c,hc=>by
  have h1:=fails_sat hm hn hF (hp q (List.mem_cons_self ..)) h.1
  rcases List.mem_cons.1 hc with rfl|hc
  ·exact h1
  refine acc_sat hm hn p (F++[q]) (fun d hd=>?_) (fun d hd=>hp d (List.mem_cons_of_mem _ hd)) h.2 c hc
  rcases List.mem_append.1 hd with hd|hd
  ·exact hF d hd
  rw[List.mem_singleton.1 hd];exact h1
theorem get_rep {α:Type} {n v:Nat} {a x:α} (h:(List.replicate n a)[v]?=some x):x=a:=List.eq_of_mem_replicate (List.mem_of_getElem? h)
theorem Cor.start {n:Int} (h0:0≤n):Cor n [] [] (fun _ w=> -w∈([]:List Int)) (List.replicate (n+1).toNat 0) (List.replicate (n+1).toNat 0) (List.replicate (n+1).toNat none) [] (List.replicate (2*n+2).toNat []) []:=by
 refine{eng:=(Eng.start h0).assume (allL n),ll:=by rw[List.length_replicate];omega,rl:=by rw[List.length_replicate];omega,lv:=fun i x h=>by simp at h,re:=fun i x r h=>by simp at h,rid:=fun id h=>?_,bas:=fun b h=>by simp at h,sts:=List.Pairwise.nil,stb:=fun b h=>by simp at h}
 have:=List.eq_of_mem_replicate h
 cases this
theorem open_loop1 {n:Int} (hn:0≤n∧n≤65536):
  ∃r,dE (fun s:Int×List Int×List Bool×List Int=>pO (n+1) s.1 s.2.1 s.2.2.1 s.2.2.2) (1,[],List.replicate (n+1).toNat false,List.replicate (n+1).toNat 0)=some r∧QOk n (Que.mk r.1 r.2.1)∧(∀v:Int,1≤v→v≤n→v∈r.1)∧SvOk n r.2.2:=by
 refine uA (body:=fun s:Int×List Int×List Bool×List Int=>pO (n+1) s.1 s.2.1 s.2.2.1 s.2.2.2) n.toNat (fun k (t:List Int×List Bool×List Int)=>(((k+1:Nat):Int),t.1,t.2.1,t.2.2))
  (fun k t=>QOk n (Que.mk t.1 t.2.1)∧(∀v:Int,v∈t.1↔1≤v∧v≤k)∧(t.2.2.length:Int)=n+1∧∀(v:Nat) x,1≤v→v≤k→t.2.2[v]?=some x→x=v∨x= -(v:Int)) _ (t0:=([],List.replicate (n+1).toNat false,List.replicate (n+1).toNat 0)) rfl
  ⟨⟨by show((List.replicate (n+1).toNat false).length:Int)=_;rw[List.length_replicate];omega,List.nodup_nil,fun v h=>by simp at h,fun v=>?_⟩,fun v=>?_,by rw[List.length_replicate];omega,fun v x h1 h2=>by omega⟩ ?_ ?_
 ·show(List.replicate (n+1).toNat false)[v]?=some true↔(v:Int)∈[]
  exact⟨fun h=>(by have:=get_rep h;cases this),fun h=>by simp at h⟩
 ·exact⟨fun h=>by simp at h,fun h=>by have:=h.1;have:=h.2;omega⟩
 ·rintro k ⟨ql,qi,sv⟩ hk ⟨hq,hm,hl,hs⟩
  simp only at hq hm hl hs
  obtain⟨y,hy⟩:=bM (show k+1<sv.length by omega)
  have i1:inK .i64 (0-((k+1:Nat):Int))=some (-((k+1:Nat):Int)):=oZ (by omega) ⟨by omega,by omega⟩
  have i2:inK .i64 (((k+1:Nat):Int)+1)=some ((k+1+1:Nat):Int):=oZ rfl ⟨by omega,by omega⟩
  obtain⟨q',p1,p2,p3⟩:=push_ok hq hn (v:=((k+1:Nat):Int)) ⟨by omega,by omega⟩ (fun h=>by have:=(hm _).1 h;omega)
  have e0:decide (((k+1:Nat):Int)<n+1)=true:=by rw[decide_eq_true_eq];omega
  simp only[pO,e0,if_true,i1,bsm,bY hy,p1,i2]
  refine Or.inl ⟨(q'.list,q'.isin,sv.set (k+1) (-((k+1:Nat):Int))),rfl,p2,fun v=>?_,by rw[List.length_set];exact hl,fun v x h1 h2 hx=>?_⟩
  ·rw[p3,hm]
   constructor
   ·rintro(rfl|h)<;>omega
   intro h
   by_cases e:v=((k+1:Nat):Int)
   ·exact Or.inl e
   exact Or.inr (by omega)
  rcases eF hx with⟨rfl,rfl⟩|⟨hne,hx⟩
  ·exact Or.inr rfl
  exact hs v x h1 (by omega) hx
 rintro⟨ql,qi,sv⟩ ⟨hq,hm,hl,hs⟩
 simp only at hq hm hl hs
 have e0:¬decide (((n.toNat+1:Nat):Int)<n+1)=true:=by rw[decide_eq_true_eq];omega
 refine⟨(ql,qi,sv),by simp only[pO,e0,if_false,Bool.false_eq_true],hq,fun v h1 h2=>(hm v).2 ⟨h1,by omega⟩,hl,fun v x h1 hx=>hs v x h1 (by have:v<sv.length:=dB hx;omega) hx⟩
def ones (l:List Int):List (List Int):=l.map fun x=>[x]
theorem sopen_ok {f:Formula} {asX:List Int} (hn:0≤f.vars∧f.vars≤65536) (hl:f.clauses.length+asX.length≤900000) (hF:∀c∈f.clauses,uK f.vars c) (ha:∀x∈asX,x≠0∧vr x≤f.vars):
  ∃s,qB f asX=some s∧SInv f.vars (f.clauses++ones asX) s∧s.starts=[]∧s.head=0∧s.proof=[]∧s.literals=0:=by
 unfold qB
 obtain⟨b5,e5,q1,q2,q3⟩:=open_loop1 hn
 rw[iV ⟨by omega,by omega⟩,bsm,mkc_ok ⟨by omega,by omega,by omega⟩,bsm,bsm,mkc_ok ⟨by omega,by omega,by omega⟩,bsm,bsm,iV ⟨by omega,by omega⟩,bsm,mkc_ok ⟨by omega,by omega,by omega⟩,bsm,mkc_ok ⟨by omega,by omega,by omega⟩,bsm,e5,bsm]
 have e22:(2*(f.vars+1)).toNat=(2*f.vars+2).toNat:=by congr 1;omega
 rw[e22]
 obtain⟨b7,e7,h7⟩:=uA (body:=fun s:Int×List Int×Int×Int×Bool×(List (List Nat)×List (List Int))×List (Option Nat)×List Int×List Int=>qV f b5 s.1 s.2.1 s.2.2.1 s.2.2.2.1 s.2.2.2.2.1 s.2.2.2.2.2.1 s.2.2.2.2.2.2.1 s.2.2.2.2.2.2.2.1 s.2.2.2.2.2.2.2.2)
  (s0:=(0,[],0,0,false,(List.replicate (2*f.vars+2).toNat [],[]),List.replicate (f.vars+1).toNat none,List.replicate (f.vars+1).toNat 0,List.replicate (f.vars+1).toNat 0)) f.clauses.length
  (fun k (t:List Int×Bool×(List (List Nat)×List (List Int))×List (Option Nat)×List Int×List Int)=>((k:Int),t.1,0,0,t.2.1,t.2.2.1,t.2.2.2.1,t.2.2.2.2.1,t.2.2.2.2.2))
  (fun k t=>SInv f.vars (f.clauses.take k) (Sol.mk t.2.2.2.2.2 t.2.2.2.2.1 t.2.2.2.1 b5.2.2 t.2.2.1 t.1 [] 0 (Que.mk b5.1 b5.2.1) [] 0 t.2.1))
  (fun b=>∃t br W r l v,b=(t,0,0,br,W,r,l,v)∧SInv f.vars f.clauses (Sol.mk v l r b5.2.2 W t [] 0 (Que.mk b5.1 b5.2.1) [] 0 br))
  (t0:=([],false,(List.replicate (2*f.vars+2).toNat [],[]),List.replicate (f.vars+1).toNat none,List.replicate (f.vars+1).toNat 0,List.replicate (f.vars+1).toNat 0)) rfl
  (by
   rw[List.take_zero]
   exact⟨Cor.start hn.1,⟨Int.le_refl _,Int.le_refl _,fun b h=>by simp at h⟩,q1,fun v h1 h2 _=>q2 v h1 h2,q3,fun _ l h=>by simp at h,fun _ h=>by simp at h,fun h=>(by cases h),Nat.le_refl _⟩) (by
  rintro k ⟨t,br,W,r,l,v⟩ hk hI
  simp only at hI
  obtain⟨c,hc⟩:=bM hk
  have hlk:(f.clauses.take k).length≤1000000:=by rw[List.length_take];omega
  obtain⟨v',l',r',W',t',br',h1,h2⟩:=sadd_ok hn hlk hI rfl rfl (hF c (bP hc))
  simp only at h1 h2
  refine Or.inl ⟨(t',br',W',r',l',v'),?_,by rw[dN hc];exact h2⟩
  simp only[qV,ltB hk,if_true,bY hc,bsm,h1,iH hk (show f.clauses.length≤9223372036854775807 by omega)]) (by
  rintro⟨t,br,W,r,l,v⟩ hI
  rw[List.take_length] at hI
  refine⟨(t,0,0,br,W,r,l,v),?_,t,br,W,r,l,v,rfl,hI⟩
  simp only[qV,qZ,if_false,Bool.false_eq_true])
 obtain⟨t,br,W,r,l,v,rfl,hI⟩:=h7
 rw[e7,bsm]
 simp only
 obtain⟨b9,e9,h9⟩:=uA (body:=fun s:Int×List Int×Int×Int×Bool×(List (List Nat)×List (List Int))×List (Option Nat)×List Int×List Int=>qW asX b5 s.1 s.2.1 s.2.2.1 s.2.2.2.1 s.2.2.2.2.1 s.2.2.2.2.2.1 s.2.2.2.2.2.2.1 s.2.2.2.2.2.2.2.1 s.2.2.2.2.2.2.2.2)
  (s0:=(0,t,0,0,br,W,r,l,v)) asX.length
  (fun k (t:List Int×Bool×(List (List Nat)×List (List Int))×List (Option Nat)×List Int×List Int)=>((k:Int),t.1,0,0,t.2.1,t.2.2.1,t.2.2.2.1,t.2.2.2.2.1,t.2.2.2.2.2))
  (fun k t=>SInv f.vars (f.clauses++ones (asX.take k)) (Sol.mk t.2.2.2.2.2 t.2.2.2.2.1 t.2.2.2.1 b5.2.2 t.2.2.1 t.1 [] 0 (Que.mk b5.1 b5.2.1) [] 0 t.2.1))
  (fun b=>∃t br W r l v,b=(t,0,0,br,W,r,l,v)∧SInv f.vars (f.clauses++ones asX) (Sol.mk v l r b5.2.2 W t [] 0 (Que.mk b5.1 b5.2.1) [] 0 br))
  (t0:=(t,br,W,r,l,v)) rfl (by simpa[ones] using hI) (by
  rintro k ⟨t,br,W,r,l,v⟩ hk hI
  simp only at hI
  obtain⟨c,hc⟩:=bM hk
  have hlk:(f.clauses++ones (asX.take k)).length≤1000000:=by unfold ones;rw[List.length_append,List.length_map,List.length_take];omega
  have hq:uK f.vars [c]:=⟨fun y hy=>by rw[List.mem_singleton.1 hy];exact ha c (bP hc),by simp⟩
  obtain⟨v',l',r',W',t',br',h1,h2⟩:=sadd_ok hn hlk hI rfl rfl hq
  simp only at h1 h2
  refine Or.inl ⟨(t',br',W',r',l',v'),?_,?_⟩
  ·simp only[qW,ltB hk,if_true,bY hc,bsm,h1,iH hk (show asX.length≤9223372036854775807 by omega)]
  ·have e:ones (asX.take (k+1))=ones (asX.take k)++[[c]]:=by unfold ones;rw[dN hc,List.map_append];rfl
   rw[e,←List.append_assoc]
   exact h2) (by
  rintro⟨t,br,W,r,l,v⟩ hI
  rw[List.take_length] at hI
  refine⟨(t,0,0,br,W,r,l,v),?_,t,br,W,r,l,v,rfl,hI⟩
  simp only[qW,qZ,if_false,Bool.false_eq_true])
 obtain⟨t,br,W,r,l,v,rfl,hI⟩:=h9
 rw[e9,bsm]
 exact⟨_,rfl,hI,rfl,rfl,rfl,rfl⟩
def insF (x:Int):List Int→Option (List Int)
 | []=>some [x]
 |y::r=>if vr y<vr x then(insF x r).map (y:: ·) else if y= -x then none else if y=x then some (y::r) else some (x::y::r)
def N9 (x:Int):Bool:=decide (x≠0)&&decide (-1073741824≤x)&&decide (x≤1073741824)
def nrm:List Int→List Int→Option (List Int)
 |acc,[]=>some acc
 |acc,x::l=>if N9 x=true then(insF x acc).bind fun o=>nrm o l else none
def normF (l:List Int):List Int×Bool:=match nrm [] l with
 |some o=>(o,true)
 |none=>([],false)
def Inc (l:List Int):Prop:=l.Pairwise fun x y=>vr x<vr y
theorem insF_spec {x:Int} (hx:x≠0):∀{acc:List Int},Inc acc→match insF x acc with
  |some o=>Inc o∧(∀z,z∈o↔z=x∨z∈acc)∧o.length≤acc.length+1
  |none=> -x∈acc
 | [],_=>by simp[insF,Inc]
 |y::r,h=>by
  have h':=List.pairwise_cons.1 h
  unfold insF
  by_cases h1:vr y<vr x
  ·rw[if_pos h1]
   have ih:=insF_spec hx h'.2
   cases hi:insF x r with
   |none=>rw[hi] at ih;simp only[Option.map_none];exact List.mem_cons_of_mem _ ih
   |some o=>
    rw[hi] at ih
    simp only[Option.map_some]
    refine⟨List.pairwise_cons.2 ⟨fun z hz=>?_,ih.1⟩,fun z=>?_,by simp only[List.length_cons];omega⟩
    ·rcases(ih.2.1 z).1 hz with rfl|hz
     ·exact h1
     exact h'.1 z hz
    simp only[List.mem_cons,ih.2.1 z]
    constructor
    ·rintro(rfl|rfl|h)<;>simp_all
    rintro(rfl|rfl|h)<;>simp_all
  rw[if_neg h1]
  by_cases h2:y= -x
  ·rw[if_pos h2];simp[h2]
  rw[if_neg h2]
  by_cases h3:y=x
  ·rw[if_pos h3];exact⟨h,by intro z;simp[h3],by simp⟩
  rw[if_neg h3]
  have h4:vr x<vr y:=by
   by_cases h:vr x<vr y
   ·exact h
   have:vr y=vr x:=by omega
   rcases vr_eq.1 this with e|e
   ·exact absurd e h3
   exact absurd e h2
  refine⟨List.pairwise_cons.2 ⟨fun z hz=>?_,h⟩,by intro z;simp,by simp⟩
  rcases List.mem_cons.1 hz with rfl|hz
  ·exact h4
  exact Int.lt_trans h4 (h'.1 z hz)
theorem Inc.noOpp {o:List Int} (h:Inc o) {x:Int} (hx:x∈o) (hn: -x∈o) (h0:x≠0):False:=by
 induction o with
 |nil=>simp at hx
 |cons y r ih=>
  have h':=List.pairwise_cons.1 h
  rcases List.mem_cons.1 hx with rfl|hx<;>rcases List.mem_cons.1 hn with hn|hn
  ·omega
  ·have:=h'.1 _ hn;rw[lZ] at this;omega
  ·have:=h'.1 _ hx;rw[←hn,lZ] at this;omega
  exact ih h'.2 hx hn
theorem aL5:∀(l acc:List Int),Inc acc→(∀x∈acc,x≠0)→match nrm acc l with
  |some o=>Inc o∧(∀z,z∈o↔z∈acc∨z∈l)∧(∀x∈l,N9 x=true)∧o.length≤acc.length+l.length
  |none=>(∃x∈l,N9 x=false)∨∃x,x≠0∧(x∈acc∨x∈l)∧(-x∈acc∨ -x∈l)
 | [],acc,h,_=>⟨h,by simp,by simp,by simp⟩
 |x::l,acc,h,h0=>by
  unfold nrm
  by_cases hr:N9 x=true
  ·rw[if_pos hr]
   have hx:x≠0:=by unfold N9 at hr;simp only[Bool.and_eq_true,decide_eq_true_eq] at hr;exact hr.1.1
   have hi:=insF_spec hx h
   cases hf:insF x acc with
   |none=>
    rw[hf] at hi
    simp only[Option.bind_none]
    exact Or.inr ⟨x,hx,Or.inr (List.mem_cons_self ..),Or.inl hi⟩
   |some o=>
    rw[hf] at hi
    simp only[Option.bind_some]
    have ih:=aL5 l o hi.1 (fun z hz=>by
     rcases(hi.2.1 z).1 hz with rfl|hz
     ·exact hx
     exact h0 z hz)
    cases hn:nrm o l with
    |none=>
     rw[hn] at ih
     simp only at ih⊢
     rcases ih with⟨z,hz,h1⟩|⟨z,hz,h1,h2⟩
     ·exact Or.inl ⟨z,List.mem_cons_of_mem _ hz,h1⟩
     refine Or.inr ⟨z,hz,?_,?_⟩
     ·rcases h1 with h1|h1
      ·rcases(hi.2.1 z).1 h1 with rfl|h1
       ·exact Or.inr (List.mem_cons_self ..)
       exact Or.inl h1
      exact Or.inr (List.mem_cons_of_mem _ h1)
     rcases h2 with h1|h1
     ·rcases(hi.2.1 _).1 h1 with e|h1
      ·exact Or.inr (e▸List.mem_cons_self ..)
      exact Or.inl h1
     exact Or.inr (List.mem_cons_of_mem _ h1)
    |some q=>
     rw[hn] at ih
     simp only at ih⊢
     refine⟨ih.1,fun z=>?_,fun z hz=>?_,by simp only[List.length_cons];omega⟩
     ·rw[ih.2.1 z,hi.2.1 z];simp only[List.mem_cons]
      constructor
      ·rintro((rfl|h)|h)<;>simp_all
      rintro(h|rfl|h)<;>simp_all
     rcases List.mem_cons.1 hz with rfl|hz
     ·exact hr
     exact ih.2.2.1 z hz
  rw[if_neg hr]
  exact Or.inl ⟨x,List.mem_cons_self ..,by simpa using hr⟩
theorem nrm_eq {l o:List Int} (h1:Inc o) (h2:∀z,z∈o↔z∈l) (h3:∀x∈l,N9 x=true):nrm [] l=some o:=by
 have h:=aL5 l [] List.Pairwise.nil (by simp)
 cases hn:nrm [] l with
 |none=>
  rw[hn] at h
  simp only at h
  rcases h with⟨x,hx,e⟩|⟨x,h0,hx,hy⟩
  ·rw[h3 x hx] at e;cases e
  simp only[List.not_mem_nil,false_or] at hx hy
  exact(h1.noOpp ((h2 _).2 hx) ((h2 _).2 hy) h0).elim
 |some q=>
  rw[hn] at h
  simp only at h
  congr 1
  exact rising_ext (r:=fun x y=>vr x<vr y) (fun a=>by omega) (fun a b c h1 h2=>by omega) h.1 h1 (fun x=>by rw[h.2.1,h2];simp)
theorem nrm_none {l:List Int} {x:Int} (h:(x∈l∧N9 x=false)∨(x≠0∧x∈l∧ -x∈l)):nrm [] l=none:=by
 have h':=aL5 l [] List.Pairwise.nil (by simp)
 cases hn:nrm [] l with
 |none=>rfl
 |some q=>
  rw[hn] at h'
  simp only at h'
  rcases h with⟨h1,h2⟩|⟨h0,h1,h2⟩
  ·rw[h'.2.2.1 x h1] at h2;cases h2
  exact(h'.1.noOpp ((h'.2.1 _).2 (Or.inr h1)) ((h'.2.1 _).2 (Or.inr h2)) h0).elim
theorem aL7 {x:Int} (h:N9 x=true):x≠0∧ -1073741824≤x∧x≤1073741824:=by
 unfold N9 at h;simp only[Bool.and_eq_true,decide_eq_true_eq] at h;exact⟨h.1.1,h.1.2,h.2⟩
theorem Q3 {x y:Int}:ltN x y=true↔vr x<vr y∨vr x=vr y∧x<y:=by unfold ltN;simp
theorem ltN_irr (x:Int):¬ltN x x=true:=by rw[Q3];omega
theorem ltN_trans {x y z:Int} (h1:ltN x y=true) (h2:ltN y z=true):ltN x z=true:=by
 rw[Q3] at*;omega
theorem ltN_tri {x y:Int} (h1:¬ltN x y=true) (h2:¬ltN y x=true):x=y:=by
 rw[Q3] at*
 have:vr x=vr y:=by omega
 omega
theorem sortN_pair (l:List Int):(l.mergeSort fun x y=> !ltN y x).Pairwise fun x y=>¬ltN y x=true:=by
 have key:∀x y,(!ltN y x)=true↔¬ltN y x=true:=fun x y=>by cases ltN y x<;>simp
 have:=List.pairwise_mergeSort (le:=fun x y=> !ltN y x) (fun a b c h1 h2=>by
  rw[key] at*
  rw[Q3] at*
  omega) (fun a b=>by
  rw[Bool.or_eq_true,key,key]
  by_cases h:ltN b a=true
  ·right;intro h2;exact ltN_irr _ (ltN_trans h h2)
  left;exact h) l
 exact this.imp fun h=>(key _ _).1 h
open Go.Lib in
theorem Z4 {d:List Int} (hs:d.Pairwise fun x y=>¬ltN y x=true):∀m,m≤d.length→(compactUpTo d.toArray m).Pairwise (fun x y=>ltN x y=true)∧(∀x,x∈compactUpTo d.toArray m↔x∈d.take m)
 |0,_=>by simp[compactUpTo]
 |m+1,hm=>by
  obtain⟨ih1,ih2⟩:=Z4 hs m (by omega)
  obtain⟨b,hb⟩:=bM (show m<d.length by omega)
  have hdm:d.toArray[m]! =b:=by
   have hlt:=dB hb
   rw[getElem!_pos _ _ (by simpa using hlt)]
   have:=(List.getElem?_eq_some_iff.1 hb).2
   simpa using this
  have hle:∀i a,i<m→d[i]?=some a→¬ltN b a=true:=fun i a hi ha=>by
   have h1:=(List.getElem?_eq_some_iff.1 ha)
   have h2:=(List.getElem?_eq_some_iff.1 hb)
   have:=List.pairwise_iff_getElem.1 hs i m h1.1 h2.1 hi
   rw[h1.2,h2.2] at this
   exact this
  rw[compactUpTo_succ,dN hb,hdm]
  by_cases hk:keeps d.toArray m=true
  ·rw[if_pos hk]
   refine⟨List.pairwise_append.2 ⟨ih1,List.pairwise_singleton _ _,fun x hx y hy=>?_⟩,fun x=>by simp[ih2]⟩
   obtain rfl:=List.mem_singleton.1 hy
   have hx2:=(ih2 x).1 hx
   obtain⟨i,hi⟩:=List.getElem?_of_mem hx2
   rw[List.getElem?_take] at hi
   split at hi
   ·rename_i him
    have h1:=hle i x him hi
    cases h2:ltN x y with
    |true=>rfl
    |false=>
     exfalso
     have e:x=y:=ltN_tri (by rw[h2];simp) h1
     subst e
     obtain⟨c,hc⟩:=bM (show m-1<d.length by omega)
     have hcm:d.toArray[m-1]! =c:=by
      rw[getElem!_pos _ _ (by simp;omega)]
      have:=(List.getElem?_eq_some_iff.1 hc).2
      simpa using this
     have h3:c=x:=by
      apply ltN_tri
      ·by_cases him':i=m-1
       ·subst him';rw[hi] at hc;obtain rfl:=Option.some.inj hc;exact ltN_irr _
       have q1:=(List.getElem?_eq_some_iff.1 hi)
       have q2:=(List.getElem?_eq_some_iff.1 hc)
       have:=List.pairwise_iff_getElem.1 hs i (m-1) q1.1 q2.1 (by omega)
       rw[q1.2,q2.2] at this
       exact this
      exact hle (m-1) c (by omega) hc
     unfold keeps at hk
     simp only[decide_eq_true_eq,hdm,hcm,h3] at hk
     rcases hk with hk|hk
     ·omega
     exact hk rfl
   cases hi
  rw[if_neg hk,List.append_nil]
  refine⟨ih1,fun x=>?_⟩
  rw[ih2,List.mem_append,List.mem_singleton]
  constructor
  ·exact Or.inl
  rintro(h|rfl)
  ·exact h
  unfold keeps at hk
  simp only[decide_eq_true_eq,not_or,ne_eq,Decidable.not_not,hdm] at hk
  obtain⟨c,hc⟩:=bM (show m-1<d.length by omega)
  have hcm:d.toArray[m-1]! =c:=by
   rw[getElem!_pos _ _ (by simp;omega)]
   have:=(List.getElem?_eq_some_iff.1 hc).2
   simpa using this
  rw[hcm] at hk
  rw[hk.2]
  refine List.mem_of_getElem? (i:=m-1) ?_
  rw[List.getElem?_take,if_pos (by omega)];exact hc
theorem mem_litOk {l:List Int} (h:∀x∈l,-1099511627776≤x∧x≤1099511627776):litOk l=true:=by
 unfold litOk
 simp only[List.all_eq_true,decide_eq_true_eq]
 intro x hx
 have:=h x hx
 omega
theorem compactLen_le (l:List Int):(Lib.compact l).length≤l.length:=by
 unfold Lib.compact Lib.compactUpTo
 rw[List.length_map]
 have:=List.length_filter_le (Lib.keeps l.toArray) (List.range l.length)
 rw[List.length_range] at this
 exact this
theorem compact_ok {l:List Int} (hl:l.length≤1073741824) (hr:∀x∈l,N9 x=true):∃o,((aD2 l).bind xG)=some o∧o.Pairwise (fun x y=>ltN x y=true)∧(∀x,x∈o↔x∈l)∧o.length≤l.length:=by
 have h1:aD2 l=some (l.mergeSort fun x y=> !ltN y x):=by
  unfold aD2
  rw[if_pos ⟨by omega,mem_litOk fun x hx=>by have:=aL7 (hr x hx);omega⟩]
 obtain⟨h2,h3⟩:=Z4 (sortN_pair l) l.length (by simp)
 refine⟨Lib.compact (l.mergeSort fun x y=> !ltN y x),?_,?_,fun x=>?_,?_⟩
 ·rw[h1]
  show xG _=_
  unfold xG
  rw[if_pos (by simp;omega)]
 ·unfold Lib.compact
  rw[List.length_mergeSort];exact h2
 ·unfold Lib.compact
  rw[List.length_mergeSort,h3,List.take_of_length_le (by simp),List.mem_mergeSort]
 have:=compactLen_le (l.mergeSort fun x y=> !ltN y x)
 rw[List.length_mergeSort] at this
 exact this
theorem Inc.of_strict {o:List Int} (hs:o.Pairwise fun x y=>ltN x y=true) (hn:∀x∈o,-x∈o→x=0) (h0:∀x∈o,x≠0):Inc o:=by
 unfold Inc
 induction o with
 |nil=>exact List.Pairwise.nil
 |cons y r ih=>
  have h:=List.pairwise_cons.1 hs
  refine List.pairwise_cons.2 ⟨fun z hz=>?_,ih h.2 (fun x hx hx'=>hn x (List.mem_cons_of_mem _ hx) (List.mem_cons_of_mem _ hx')) (fun x hx=>h0 x (List.mem_cons_of_mem _ hx))⟩
  have:=h.1 z hz
  rw[Q3] at this
  rcases this with h1|⟨h1,h2⟩
  ·exact h1
  rcases vr_eq.1 h1 with e|e
  ·omega
  exfalso
  exact h0 y (List.mem_cons_self ..) (hn y (List.mem_cons_self ..) (by rw[e,Int.neg_neg];exact List.mem_cons_of_mem _ hz))
def adjF:Int→List Int→Bool
 |_,[]=>false
 |t,x::r=>decide (t= -x)||adjF x r
theorem adjF_yes:∀{r:List Int} {y:Int},adjF y r=true→∃x,x∈y::r∧ -x∈y::r
 | [],_,h=>by cases h
 |x::r,y,h=>by
  unfold adjF at h
  simp only[Bool.or_eq_true,decide_eq_true_eq] at h
  rcases h with rfl|h
  ·exact⟨x,by simp,by simp⟩
  obtain⟨z,h1,h2⟩:=adjF_yes h
  exact⟨z,List.mem_cons_of_mem _ h1,List.mem_cons_of_mem _ h2⟩
theorem adjF_no:∀{r:List Int} {y:Int},(y::r).Pairwise (fun x y=>ltN x y=true)→adjF y r=false→∀x∈y::r,-x∈y::r→x=0
 | [],y,_,_,x,hx,hn=>by
  rw[List.mem_singleton] at hx hn;omega
 |z::r,y,hs,h,x,hx,hn=>by
  unfold adjF at h
  simp only[Bool.or_eq_false_iff,decide_eq_false_iff_not] at h
  have hp:=List.pairwise_cons.1 hs
  have key:∀w,w∈z::r→w= -y→False:=by
   intro w hw e
   have h1:=hp.1 z (List.mem_cons_self ..)
   have h2:z=w∨ltN z w=true:=by
    rcases List.mem_cons.1 hw with e|hw
    ·exact Or.inl e.symm
    exact Or.inr ((List.pairwise_cons.1 hp.2).1 w hw)
   have h4:vr w=vr y:=by rw[e,lZ]
   rw[Q3] at h1
   rcases h2 with h2|h2
   ·exact h.1 (by omega)
   rw[Q3] at h2
   have h5:vr z=vr y:=by omega
   rcases vr_eq.1 h5 with e2|e2
   ·omega
   exact h.1 (by omega)
  rcases List.mem_cons.1 hx with rfl|hx'<;>rcases List.mem_cons.1 hn with hn|hn'
  ·omega
  ·exact(key _ hn' rfl).elim
  ·exact(key _ hx' (by omega)).elim
  exact adjF_no hp.2 h.2 x hx' hn'
def stAdj (x t:Int):Step Int (Out Unit (List Int×Bool)):=if(decide (t= -x))=true then .done (.ret ([],false)) else .next x
theorem runL_adj:∀(r:List Int) (t:Int),yG stAdj (fun _=>Out.brk ()) r t=if adjF t r=true then Out.ret ([],false) else Out.brk ()
 | [],t=>rfl
 |x::r,t=>by
  unfold yG stAdj adjF
  by_cases h:t= -x
  ·simp[h]
  simp only[h,decide_false,Bool.false_eq_true,if_false,Bool.false_or]
  exact runL_adj r x
theorem cnf_Normal {l:List Int} (hl:l.length≤1073741824):wL l=some (normF l):=by
 unfold wL
 refine zT l (fun x=> !N9 x) (Out.ret ([],false)) (Out.brk ()) ?_ ?_ ?_
 ·intro k a hk
  have hkl:=dB hk
  simp only[uQ,ltB hkl,if_true,bY hk,bsm,iH hkl (show l.length≤9223372036854775807 by omega)]
  have e:(((decide (a=0))||(decide (a<(-1073741824))))||(decide (1073741824<a)))= !N9 a:=by
   unfold N9
   rw[Bool.eq_iff_iff]
   simp only[Bool.or_eq_true,decide_eq_true_eq,Bool.not_eq_true',Bool.and_eq_false_iff,decide_eq_false_iff_not]
   omega
  rw[e]
  cases N9 a<;>rfl
 ·simp only[uQ,qZ,if_false,Bool.false_eq_true]
 by_cases ha:l.any (fun x=> !N9 x)=true
 ·rw[if_pos ha]
  obtain⟨x,hx,h⟩:=List.any_eq_true.1 ha
  unfold normF
  rw[nrm_none (Or.inl ⟨hx,by simpa using h⟩)]
 rw[if_neg ha]
 have hr:∀x∈l,N9 x=true:=fun x hx=>by
  cases h:N9 x with
  |true=>rfl
  |false=>exact absurd (List.any_eq_true.2 ⟨x,hx,by simp[h]⟩) ha
 obtain⟨o,h1,h2,h3,h4⟩:=compact_ok hl hr
 obtain⟨q,hq,ho⟩:=Option.bind_eq_some_iff.1 h1
 have happ:app [] l=some l:=by rw[qA (by simp;omega)];rfl
 show((app [] l).bind fun x3=>_)=_
 rw[happ,bsm,hq,bsm,ho,bsm]
 have hor:∀x∈o,N9 x=true:=fun x hx=>hr x ((h3 x).1 hx)
 have hloop:dE (fun s=>oI o s) 1=some (match o with| []=>Out.brk ()|y::r=>if adjF y r=true then Out.ret ([],false) else Out.brk ()):=by
  cases o with
  |nil=>
   refine eQ ?_
   simp[oI]
  |cons y r=>
   simp only
   rw[←runL_adj]
   refine loopL (body:=fun s=>oI (y::r) s) r (fun k t=>((k+1:Nat):Int)) stAdj (fun _=>Out.brk ()) (fun k t=>(y::r)[k]?=some t) (t0:=y) rfl rfl ?_ ?_
   ·intro k a t hk ht
    have hk2:(y::r)[k+1]?=some a:=by rw[List.getElem?_cons_succ];exact hk
    have hkl:=dB hk2
    constructor
    ·have e1:inK .i64 (((k+1:Nat):Int)-1)=some (k:Int):=by rw[iV ⟨by omega,by omega⟩];congr 1;omega
     have hb:=aL7 (hor a (bP hk2))
     have e2:inK .i64 (0-a)=some (-a):=by rw[iV ⟨by omega,by omega⟩];congr 1;omega
     simp only[oI,ltB hkl,if_true,e1,bsm,bY ht,bY hk2,e2,iH hkl (show(y::r).length≤9223372036854775807 by omega),stAdj]
     by_cases h:t= -a<;>simp[h]
    intro t' ht'
    unfold stAdj at ht'
    split at ht'
    ·cases ht'
    obtain rfl:=Step.next.inj ht';exact hk2
   intro t ht
   have e:(((r.length+1:Nat):Int))=((y::r).length:Int):=rfl
   simp only[oI,e,qZ,if_false,Bool.false_eq_true]
 rw[hloop,bsm]
 cases o with
 |nil=>
  simp only
  unfold normF
  rw[nrm_eq (o:=[]) List.Pairwise.nil h3 hr]
 |cons y r=>
  simp only
  unfold normF
  by_cases hc:adjF y r=true
  ·rw[if_pos hc]
   obtain⟨x,hx,hx'⟩:=adjF_yes hc
   rw[nrm_none (Or.inr ⟨(aL7 (hor x hx)).1,(h3 _).1 hx,(h3 _).1 hx'⟩)]
  rw[if_neg hc]
  have hi:=Inc.of_strict h2 (adjF_no h2 (by simpa using hc)) (fun x hx=>(aL7 (hor x hx)).1)
  rw[nrm_eq hi h3 hr]
def phi (n:Nat) (st:List Int):Nat→Nat
 |0=>0
 |t+1=>phi n st t+if(t:Int)∈st then 0 else 2 ^ (n-1-t)
theorem zX (n:Nat) (st:List Int) (t:Nat):phi n st (t+1)=phi n st t+if(t:Int)∈st then 0 else 2 ^ (n-1-t):=rfl
theorem phi_lt {n:Nat} {st:List Int}:∀t,t≤n→phi n st t+2 ^ (n-t)≤2 ^ n
 |0,_=>by simp[phi]
 |t+1,h=>by
  have ih:=phi_lt (n:=n) (st:=st) t (by omega)
  have e:n-t=(n-1-t)+1:=by omega
  have e2:n-(t+1)=n-1-t:=by omega
  rw[e,Nat.pow_succ] at ih
  rw[zX,e2]
  split<;>omega
theorem phi_mono {n:Nat} {st:List Int} {t u:Nat} (h:t≤u):phi n st t≤phi n st u:=by
 induction h with
 |refl=>exact Nat.le_refl _
 |step _ ih=>exact Nat.le_trans ih (by rw[zX];omega)
theorem phi_congr {n:Nat} {st su:List Int}:∀t,(∀i:Nat,i<t→((i:Int)∈st↔(i:Int)∈su))→phi n st t=phi n su t
 |0,_=>rfl
 |t+1,h=>by
  have h1:=h t (by omega)
  rw[zX,zX,phi_congr t fun i hi=>h i (by omega)]
  by_cases e:(t:Int)∈su
  ·rw[if_pos e,if_pos (h1.2 e)]
  rw[if_neg e,if_neg (fun e'=>e (h1.1 e'))]
theorem phi_dec {n:Nat} {st:List Int} {b:Nat} (hb:(b:Int)∈st):∀t,b<t→t≤n→phi n st t+2 ^ (n-t)≤phi n st b+2 ^ (n-1-b)
 |0,h,_=>by omega
 |t+1,h,hn=>by
  by_cases e:t=b
  ·subst e
   rw[zX,if_pos hb,show n-(t+1)=n-1-t by omega]
   omega
  have ih:=phi_dec (n:=n) hb t (by omega) (by omega)
  have e1:n-t=(n-1-t)+1:=by omega
  have e2:n-(t+1)=n-1-t:=by omega
  rw[e1,Nat.pow_succ] at ih
  rw[zX,e2]
  have:(if(t:Int)∈st then 0 else 2 ^ (n-1-t))≤2 ^ (n-1-t):=by split<;>omega
  omega
theorem phi_back {n:Nat} {st su:List Int} {b t:Nat} (hb:(b:Int)∈st) (ht:b<t) (hn:t≤n) (hs:∀i:Nat,i<b→((i:Int)∈st↔(i:Int)∈su)) (hbu:(b:Int)∉su):phi n st t+1≤phi n su (b+1):=by
 have h1:=phi_dec hb t ht hn
 have h2:0<2 ^ (n-t):=Nat.pow_pos (by decide)
 rw[phi_congr b hs] at h1
 rw[zX,if_neg hbu]
 omega
theorem clF_of_inc {n:Int}:∀(c:List Int) (t:Int),Inc c→(∀y∈c,t<vr y∧vr y≤n)→clF n t c=true
 | [],_,_,_=>rfl
 |x::c,t,hi,h=>by
  have h1:=h x (List.mem_cons_self ..)
  have h2:=nM.1 h1.2
  obtain⟨i1,i2⟩:=List.pairwise_cons.1 hi
  unfold clF
  rw[clF_of_inc c (vr x) i2 (fun y hy=>⟨i1 y hy,(h y (List.mem_cons_of_mem _ hy)).2⟩)]
  simp only[Bool.and_true,Bool.and_eq_true,decide_eq_true_eq]
  exact⟨⟨h2.1,h2.2⟩,h1.1⟩
theorem inc_len {n:Int}:∀(c:List Int) (t:Int),t≤n→Inc c→(∀y∈c,t<vr y∧vr y≤n)→(c.length:Int)≤n-t
 | [],t,ht,_,_=>by simp;omega
 |x::c,t,_,hi,h=>by
  have h1:=h x (List.mem_cons_self ..)
  obtain⟨i1,i2⟩:=List.pairwise_cons.1 hi
  have:=inc_len c (vr x) h1.2 i2 (fun y hy=>⟨i1 y hy,(h y (List.mem_cons_of_mem _ hy)).2⟩)
  simp only[List.length_cons]
  omega
theorem normal_of {n:Int} (hn:0≤n∧n≤65536) {q:List Int} (hl:∀y∈q,y≠0∧vr y≤n) (ho:∀y∈q,-y∉q):∃o,normF q=(o,true)∧(∀z,z∈o↔z∈q)∧clF n 0 o=true∧(o.length:Int)≤n:=by
 have h:=aL5 q [] List.Pairwise.nil (by simp)
 have hr:∀x∈q,N9 x=true:=fun x hx=>by
  have h1:=hl x hx
  have h2:=nM.1 h1.2
  unfold N9
  simp only[Bool.and_eq_true,decide_eq_true_eq]
  exact⟨⟨h1.1,by omega⟩,by omega⟩
 unfold normF
 cases hq:nrm [] q with
 |none=>
  rw[hq] at h
  simp only at h
  rcases h with⟨x,hx,e⟩|⟨x,h0,hx,hy⟩
  ·rw[hr x hx] at e;cases e
  simp only[List.not_mem_nil,false_or] at hx hy
  exact absurd hy (ho x hx)
 |some o=>
  rw[hq] at h
  simp only at h
  have hm:∀z,z∈o↔z∈q:=fun z=>by rw[h.2.1];simp
  have hb:∀y∈o,(0:Int)<vr y∧vr y≤n:=fun y hy=>by
   have h1:=hl y ((hm y).1 hy)
   have h2:=jY y
   have h3:vr y≠0:=fun e=>h1.1 (qJ.1 e)
   exact⟨by omega,h1.2⟩
  have:=inc_len o 0 hn.1 h.1 hb
  exact⟨o,rfl,hm,clF_of_inc o 0 h.1 hb,by omega⟩
section
variable {n:Int} {F:List (List Int)} {st:List Int} {D:Nat→Int→Prop} {val lev:List Int} {rea:List (Option Nat)} {trail:List Int} {ws:List (List Nat)} {cl:List (List Int)}
theorem negs_mono {q o:List Int} (h:∀z,z∈q↔z∈o) {G:List (List Int)} (hf:Fails G (uS q)):Fails G (uS o):=
 hf.mono (fun _ h=>h) fun x hx=>by
  have:=(h _).1 (aD4 hx)
  have h2:=Z8.2 this
  rwa [Int.neg_neg] at h2
theorem clash_zero (h:Cor n F [] D val lev rea trail ws cl) {id:Nat} (hc:Clash [] trail cl id):Fails F []:=by
 obtain⟨c,h1,h2,_⟩:=hc.ex
 obtain⟨o,ho,k1,k2⟩:=h.eng.src id c h1
 refine Or.inr ⟨o,(mem_big.1 ho).1,fun y hy=>?_⟩
 have hyc:y∈c:=Classical.byContradiction fun hn=>by have:=k2 y hy hn;simp at this
 obtain⟨k,hk⟩:=List.getElem?_of_mem (h2 y hyc)
 exact h.up0 k hk rfl
structure Ahead (n:Int) (st trail q:List Int) (k:Nat) (b d:Int):Prop where
 q0:q[0]?=some (-d)
 open_:d∉trail.take b.toNat∧ -d∉trail.take b.toNat
 lit:∀y∈q,y≠0∧vr y≤n
 rest:∀(j:Nat) (y:Int),1≤j→q[j]?=some y→ -y∈trail.take b.toNat
 q1:1<q.length→∃(y:Int) (i:Nat),q[1]?=some y∧(trail.take b.toNat)[i]?=some (-y)∧lvl (st.take k) i=k∧∀c∈st.take k,c≤(i:Int)
theorem Learned.ahead (h:Cor n F st D val lev rea trail ws cl) {q:List Int} {k:Nat} {b:Int} (hL:Learned n F st trail q k) (hk:st[k]?=some b):∃d,Ahead n st trail q k b d:=by
 obtain⟨d,bd,h1,h2,h3,h4⟩:=hL.hd
 have hb:=h.stb b (bP hk)
 have hkl:=dB hk
 have lt_of:∀i:Nat,lvl st i≤(k:Int)→i<b.toNat:=fun i hi=>by
  rcases Nat.lt_or_ge i b.toNat with h5|h5
  ·exact h5
  have:=lvl_ge h.sts hk (show b≤(i:Int) by omega)
  omega
 have mem_take:∀(i:Nat) (x:Int),trail[i]?=some x→i<b.toNat→(trail.take b.toNat)[i]?=some x:=fun i x hx hi=>by
  rw[List.getElem?_take,if_pos hi];exact hx
 have hdn:∀x:Int,vr x=vr d→x∉trail.take b.toNat:=fun x hx hm=>by
  obtain⟨i,hi⟩:=List.getElem?_of_mem hm
  rw[List.getElem?_take] at hi
  split at hi
  ·rename_i hib
   have e:=h.at_ hi h1 hx
   subst e
   have:=lvl_lt' h.sts hk (show(i:Int)<b by omega)
   omega
  cases hi
 refine⟨d,h4,⟨hdn d rfl,hdn (-d) (lZ d)⟩,fun y hy=>⟨(hL.lit y hy).1,(hL.lit y hy).2.1⟩,fun j y hj hy=>?_,fun hq=>?_⟩
 ·obtain⟨i,i1,i2⟩:=hL.lo j y hj hy
  exact bP (mem_take i _ i1 (lt_of i i2))
 obtain⟨y,i,i0,i1,i2⟩:=hL.hi hq
 have hib:=lt_of i (by omega)
 refine⟨y,i,i0,mem_take i _ i1 hib,by rw[←lvl_lt h.sts hk (show(i:Int)<b by omega)];exact i2,fun c hc=>?_⟩
 obtain⟨j,hj⟩:=List.getElem?_of_mem hc
 rw[List.getElem?_take] at hj
 split at hj
 ·rename_i hjk
  rcases Int.lt_or_le (i:Int) c with h5|h5
  ·have:=lvl_lt' h.sts hj h5
   omega
  exact h5
 cases hj
theorem Cor.learnt {k:Nat} (h:Cor n F (st.take k) (fun _ w=> -w∈trail) val lev rea trail ws cl) {tr0 q o:List Int} {b d:Int} (hA:Ahead n st tr0 q k b d) (htr:trail=tr0.take b.toNat) (hkl:k≤st.length) (hq:1<q.length) (hnd:q.Nodup) (ho:∀z,z∈q↔z∈o) (ho2:2≤o.length) {Ra Rb:List Nat} {a2:Int} (hq1:q[1]?=some a2) (hra:ws[ixL (-d)]?=some Ra) (hrb:ws[ixL a2]?=some Rb):
  Cor n (F++[o]) (st.take k) (fun _ w=> -w∈trail) (val.set (vr (-d)).toNat (-d)) (lev.set (vr (-d)).toNat ((st.take k).length:Int)) (rea.set (vr (-d)).toNat (some cl.length)) (trail++[-d]) ((ws.set (ixL (-d)) (Ra++[cl.length])).set (ixL a2) (Rb++[cl.length])) (cl++[q]):=by
 have hp:Pair q (-d) a2:=Or.inl ⟨hA.q0,hq1⟩
 obtain⟨y,i,y1,i1,i2,i3⟩:=hA.q1 hq
 obtain rfl:=Option.some.inj (hq1.symm.trans y1)
 rw[←htr] at i1
 have hop:=hA.open_
 rw[←htr] at hop
 have hdl:=hA.lit _ (bP hA.q0)
 have h1:=h.addW (q:=o) (d:=q) ho2 hA.q0 hq1 hnd hA.lit ho hra hrb (fun c hc w p hpw hw=>by
  exfalso
  rcases hp.other hpw with⟨rfl,_⟩|⟨rfl,_⟩
  ·rw[Int.neg_neg] at hw
   exact hop.1 (List.mem_of_mem_take hw)
  obtain⟨j,hj⟩:=List.getElem?_of_mem hw
  rw[List.getElem?_take] at hj
  split at hj
  ·have e:=pI h.eng.nd hj i1
   have:=i3 c hc
   have:=h.stb c hc
   omega
  cases hj)
 have hz:gv val (-d)=some 0:=by
  rcases h.eng.cases hdl.1 hdl.2 with⟨_,hm⟩|⟨_,hm⟩|⟨hz,_⟩
  ·exact absurd hm hop.2
  ·rw[Int.neg_neg] at hm;exact absurd hm hop.1
  exact hz
 have hnew:(cl++[q])[cl.length]?=some q:=by rw[List.getElem?_append_right (Nat.le_refl _)];simp
 have hlk:((st.take k).length:Int)=k:=by rw[List.length_take,Nat.min_eq_left hkl]
 have hne:a2≠ -d:=fun e=>by subst e;have:=pI hnd hq1 hA.q0;omega
 have h2:=h1.hold hdl.1 hdl.2 hz (r:=some cl.length) ⟨q,hnew,bP hA.q0,fun z hz hne=>by
  rw[List.take_length]
  obtain⟨j,hj⟩:=List.getElem?_of_mem hz
  have:j≠0:=fun e=>by subst e;exact hne (Option.some.inj (hj.symm.trans hA.q0))
  rw[htr]
  exact hA.rest j z (by omega) hj,a2,bP hq1,hne,i,i1,by rw[i2,h.top (Nat.le_refl _),hlk]⟩ (fun id e=>by rw[←Option.some.inj e,List.length_append];simp)
 refine h2.more fun id c w p hc hpw hw=>?_
 by_cases e:id=cl.length
 ·subst e
  obtain rfl:=Option.some.inj (hnew.symm.trans hc)
  rcases hp.other hpw with⟨rfl,_⟩|⟨rfl,rfl⟩
  ·have hw: - -d∈trail:=hw
   rw[Int.neg_neg] at hw
   exact absurd hw hop.1
  simp
 exact h2.eng.pr id c w p hc hpw ⟨hw,e⟩
theorem Cor.learnt1 (h:Cor n F (st.take 0) (fun _ w=> -w∈trail) val lev rea trail ws cl) {tr0 q o:List Int} {b d:Int} (hA:Ahead n st tr0 q 0 b d) (htr:trail=tr0.take b.toNat) (ho:o=[-d]):
  Cor n (F++[o]) (st.take 0) (fun _ w=> -w∈trail) (val.set (vr (-d)).toNat (-d)) (lev.set (vr (-d)).toNat ((st.take 0).length:Int)) (rea.set (vr (-d)).toNat none) (trail++[-d]) ws cl:=by
 have hop:=hA.open_
 rw[←htr] at hop
 have hdl:=hA.lit _ (bP hA.q0)
 have hz:gv val (-d)=some 0:=by
  rcases h.eng.cases hdl.1 hdl.2 with⟨_,hm⟩|⟨_,hm⟩|⟨hz,_⟩
  ·exact absurd hm hop.2
  ·rw[Int.neg_neg] at hm;exact absurd hm hop.1
  exact hz
 subst ho
 have h1:=h.addU (q:=[-d]) (by simp)
 exact h1.hold hdl.1 hdl.2 hz (r:=none) (Or.inr ⟨rfl,.unit (List.mem_append_right _ (List.mem_singleton.2 rfl)) (by simp) fun y hy hne=>absurd (List.mem_singleton.1 hy) hne⟩) (fun id e=>by cases e)
end
end Go.Proofs.Ytpkhmndpeipfmaa

/- The law Composes. -/
import Derived.Test.YtopnldfjcciieaaGreatKCo26
import Derived.Test.YtopnldfjcciieaaGreatKCo4
set_option linter.unusedVariables false
set_option linter.unusedSimpArgs false
namespace Go.Proofs.YtopnldfjcciieaaGreat
open Go.RowKit
def pq (G:List Opn) (n:Int):Opn:=(G.find? (fun q=>decide (q.a=n))).getD ⟨-1,-1⟩
def fq (F:List Opn) (n:Int):Opn:=(F.find? (fun q=>decide (q.b=n))).getD ⟨-1,-1⟩
def cmO (G:List Opn) (n:Int):Int:=if(prt G n).2=true then(prt G n).1 else -1
def cpO (G:List Opn) (o:Opn):Opn:=⟨o.a,cmO G o.b⟩
def frm (F:List Opn) (q:Opn):Bool:=decide (0≤q.a)&&decide (0≤(fq F q.a).a)
def cmL (F G:List Opn):List Opn:=(F.filter (fun o=>decide (0≤o.a))).map (cpO G)++(G.filter (fun q=>decide (0≤q.b)&& !frm F q)).map fun q=>⟨-1,q.b⟩
section
variable {nx ny nz:Nat} {sx sy sz:Nat→Nat} {F G:List Opn}
theorem W9 (SG:St ny nz sy sz G) {n:Int} (h0:0≤n) (h1:n<ny):pq G n∈G∧(pq G n).a=n∧G.find? (fun q=>decide (q.a=n))=some (pq G n):=by
 obtain⟨q,hq,e⟩:=SG.sua n.toNat (by omega)
 have hf:=prt_find SG hq (by omega)
 rw[show q.a=n by omega] at hf
 unfold pq
 rw[hf]
 exact⟨hq,by rw[Option.getD_some];omega,O⟩
theorem fq_ok (SF:St nx ny sx sy F) {n:Int} (h0:0≤n) (h1:n<ny):fq F n∈F∧(fq F n).b=n:=by
 obtain⟨q,hq,e⟩:=SF.sub n.toNat (by omega)
 obtain⟨r,hr⟩:=Option.isSome_iff_exists.1 (List.find?_isSome (p:=fun q:Opn=>decide (q.b=n)) |>.2 ⟨q,hq,decide_eq_true (by omega)⟩)
 unfold fq
 rw[hr]
 exact⟨List.mem_of_find?_eq_some hr,by have:=List.find?_some hr;simpa using this⟩
theorem cmO_neg {n:Int} (h:n<0):cmO G n= -1:=by
 unfold cmO prt
 split
 ·rfl
 rw[if_pos (Or.inl h)];rfl
theorem cmO_pos (SG:St ny nz sy sz G) {n:Int} (h0:0≤n) (h1:n<ny):cmO G n=(pq G n).b:=by
 obtain⟨g1,g2,g3⟩:=W9 SG h0 h1
 have:=SG.rng _ g1
 unfold cmO prt
 rw[g3]
 simp only
 by_cases h:(pq G n).b<0
 ·rw[if_pos (Or.inr h),if_neg (by simp)];omega
 have h2:¬(n<0∨(pq G n).b<0):=by omega
 rw[if_neg h2,if_pos rfl]
theorem frm_iff (SF:St nx ny sx sy F) (SG:St ny nz sy sz G) {q:Opn} (hq:q∈G):frm F q=true↔∃o∈F,0≤o.a∧0≤o.b∧o.b=q.a:=by
 have hr:=SG.rng q hq
 unfold frm
 rw[Bool.and_eq_true,decide_eq_true_eq,decide_eq_true_eq]
 constructor
 ·rintro⟨h1,h2⟩
  obtain⟨g1,g2⟩:=fq_ok SF h1 hr.2.1
  exact⟨_,g1,h2,by omega,g2⟩
 rintro⟨o,A,h1,h2,h3⟩
 obtain⟨g1,g2⟩:=fq_ok SF (n:=q.a) (by omega) hr.2.1
 have:=SF.eb A g1 h2 (by omega)
 exact⟨by omega,by rw[←this];exact h1⟩
theorem frm_cm (SF:St nx ny sx sy F) (SG:St ny nz sy sz G) {q:Opn} (hq:q∈G) (hb:0≤q.b):frm F q=true↔∃o∈F,0≤o.a∧cmO G o.b=q.b:=by
 rw[frm_iff SF SG hq]
 constructor
 ·rintro⟨o,A,h1,h2,h3⟩
  have hr:=SF.rng o A
  obtain⟨g1,g2,_⟩:=W9 SG h2 hr.2.2.2.1
  exact⟨o,A,h1,by rw[cmO_pos SG h2 hr.2.2.2.1,SG.ea g1 hq (by omega) (by omega)]⟩
 rintro⟨o,A,h1,h2⟩
 have hr:=SF.rng o A
 by_cases h3:0≤o.b
 ·obtain⟨g1,g2,_⟩:=W9 SG h3 hr.2.2.2.1
  rw[cmO_pos SG h3 hr.2.2.2.1] at h2
  have:=SG.eb g1 hq (by omega) h2
  exact⟨o,A,h1,h3,by rw[←this];omega⟩
 rw[cmO_neg (by omega)] at h2;omega
theorem cm_rng (SG:St ny nz sy sz G) (n:Int) (h:n<ny): -1≤cmO G n∧cmO G n<nz∧(0≤cmO G n→0≤n∧cmO G n=(pq G n).b):=by
 by_cases h0:0≤n
 ·have e:=cmO_pos SG h0 h
  have:=SG.rng _ (W9 SG h0 h).1
  rw[e];exact⟨by omega,by omega,fun _=>⟨h0,rfl⟩⟩
 rw[cmO_neg (by omega)];exact⟨by omega,by omega,fun h=>by omega⟩
theorem St.comp (SF:St nx ny sx sy F) (SG:St ny nz sy sz G):St nx nz sx sz (cmL F G):=by
 have memF:∀x∈(F.filter (fun o=>decide (0≤o.a))).map (cpO G),∃o∈F,0≤o.a∧x=cpO G o:=fun x B=>by
  obtain⟨o,A,rfl⟩:=List.mem_map.1 B
  rw[List.mem_filter,decide_eq_true_eq] at A
  exact⟨o,A.1,A.2,O⟩
 have memG:∀x∈(G.filter (fun q=>decide (0≤q.b)&& !frm F q)).map (fun q=>(⟨-1,q.b⟩:Opn)),∃q∈G,0≤q.b∧frm F q=false∧x=⟨-1,q.b⟩:=fun x B=>by
  obtain⟨q,hq,rfl⟩:=List.mem_map.1 B
  rw[List.mem_filter,Bool.and_eq_true,decide_eq_true_eq,Bool.not_eq_true'] at hq
  exact⟨q,hq.1,hq.2.1,hq.2.2,O⟩
 refine⟨fun x B=>?_,?_,fun c E=>?_,fun c E=>?_,fun p D q hq h0 h1 h2 h3=>?_⟩
 ·rcases List.mem_append.1 B with h|h
  ·obtain⟨o,A,h0,rfl⟩:=memF x h
   have hr:=SF.rng o A
   have:=cm_rng SG o.b hr.2.2.2.1
   exact⟨by show -1≤o.a;omega,hr.2.1,this.1,this.2.1,Or.inl h0⟩
  obtain⟨q,hq,h0,_,rfl⟩:=memG x h
  have hr:=SG.rng q hq
  refine⟨?_,?_,?_,?_,Or.inr h0⟩<;>simp only<;>omega
 ·unfold cmL
  rw[List.pairwise_append]
  refine⟨?_,?_,fun x B y hy=>?_⟩
  ·rw[List.pairwise_map,List.pairwise_filter]
   refine List.Pairwise.imp_of_mem (fun{p q} D hq k h1 h2=>⟨k.1,fun h e=>?_⟩) SF.dis
   have rp:=SF.rng p D
   have rq:=SF.rng q hq
   simp only[cpO] at h e
   obtain⟨C,H⟩:=(cm_rng SG p.b rp.2.2.2.1).2.2 h
   obtain⟨q0,q1⟩:=(cm_rng SG q.b rq.2.2.2.1).2.2 (by omega)
   obtain⟨g1,g2,_⟩:=W9 SG C rp.2.2.2.1
   obtain⟨g3,g4,_⟩:=W9 SG q0 rq.2.2.2.1
   have:=SG.eb g1 g3 (by omega) (by omega)
   exact k.2 C (by rw[←g2,←g4,this])
  ·rw[List.pairwise_map,List.pairwise_filter]
   exact SG.dis.imp fun{p q} k _ _=>⟨fun h=>by simp at h,fun h=>k.2 h⟩
  obtain⟨o,A,h0,rfl⟩:=memF x B
  obtain⟨q,hq,h1,h2,rfl⟩:=memG y hy
  refine⟨fun _ e=>by simp only[cpO] at e;omega,fun _ e=>?_⟩
  have:=(frm_cm SF SG hq h1).2 ⟨o,A,h0,e⟩
  rw[h2] at this;cases this
 ·obtain⟨o,A,e⟩:=SF.sua c E
  exact⟨cpO G o,List.mem_append_left _ (List.mem_map_of_mem (by rw[List.mem_filter,decide_eq_true_eq];exact⟨A,by omega⟩)),e⟩
 ·obtain⟨q,hq,e⟩:=SG.sub c E
  cases hf:frm F q with
  |true=>
   obtain⟨o,A,h1,h2⟩:=(frm_cm SF SG hq (by omega)).1 hf
   exact⟨cpO G o,List.mem_append_left _ (List.mem_map_of_mem (by rw[List.mem_filter,decide_eq_true_eq];exact⟨A,h1⟩)),by simp only[cpO];omega⟩
  |false=>
   exact⟨⟨-1,q.b⟩,List.mem_append_right _ (List.mem_map_of_mem (f:=fun q:Opn=>(⟨-1,q.b⟩:Opn)) (by rw[List.mem_filter,Bool.and_eq_true,decide_eq_true_eq,hf];exact⟨hq,by omega,O⟩)),e⟩
 have hF:∀x∈cmL F G,0≤x.a→∃o∈F,0≤o.a∧x=cpO G o:=fun x B h=>by
  rcases List.mem_append.1 B with k|k
  ·exact memF x k
  obtain⟨q,_,_,_,rfl⟩:=memG x k
  simp at h
 obtain⟨o,A,k0,rfl⟩:=hF p D h0
 obtain⟨u,hu,k1,rfl⟩:=hF q hq (by omega)
 simp only[cpO] at h1 h2 h3⊢
 have ro:=SF.rng o A
 have ru:=SF.rng u hu
 obtain⟨C,H⟩:=(cm_rng SG o.b ro.2.2.2.1).2.2 h2
 obtain⟨q0,q1⟩:=(cm_rng SG u.b ru.2.2.2.1).2.2 h3
 obtain⟨g1,g2,_⟩:=W9 SG C ro.2.2.2.1
 obtain⟨g3,g4,_⟩:=W9 SG q0 ru.2.2.2.1
 obtain⟨t1,t2⟩:=SF.tr o A u hu k0 h1 C q0
 obtain⟨t3,t4⟩:=SG.tr _ g1 _ g3 (by omega) (by omega) (by omega) (by omega)
 rw[g2,g4] at t4
 rw[H,q1]
 exact⟨t3,t2.trans t4⟩
open Classical in
theorem nodup_len {α:Type}:∀{l m:List α},l.Nodup→(∀x∈l,x∈m)→l.length≤m.length
 | [],_,_,_=>Nat.zero_le _
 |x::l,m,h,hs=>by
  obtain⟨h1,h2⟩:=List.nodup_cons.1 h
  have A:=hs x (List.mem_cons_self ..)
  have:=nodup_len (m:=m.erase x) h2 fun y hy=>(List.mem_erase_of_ne fun e=>h1 (by rw[←e];exact hy)).2 (hs y (List.mem_cons_of_mem _ hy))
  rw[List.length_erase_of_mem A] at this
  have:=List.length_pos_of_mem A
  rw[zP];omega
theorem comp_cost (SF:St nx ny sx sy F) (SG:St ny nz sy sz G) (P Q R:List (Node×Int×Nat)):(cmL F G).countP (ctO P R)≤F.countP (ctO P Q)+G.countP (ctO Q R):=by
 let t1 (o:Opn):Bool×Opn:=if ctO P Q o=true then(true,o) else(false,pq G o.b)
 let t2 (q:Opn):Bool×Opn:=if ctO Q R q=true then(false,q) else(true,fq F q.a)
 have hlen:(cmL F G).countP (ctO P R)≤(((F.filter (fun o=>decide (0≤o.a)&&ctO P R (cpO G o))).map t1)++((G.filter (fun q=>decide (0≤q.b)&& !frm F q)).map t2)).length:=by
  unfold cmL
  rw[List.countP_append,uR,List.length_map,List.length_map]
  have e1:((F.filter (fun o=>decide (0≤o.a))).map (cpO G)).countP (ctO P R)=(F.filter (fun o=>decide (0≤o.a)&&ctO P R (cpO G o))).length:=by
   rw[List.countP_map,List.countP_eq_length_filter,List.filter_filter]
   congr 1
   exact List.filter_congr fun o _=>Bool.and_comm _ _
  have e2:=List.countP_le_length (p:=ctO P R) (l:=(G.filter (fun q=>decide (0≤q.b)&& !frm F q)).map fun q=>(⟨-1,q.b⟩:Opn))
  rw[List.length_map] at e2
  omega
 have hlen2:F.countP (ctO P Q)+G.countP (ctO Q R)=((F.filter (ctO P Q)).map (fun o=>(true,o))++(G.filter (ctO Q R)).map (fun q=>(false,q))).length:=by
  rw[uR,List.length_map,List.length_map,List.countP_eq_length_filter,List.countP_eq_length_filter]
 rw[hlen2]
 refine Nat.le_trans hlen (nodup_len ?_ fun x B=>?_)
 ·have neF:∀{p q:Opn},p∈F→((0≤p.a→p.a≠q.a)∧(0≤p.b→p.b≠q.b))→p≠q:=fun{p q} hp k e=>by
   have:=SF.rng p hp
   rcases this.2.2.2.2 with h|h
   ·exact k.1 h (by rw[e])
   exact k.2 h (by rw[e])
  have neG:∀{p q:Opn},p∈G→((0≤p.a→p.a≠q.a)∧(0≤p.b→p.b≠q.b))→p≠q:=fun{p q} hp k e=>by
   have:=SG.rng p hp
   rcases this.2.2.2.2 with h|h
   ·exact k.1 h (by rw[e])
   exact k.2 h (by rw[e])
  have ctn:∀{o:Opn},¬ctO P Q o=true→0≤o.a∧0≤o.b:=fun{o} h=>by
   simp only[ctO,Bool.or_eq_true,decide_eq_true_eq,not_or] at h;omega
  have ctq:∀{o:Opn},¬ctO Q R o=true→0≤o.a∧0≤o.b:=fun{o} h=>by
   simp only[ctO,Bool.or_eq_true,decide_eq_true_eq,not_or] at h;omega
  unfold List.Nodup
  rw[List.pairwise_append,List.pairwise_map,List.pairwise_filter,List.pairwise_map,List.pairwise_filter]
  refine⟨List.Pairwise.imp_of_mem (fun{p q} hp hq k h1 h2=>?_) SF.dis,List.Pairwise.imp_of_mem (fun{p q} hp hq k h1 h2=>?_) SG.dis,fun x B y hy=>?_⟩
  ·simp only[t1]
   by_cases c1:ctO P Q p=true
   ·rw[if_pos c1]
    by_cases c2:ctO P Q q=true
    ·rw[if_pos c2];exact fun e=>neF hp k (Prod.mk.inj e).2
    rw[if_neg c2];exact fun e=>by cases (Prod.mk.inj e).1
   rw[if_neg c1]
   by_cases c2:ctO P Q q=true
   ·rw[if_pos c2];exact fun e=>by cases (Prod.mk.inj e).1
   rw[if_neg c2]
   intro e
   have e:=(Prod.mk.inj e).2
   obtain⟨_,g2,_⟩:=W9 SG (ctn c1).2 (SF.rng p hp).2.2.2.1
   obtain⟨_,g4,_⟩:=W9 SG (ctn c2).2 (SF.rng q hq).2.2.2.1
   exact k.2 (ctn c1).2 (by rw[←g2,←g4,e])
  ·simp only[t2]
   by_cases c1:ctO Q R p=true
   ·rw[if_pos c1]
    by_cases c2:ctO Q R q=true
    ·rw[if_pos c2];exact fun e=>neG hp k (Prod.mk.inj e).2
    rw[if_neg c2];exact fun e=>by cases (Prod.mk.inj e).1
   rw[if_neg c1]
   by_cases c2:ctO Q R q=true
   ·rw[if_pos c2];exact fun e=>by cases (Prod.mk.inj e).1
   rw[if_neg c2]
   intro e
   have e:=(Prod.mk.inj e).2
   obtain⟨_,g2⟩:=fq_ok SF (ctq c1).1 (SG.rng p hp).2.1
   obtain⟨_,g4⟩:=fq_ok SF (ctq c2).1 (SG.rng q hq).2.1
   exact k.1 (ctq c1).1 (by rw[←g2,←g4,e])
  obtain⟨o,A,rfl⟩:=List.mem_map.1 B
  obtain⟨q,hq,rfl⟩:=List.mem_map.1 hy
  rw[List.mem_filter,Bool.and_eq_true,decide_eq_true_eq] at A
  rw[List.mem_filter,Bool.and_eq_true,decide_eq_true_eq,Bool.not_eq_true'] at hq
  simp only[t1,t2]
  have hnf:¬ ∃o∈F,0≤o.a∧0≤o.b∧o.b=q.a:=fun h=>by
   have:=(frm_iff SF SG hq.1).2 h
   rw[hq.2.2] at this;cases this
  by_cases c1:ctO P Q o=true
  ·rw[if_pos c1]
   by_cases c2:ctO Q R q=true
   ·rw[if_pos c2];exact fun e=>by cases (Prod.mk.inj e).1
   rw[if_neg c2]
   intro e
   have e:=(Prod.mk.inj e).2
   obtain⟨_,g4⟩:=fq_ok SF (ctq c2).1 (SG.rng q hq.1).2.1
   have:=(ctq c2).1
   exact hnf ⟨o,A.1,A.2.1,by rw[e];omega,by rw[e];exact g4⟩
  rw[if_neg c1]
  by_cases c2:ctO Q R q=true
  ·rw[if_pos c2]
   intro e
   have e:=(Prod.mk.inj e).2
   obtain⟨_,g2,_⟩:=W9 SG (ctn c1).2 (SF.rng o A.1).2.2.2.1
   exact hnf ⟨o,A.1,A.2.1,(ctn c1).2,by rw[←e];exact g2.symm⟩
  rw[if_neg c2];exact fun e=>by cases (Prod.mk.inj e).1
 rw[List.mem_append,List.mem_map,List.mem_map]
 rcases List.mem_append.1 B with h|h
 ·obtain⟨o,A,rfl⟩:=List.mem_map.1 h
  rw[List.mem_filter,Bool.and_eq_true,decide_eq_true_eq] at A
  simp only[t1]
  by_cases c1:ctO P Q o=true
  ·rw[if_pos c1];exact Or.inl ⟨o,by rw[List.mem_filter];exact⟨A.1,c1⟩,rfl⟩
  rw[if_neg c1]
  refine Or.inr ⟨pq G o.b,?_,O⟩
  have c1':=c1
  simp only[ctO,Bool.or_eq_true,decide_eq_true_eq,not_or,Bool.not_eq_true',decide_eq_false_iff_not,Decidable.not_not] at c1'
  obtain⟨⟨_,hb⟩,hlab⟩:=c1'
  have hb:0≤o.b:=by omega
  have ro:=SF.rng o A.1
  obtain⟨g1,g2,_⟩:=W9 SG hb ro.2.2.2.1
  have hcx:=A.2.2
  unfold cpO at hcx
  rw[cmO_pos SG hb ro.2.2.2.1] at hcx
  rw[List.mem_filter]
  refine⟨g1,?_⟩
  simp only[ctO,Bool.or_eq_true,decide_eq_true_eq,Bool.not_eq_true',decide_eq_false_iff_not] at hcx⊢
  rw[g2]
  rcases hcx with(h|h)|h
  ·omega
  ·exact Or.inl (Or.inr h)
  exact Or.inr fun e=>h (hlab.trans e)
 obtain⟨q,hq,rfl⟩:=List.mem_map.1 h
 rw[List.mem_filter,Bool.and_eq_true,decide_eq_true_eq,Bool.not_eq_true'] at hq
 simp only[t2]
 by_cases c1:ctO Q R q=true
 ·rw[if_pos c1];exact Or.inr ⟨q,by rw[List.mem_filter];exact⟨hq.1,c1⟩,rfl⟩
 rw[if_neg c1]
 refine Or.inl ⟨fq F q.a,?_,O⟩
 have c1':=c1
 simp only[ctO,Bool.or_eq_true,decide_eq_true_eq,not_or] at c1'
 have ha:0≤q.a:=by omega
 obtain⟨g1,g2⟩:=fq_ok SF ha (SG.rng q hq.1).2.1
 have hn:(fq F q.a).a<0:=by
  have h2:=hq.2.2
  unfold frm at h2
  rw[Bool.and_eq_false_iff,decide_eq_false_iff_not,decide_eq_false_iff_not] at h2
  omega
 rw[List.mem_filter]
 exact⟨g1,by simp[ctO,hn]⟩
end
section
variable {nx ny nz:Nat} {sx sy sz:Nat→Nat} {F G:List Opn}
theorem Q3 {α:Type} (p:α→Bool) (l:List α) (i:Nat):((l.take i).filter p).length≤l.length:=by
 have:=List.length_filter_le p (l.take i)
 rw[vL] at this;omega
theorem aB9 {α:Type} (f:α→Bool) {l:List α} {i:Nat} {x:α} (h:l[i]?=some x):(l.take (i+1)).filter f=(l.take i).filter f++if f x=true then [x] else []:=by
 rw[jF h,List.filter_append]
 congr 1
 cases hf:f x<;>simp[hf]
theorem comp_m (SF:St nx ny sx sy F) (SG:St ny nz sy sz G) (hF:F.length≤100000) (hG:G.length≤100000):
  qR F G=(oK (cmL F G)).bind some:=by
 unfold qR
 obtain⟨r,h1,M,rfl,hM⟩:=oP (body:=fun s=>pO F G s.1 s.2.1 s.2.2)
  (fun s=>∃(i:Nat) (M:List (Int×Bool)),s=((i:Int),((F.take i).filter (fun o=>decide (0≤o.a))).map (cpO G),M)∧i≤F.length∧∀b,(jS M b).getD false=true↔∃o∈F.take i,0≤o.a∧cmO G o.b=b) (fun s=>F.length-s.1.toNat)
  (fun r=>∃M,r=((F.filter (fun o=>decide (0≤o.a))).map (cpO G),M)∧∀b,(jS M b).getD false=true↔∃o∈F,0≤o.a∧cmO G o.b=b) (by
  rintro _ ⟨i,M,rfl,hi,hM⟩
  by_cases hlt:i<F.length
  ·obtain⟨o,B⟩:=iV hlt
   have hb:=Q3 (fun o:Opn=>decide (0≤o.a)) F i
   have hnext:inK .i64 ((i:Int)+1)=some ((i+1:Nat):Int):=iW (by omega)
   left
   simp only[pO]
   rw[if_pos (by simp;omega),mM B,bss]
   by_cases ha:o.a<0
   ·rw[if_pos (by simpa using ha),bss,hnext,bss]
    refine⟨_,O,⟨i+1,M,?_,by omega,fun b=>?_⟩,by simp;omega⟩
    ·rw[aB9 _ B,if_neg (by simp;omega),List.append_nil]
    rw[hM b,jF B]
    constructor
    ·rintro⟨p,A,h⟩;exact⟨p,List.mem_append_left _ A,h⟩
    rintro⟨p,A,h⟩
    rcases List.mem_append.1 A with k|k
    ·exact⟨p,k,h⟩
    rw[List.mem_singleton.1 k] at h;omega
   have D:((if(!(prt G o.b).2)=true then some (-1) else some (prt G o.b).1):Option Int)=some (cmO G o.b):=by
    unfold cmO
    cases (prt G o.b).2<;>rfl
   rw[if_neg (by simpa using ha),partner_m G o.b (by omega),bss,D,bss,H7 (by simp;omega),bss,bss,hnext,bss]
   refine⟨_,O,⟨i+1,zY M (cmO G o.b) true,?_,by omega,fun b=>?_⟩,by simp;omega⟩
   ·rw[aB9 _ B,if_pos (by simp;omega),List.map_append];rfl
   rw[mget_put,jF B]
   by_cases hbk:b=cmO G o.b
   ·rw[if_pos hbk]
    exact⟨fun _=>⟨o,by simp,by omega,hbk.symm⟩,fun _=>rfl⟩
   rw[if_neg hbk,hM b]
   constructor
   ·rintro⟨p,A,h⟩;exact⟨p,List.mem_append_left _ A,h⟩
   rintro⟨p,A,h⟩
   rcases List.mem_append.1 A with k|k
   ·exact⟨p,k,h⟩
   rw[List.mem_singleton.1 k] at h;exact absurd h.2.symm hbk
  right
  rw[wA (by omega)] at hM⊢
  exact⟨_,by simp only[pO];rw[if_neg (by simp;omega)],M,O,hM⟩) (0,[],[]) ⟨0,[],O,Nat.zero_le _,fun b=>by simp[jS]⟩
 rw[h1,bss]
 have C:=Q3 (fun o:Opn=>decide (0≤o.a)) F F.length
 rw[wA (yW _)] at C
 refine U3 (fun i=>((i:Int),(F.filter (fun o=>decide (0≤o.a))).map (cpO G)++((G.take i).filter (fun q=>decide (0≤q.b)&& !frm F q)).map fun q=>(⟨-1,q.b⟩:Opn))) G.length (cmL F G) (by simp) (fun i hi=>?_) (by simp only[rQ];rw[if_neg (by simp),wA (yW _)];rfl) O
 obtain⟨q,hq⟩:=iV hi
 have hqm:=vE hq
 have hb:=Q3 (fun q=>decide (0≤q.b)&& !frm F q) G i
 simp only[rQ]
 rw[if_pos (by simp;omega),mM hq,bss,aB9 _ hq]
 have E:(decide (0≤q.b)&& !((jS (M:List (Int×Bool)) q.b).getD false))=(decide (0≤q.b)&& !frm F q):=by
  by_cases h0:0≤q.b
  ·have:(jS M q.b).getD false=frm F q:=by rw[Bool.eq_iff_iff,hM,frm_cm SF SG hqm h0]
   rw[this]
  rw[decide_eq_false h0];rfl
 rw[E]
 cases hcc:(decide (0≤q.b)&& !frm F q) with
 |true=>rw[if_pos rfl,if_pos rfl,H7 (by simp;omega),bss,iW (by omega),bss,List.map_append,vB];rfl
 |false=>rw[if_neg (by simp),if_neg (by simp),iW (by omega),bss,List.append_nil]
theorem rto_m (SF:St nx ny sx sy F) (SG:St ny nz sy sz G) (hF:F.length≤100000) (hG:G.length≤100000) (i:Nat) (o:Opn) (D:F[i]?=some o):
  fH (fun s=>jB F G (i:Int) s.1 s.2) ((-1),0)=some (cmO G o.b):=by
 have hro:=SF.rng o (vE D)
 obtain⟨r,h1,rfl⟩:=oP (body:=fun s=>jB F G (i:Int) s.1 s.2)
  (fun s=>∃k:Nat,s.2=(k:Int)∧k≤G.length∧((s.1= -1∧∀q∈G.take k,¬(0≤o.b∧q.a=o.b))∨∃q∈G.take k,0≤o.b∧q.a=o.b∧s.1=q.b)) (fun s=>G.length-s.2.toNat) (fun r=>r=cmO G o.b) (by
  rintro⟨to,_⟩ ⟨k,rfl,hk,B⟩
  simp only at B
  by_cases hlt:k<G.length
  ·obtain⟨q,hq⟩:=iV hlt
   left
   simp only[jB]
   have e:((if(decide (0≤o.b))=true then(some q).bind fun H=>(some o).bind fun E=>some (decide (H.a=E.b)) else some false):Option Bool)=some (decide (0≤o.b)&&decide (q.a=o.b)):=by
    by_cases h:0≤o.b
    ·rw[if_pos (by simpa using h),decide_eq_true h];rfl
    rw[if_neg (by simpa using h),decide_eq_false h];rfl
   rw[if_pos (by simp;omega),mM D,mM hq,bss,e,bss]
   by_cases A:0≤o.b∧q.a=o.b
   ·rw[if_pos (by simp[A]),bss,iW (by omega),bss]
    exact⟨_,O,⟨k+1,O,by omega,Or.inr ⟨q,by rw[jF hq];simp,A.1,A.2,O⟩⟩,by simp;omega⟩
   rw[if_neg (by simpa using A),iW (by omega),bss]
   refine⟨_,O,⟨k+1,O,by omega,?_⟩,by simp;omega⟩
   rw[jF hq]
   rcases B with⟨h1,h2⟩|⟨p,C,h⟩
   ·refine Or.inl ⟨h1,fun p C=>?_⟩
    rcases List.mem_append.1 C with h|h
    ·exact h2 p h
    rw[List.mem_singleton.1 h];exact A
   exact Or.inr ⟨p,List.mem_append_left _ C,h⟩
  right
  rw[wA (by omega)] at B
  refine⟨to,by simp only[jB];rw[if_neg (by simp;omega)],?_⟩
  rcases B with⟨h1,h2⟩|⟨q,hq,h3,h4,h5⟩
  ·by_cases h0:0≤o.b
   ·obtain⟨q,hq,e⟩:=SG.sua o.b.toNat (by omega)
    exact absurd ⟨h0,by omega⟩ (h2 q hq)
   rw[h1,cmO_neg (by omega)]
  obtain⟨g1,g2,_⟩:=W9 SG h3 hro.2.2.2.1
  rw[cmO_pos SG h3 hro.2.2.2.1,h5,SG.ea hq g1 (by omega) (by omega)]) ((-1),0) ⟨0,rfl,Nat.zero_le _,Or.inl ⟨rfl,by simp⟩⟩
 exact h1
theorem rfrom_m (SF:St nx ny sx sy F) (SG:St ny nz sy sz G) (hF:F.length≤100000) (hG:G.length≤100000) (k:Nat) (q:Opn) (hq:G[k]?=some q):
  fH (fun s=>jC F G (k:Int) s.1 s.2) (false,0)=some (frm F q):=by
 have hqm:=vE hq
 obtain⟨r,h1,h2⟩:=oP (body:=fun s=>jC F G (k:Int) s.1 s.2)
  (fun s=>∃i:Nat,s.2=(i:Int)∧i≤F.length∧(s.1=true↔∃o∈F.take i,0≤o.a∧0≤o.b∧o.b=q.a)) (fun s=>F.length-s.2.toNat) (fun r=>r=true↔∃o∈F,0≤o.a∧0≤o.b∧o.b=q.a) (by
  rintro⟨fr,_⟩ ⟨i,rfl,hi,A⟩
  simp only at A
  by_cases hlt:i<F.length
  ·obtain⟨o,I⟩:=iV hlt
   left
   simp only[jC]
   have e1:((if(decide (0≤o.a))=true then(some o).bind fun E=>some (decide (0≤E.b)) else some false):Option Bool)=some (decide (0≤o.a)&&decide (0≤o.b)):=by
    by_cases h:0≤o.a
    ·rw[if_pos (by simpa using h),decide_eq_true h];rfl
    rw[if_neg (by simpa using h),decide_eq_false h];rfl
   have e2:((if(decide (0≤o.a)&&decide (0≤o.b))=true then(some o).bind fun D=>(some q).bind fun C=>some (decide (D.b=C.a)) else some false):Option Bool)=some (decide (0≤o.a)&&decide (0≤o.b)&&decide (o.b=q.a)):=by
    cases hcc:(decide (0≤o.a)&&decide (0≤o.b)) with
    |true=>rw[if_pos rfl];rfl
    |false=>rw[if_neg (by simp)];rfl
   rw[if_pos (by simp;omega),mM I,mM hq,bss,e1,bss,e2,bss]
   by_cases B:0≤o.a∧0≤o.b∧o.b=q.a
   ·rw[if_pos (by simp[B];omega),iW (by omega),bss]
    refine⟨_,O,⟨i+1,O,by omega,?_⟩,by simp;omega⟩
    exact⟨fun _=>⟨o,by rw[jF I];simp,B⟩,fun _=>rfl⟩
   rw[if_neg (by simpa[and_assoc] using B),iW (by omega),bss]
   refine⟨_,O,⟨i+1,O,by omega,?_⟩,by simp;omega⟩
   simp only
   rw[A,jF I]
   constructor
   ·rintro⟨p,H,h⟩;exact⟨p,List.mem_append_left _ H,h⟩
   rintro⟨p,H,h⟩
   rcases List.mem_append.1 H with h'|h'
   ·exact⟨p,h',h⟩
   rw[List.mem_singleton.1 h'] at h;exact absurd h B
  right
  rw[wA (by omega)] at A
  exact⟨fr,by simp only[jC];rw[if_neg (by simp;omega)],A⟩) (false,0) ⟨0,O,Nat.zero_le _,by simp⟩
 rw[h1]
 congr 1
 rw[Bool.eq_iff_iff,h2,frm_iff SF SG hqm]
theorem rcomp_m (SF:St nx ny sx sy F) (SG:St ny nz sy sz G) (hF:F.length≤100000) (hG:G.length≤100000):
  lX F G=(jO (cmL F G)).bind some:=by
 unfold lX
 refine U3 (fun i=>((i:Int),((F.take i).filter (fun o=>decide (0≤o.a))).map (cpO G))) F.length ((F.filter (fun o=>decide (0≤o.a))).map (cpO G)) (by simp) (fun i hi=>?_) (by simp only[lZ];rw[if_neg (by simp),wA (yW _)]) ?_
 ·obtain⟨o,A⟩:=iV hi
  have hb:=Q3 (fun o:Opn=>decide (0≤o.a)) F i
  simp only[lZ]
  rw[if_pos (by simp;omega),mM A,bss,aB9 _ A]
  by_cases ha:0≤o.a
  ·rw[if_pos (by simpa using ha),if_pos (by simpa using ha),rto_m SF SG hF hG i o A,bss,bss,H7 (by simp;omega),bss,iW (by omega),bss,List.map_append];rfl
  rw[if_neg (by simpa using ha),if_neg (by simpa using ha),iW (by omega),bss,List.append_nil]
 have B:=Q3 (fun o:Opn=>decide (0≤o.a)) F F.length
 rw[wA (yW _)] at B
 refine U3 (fun i=>((i:Int),(F.filter (fun o=>decide (0≤o.a))).map (cpO G)++((G.take i).filter (fun q=>decide (0≤q.b)&& !frm F q)).map fun q=>(⟨-1,q.b⟩:Opn))) G.length (cmL F G) (by simp) (fun i hi=>?_) (by simp only[mD];rw[if_neg (by simp),wA (yW _)];rfl) O
 obtain⟨q,hq⟩:=iV hi
 have hb:=Q3 (fun q=>decide (0≤q.b)&& !frm F q) G i
 simp only[mD]
 rw[if_pos (by simp;omega),mM hq,bss,aB9 _ hq]
 by_cases h0:0≤q.b
 ·rw[if_pos (by simpa using h0),rfrom_m SF SG hF hG i q hq,bss,decide_eq_true h0,Bool.true_and]
  cases frm F q with
  |true=>rw[if_neg (by simp),if_neg (by simp),iW (by omega),bss,List.append_nil]
  |false=>rw[if_pos (by rfl),if_pos (by rfl),bss,H7 (by simp;omega),bss,iW (by omega),bss,List.map_append,vB];rfl
 rw[if_neg (by simpa using h0),decide_eq_false h0,iW (by omega),bss,if_neg (by simp),List.append_nil]
end
open Classical in
theorem law_AlignComposes (E:Node) (C:Node) (B:Node) (A:(List Opn)) (D:(List Opn)) (h0:NodeWf E) (h1:NodeWf C) (h2:NodeWf B) (h3:LW (fun a:Opn=>I64 a.a∧I64 a.b) A) (h4:LW (fun a:Opn=>I64 a.a∧I64 a.b) D):lL E C B A D=some true:=by
 unfold lL
 rw[awake_ok,bss,if_neg (by simp)]
 obtain⟨r,hr,hf⟩:=few_m E C 12 (by omega) (by omega)
 obtain⟨t,ht,hg⟩:=few_m B B 12 (by omega) (by omega)
 have w1:A.length≤9223372036854775807:=by have:=h3.1;unfold maxLen at this;exact this
 have w2:D.length≤9223372036854775807:=by have:=h4.1;unfold maxLen at this;exact this
 rw[hr,bss]
 cases r with
 |false=>rfl
 |true=>
  rw[if_neg (by simp),ht,bss,bss]
  cases t with
  |false=>rfl
  |true=>
   obtain⟨c0,c1⟩:=hf O
   obtain⟨c2,_⟩:=hg O
   rw[if_neg (by simp),valid_m E C (by omega) (by omega) A w1 h3.2,bss,bss]
   by_cases H:Va E C A
   ·rw[decide_eq_true H,if_neg (by simp),valid_m C B (by omega) (by omega) D w2 h4.2,bss,bss]
    by_cases hW:Va C B D
    ·rw[decide_eq_true hW,if_neg (by simp)]
     have l1:=scr_len H.scr
     have l2:=scr_len hW.scr
     obtain⟨SF,_⟩:=H.st
     obtain⟨SG,_⟩:=hW.st
     have SX:=SF.comp SG
     have hlen:(cmL A D).length<40:=by
      obtain⟨x,b1,b2,b3⟩:=rsorted_m (cmL A D) (by
       have e1:=Q3 (fun o:Opn=>decide (0≤o.a)) A A.length
       have e2:=Q3 (fun q=>decide (0≤q.b)&& !frm A q) D D.length
       rw[wA (yW _)] at e1 e2
       unfold cmL
       rw[uR,List.length_map,List.length_map];omega)
      have:=scr_len ((SX.perm b2).vd b3).scr
      rw[b2.length_eq] at this
      omega
     obtain⟨x,a1,a2,a3,a4,a5⟩:=sorts_m SX hlen
     have hVx:Va E B x:=a3
     have hwx:=(SX.perm a4).i64 (by omega) (by omega)
     have hxl:x.length<40:=by rw[a4.length_eq];exact hlen
     have hcst:cstO E B x≤cstO E C A+cstO C B D:=by
      have:=comp_cost SF SG (prN E 0 (-1)) (prN C 0 (-1)) (prN B 0 (-1))
      unfold cstO
      rw[a4.countP_eq];exact this
     have k1:cstO E C A≤A.length:=List.countP_le_length
     have k2:cstO C B D≤D.length:=List.countP_le_length
     rw[comp_m SF SG (by omega) (by omega),a1,bss,bss,cost_m E C (by omega) (by omega) A w1 h3.2,bss,cost_m C B (by omega) (by omega) D w2 h4.2,bss,cost_m E B (by omega) (by omega) x (by omega) hwx,bss,valid_m E B (by omega) (by omega) x (by omega) hwx,bss,if_pos H,if_pos hW,if_pos hVx,decide_eq_true hVx,if_pos (by simp),jM (by simp only;omega),bss,bss,decide_eq_true (by simp only;omega),if_pos rfl,rcomp_m SF SG (by omega) (by omega),a2,bss,bss,ops_refl x (by omega)];rfl
    rw[decide_eq_false hW];rfl
   rw[decide_eq_false H];rfl
end Go.Proofs.YtopnldfjcciieaaGreat

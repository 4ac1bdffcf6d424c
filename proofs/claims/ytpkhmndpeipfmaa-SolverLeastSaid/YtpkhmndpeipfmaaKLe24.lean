/- The search with learned clauses: trail, levels, reasons, and what holds of them. No program in sight. -/
import Derived.Test.YtpkhmndpeipfmaaKLe23
import Derived.Test.YtpkhmndpeipfmaaKLe5
set_option linter.unusedVariables false
set_option linter.unusedSimpArgs false
namespace Go.Proofs.Ytpkhmndpeipfmaa
open Go.RowKit
def allL (n:Int):List Int:=(List.range n.toNat).flatMap fun k:Nat=>[((k:Int)+1),-((k:Int)+1)]
theorem mem_allL {n x:Int}:x∈allL n↔x≠0∧vr x≤n:=by
 unfold allL
 rw[List.mem_flatMap]
 constructor
 ·rintro⟨k,hk,hx⟩
  rw[List.mem_range] at hk
  simp only[List.mem_cons,List.not_mem_nil,or_false] at hx
  unfold vr
  omega
 rintro⟨h0,h1⟩
 have h2:=jY x
 have h3:vr x≠0:=fun e=>h0 (qJ.1 e)
 refine⟨(vr x-1).toNat,List.mem_range.2 (by omega),?_⟩
 simp only[List.mem_cons,List.not_mem_nil,or_false]
 have:=O3 x
 omega
def big (F:List (List Int)):List (List Int):=F.filter fun c=>decide (2≤c.length)
theorem mem_big {F:List (List Int)} {c:List Int}:c∈big F↔c∈F∧2≤c.length:=by unfold big;simp
theorem big_snoc (F:List (List Int)) {c:List Int} (h:2≤c.length):big (F++[c])=big F++[c]:=by unfold big;simp[h]
theorem big_snoc' (F:List (List Int)) {c:List Int} (h:¬2≤c.length):big (F++[c])=big F:=by unfold big;simp[h]
section
variable {n:Int} {F:List (List Int)} {S:List Int} {D:Nat→Int→Prop} {val trail:List Int} {ws:List (List Nat)} {cl:List (List Int)}
theorem Eng.more {np nc:Nat} (h:Eng n F S np nc D val trail ws cl) {D':Nat→Int→Prop} (hD:∀(id:Nat) c w o,cl[id]?=some c→Pair c w o→D' id w→o∈trail):Eng n F S np nc D' val trail ws cl:=
 {h with pr:=hD}
theorem Eng.addW (h:Eng n F S 0 0 D val trail ws cl) {q d:List Int} {a b:Int} {Ra Rb:List Nat} (ha:d[0]?=some a) (hb:d[1]?=some b) (hnd:d.Nodup) (hlit:∀y∈d,y≠0∧vr y≤n) (hsub:∀y,y∈d↔y∈q)
  (hra:ws[ixL a]?=some Ra) (hrb:ws[ixL b]?=some Rb):
  Eng n (F++[q]) S 0 0 (fun i w=>D i w∧i≠cl.length) val trail ((ws.set (ixL a) (Ra++[cl.length])).set (ixL b) (Rb++[cl.length])) (cl++[d]):=by
 have hF:∀c∈F,c∈F++[q]:=fun c hc=>List.mem_append_left _ hc
 have hab:a≠b:=by rintro rfl;have:=pI hnd ha hb;omega
 have hix:ixL a≠ixL b:=fun e=>hab (uP e)
 have hp:Pair d a b:=Or.inl ⟨ha,hb⟩
 have cases:∀(i:Nat) c,(cl++[d])[i]?=some c→(i=cl.length∧c=d)∨(i<cl.length∧cl[i]?=some c):=fun i c hc=>by
  rw[List.getElem?_append] at hc
  split at hc
  ·rename_i hi;exact Or.inr ⟨hi,hc⟩
  rename_i hi
  rcases Nat.lt_or_ge (i-cl.length) 1 with h1|h1
  ·have e:i=cl.length:=by omega
   subst e
   simp only[Nat.sub_self,List.getElem?_cons_zero,Option.some.injEq] at hc
   exact Or.inl ⟨rfl,hc.symm⟩
  rw[List.getElem?_eq_none (by simpa using h1)] at hc;cases hc
 have old:∀(i:Nat) c,cl[i]?=some c→(cl++[d])[i]?=some c:=fun i c hc=>by
  rw[List.getElem?_append_left (dB hc)];exact hc
 have new:(cl++[d])[cl.length]?=some d:=by rw[List.getElem?_append_right (Nat.le_refl _)];simp
 refine{vo:=h.vo.mono hF (fun _ h=>h),tr:=h.tr,nd:=h.nd,nn:=h.nn,bs:=fun x hx=>(h.bs x hx).mono hF (fun _ h=>h),wl:=by rw[List.length_set,List.length_set];exact h.wl,ok:=fun i c hc=>?_,src:=fun i c hc=>?_,cov:=fun o ho=>?_,row:=fun r ids hr=>?_,base:=fun i c w o hc hw hbb=>absurd hbb (by simp),pr:=fun i c w o hc hw hbb=>?_}
 ·rcases cases i c hc with⟨_,rfl⟩|⟨_,hc⟩
  ·exact⟨by have:=dB hb;omega,hnd,hlit⟩
  exact h.ok i c hc
 ·rcases cases i c hc with⟨_,rfl⟩|⟨_,hc⟩
  ·exact⟨q,List.mem_append_right _ (List.mem_singleton.2 rfl),fun y hy=>(hsub y).1 hy,fun y hy hn=>absurd ((hsub y).2 hy) hn⟩
  obtain⟨o,ho,h1⟩:=h.src i c hc
  exact⟨o,hF o ho,h1⟩
 ·rcases List.mem_append.1 ho with ho|ho
  ·rcases h.cov o ho with h1|⟨i,c,h1,h2⟩
   ·exact Or.inl h1
   exact Or.inr ⟨i,c,old i c h1,h2⟩
  rw[List.mem_singleton] at ho
  subst ho
  exact Or.inr ⟨_,d,new,fun y hy=>(hsub y).1 hy⟩
 ·have oth:∀i r',i≠cl.length→((∃c w o,(cl++[d])[i]?=some c∧Pair c w o∧ixL w=r')↔∃c w o,cl[i]?=some c∧Pair c w o∧ixL w=r'):=fun i r' e=>by
   constructor
   ·rintro⟨c,w,o,h1,h2⟩
    rcases cases i c h1 with⟨e',_⟩|⟨_,h1⟩
    ·exact absurd e' e
    exact⟨c,w,o,h1,h2⟩
   rintro⟨c,w,o,h1,h2⟩
   exact⟨c,w,o,old i c h1,h2⟩
  have own:∀r',(∃c w o,(cl++[d])[cl.length]?=some c∧Pair c w o∧ixL w=r')↔(r'=ixL a∨r'=ixL b):=fun r'=>by
   rw[new]
   constructor
   ·rintro⟨c,w,o,h1,h2,h3⟩
    obtain rfl:=Option.some.inj h1
    rcases hp.other h2 with⟨rfl,_⟩|⟨rfl,_⟩
    ·exact Or.inl h3.symm
    exact Or.inr h3.symm
   rintro(rfl|rfl)
   ·exact⟨d,a,b,rfl,hp,rfl⟩
   exact⟨d,b,a,rfl,hp.comm,rfl⟩
  have none_:∀r' ids',ws[r']?=some ids'→cl.length∉ids':=fun r' ids' hr' hm=>by
   obtain⟨c,w,o,h1,_⟩:=((h.row r' ids' hr').2 _).1 hm
   have:=dB h1;omega
  have snoc:∀(R:List Nat),cl.length∉R→R.Nodup→(R++[cl.length]).Nodup:=fun R h1 h2=>by
   rw[List.nodup_append]
   exact⟨h2,by simp,fun x hx y hy=>by rw[List.mem_singleton] at hy;subst hy;exact fun e=>h1 (e▸hx)⟩
  rcases eF hr with⟨rfl,rfl⟩|⟨hne,hr⟩
  ·obtain⟨h1,h2⟩:=h.row _ _ hrb
   refine⟨snoc _ (none_ _ _ hrb) h1,fun i=>?_⟩
   by_cases e:i=cl.length
   ·subst e;rw[own];exact⟨fun _=>Or.inr rfl,fun _=>by simp⟩
   rw[oth i _ e,←h2 i];simp[e]
  rcases eF hr with⟨rfl,rfl⟩|⟨hne2,hr⟩
  ·obtain⟨h1,h2⟩:=h.row _ _ hra
   refine⟨snoc _ (none_ _ _ hra) h1,fun i=>?_⟩
   by_cases e:i=cl.length
   ·subst e;rw[own];exact⟨fun _=>Or.inl rfl,fun _=>by simp⟩
   rw[oth i _ e,←h2 i];simp[e]
  obtain⟨h1,h2⟩:=h.row _ _ hr
  refine⟨h1,fun i=>?_⟩
  by_cases e:i=cl.length
  ·subst e
   rw[own]
   refine⟨fun hm=>absurd hm (none_ _ _ hr),fun hm=>?_⟩
   rcases hm with hm|hm
   ·exact absurd hm hne2
   exact absurd hm hne
  rw[oth i _ e,←h2 i]
 rcases cases i c hc with⟨e,rfl⟩|⟨_,hc⟩
 ·exact absurd e hbb.2
 exact h.pr i c w o hc hw hbb.1
theorem Eng.back {m:Nat} (h:Eng n F (allL n) 0 0 D val trail ws cl) {val':List Int} (hl:val'.length=val.length) (hv:∀(v:Nat),(∃x∈trail.drop m,(vr x).toNat=v)→val'[v]?=some 0∨val.length≤v) (hk:∀(v:Nat),(∀x∈trail.drop m,(vr x).toNat≠v)→val'[v]?=val[v]?)
  (hb:∀(id:Nat) c w o,cl[id]?=some c→Pair c w o→ -w∈trail.take m→o∈trail.take m):Eng n F (allL n) 0 0 (fun _ w=> -w∈trail.take m) val' (trail.take m) ws cl:=by
 have hdis:∀x,x∈trail.take m→x∉trail.drop m:=fun x h1 h2=>by
  have hn:=h.nd
  rw[←List.take_append_drop m trail,List.nodup_append] at hn
  exact hn.2.2 x h1 x h2 rfl
 have sp:∀x,x∈trail→x∈trail.take m∨x∈trail.drop m:=fun x hx=>by
  rw[←List.take_append_drop m trail] at hx;exact List.mem_append.1 hx
 have stay:∀(v:Nat) x,val'[v]?=some x→x≠0→val[v]?=some x∧∀z∈trail.drop m,(vr z).toNat≠v:=fun v x hx h0=>by
  by_cases hz:∃z∈trail.drop m,(vr z).toNat=v
  ·rcases hv v hz with e1|e1
   ·rw[e1] at hx;exact absurd (Option.some.inj hx).symm h0
   have:=dB hx;omega
  have hz':∀z∈trail.drop m,(vr z).toNat≠v:=fun z h1 h2=>hz ⟨z,h1,h2⟩
  rw[hk v hz'] at hx
  exact⟨hx,hz'⟩
 have tr':∀x,x∈trail.take m↔x≠0∧gv val' x=some x:=fun x=>by
  constructor
  ·intro hx
   have h1:=(h.tr x).1 (List.mem_of_mem_take hx)
   refine⟨h1.1,?_⟩
   have:∀z∈trail.drop m,(vr z).toNat≠(vr x).toNat:=fun z hz e1=>by
    have a:=jY z
    have b:=jY x
    rcases vr_eq.1 (show vr z=vr x by omega) with rfl|rfl
    ·exact hdis _ hx hz
    exact h.opp (List.mem_of_mem_take hx) (List.mem_of_mem_drop hz)
   unfold gv
   rw[hk _ this]
   exact h1.2
  rintro⟨h0,hx⟩
  obtain⟨h1,h2⟩:=stay _ x hx h0
  have hm:=(h.tr x).2 ⟨h0,h1⟩
  rcases sp x hm with hm|hm
  ·exact hm
  exact absurd rfl (h2 x hm)
 refine{vo:=⟨by have:=h.vo.len;omega,fun v x hx=>?_,fun v x hx h0=>?_⟩,tr:=tr',nd:=h.nd.sublist (List.take_sublist _ _),nn:=⟨Nat.le_refl _,Nat.zero_le _⟩,bs:=by simp,wl:=h.wl,ok:=h.ok,src:=by simpa using h.src,cov:=by simpa using h.cov,row:=h.row,base:=by simp,pr:=hb}
 ·by_cases h0:x=0
  ·exact Or.inl h0
  exact h.vo.own v x (stay v x hx h0).1
 exact h.vo.sound v x (stay v x hx h0).1 h0
end
def lvl (st:List Int) (i:Nat):Int:=((st.filter fun b=>decide (b≤(i:Int))).length:Int)
theorem lvl_all {st:List Int} {i:Nat} (h:∀b∈st,b≤(i:Int)):lvl st i=st.length:=by
 unfold lvl
 rw[List.filter_eq_self.2 (by simpa using h)]
theorem lvl_le (st:List Int) (i:Nat):lvl st i≤st.length:=by
 unfold lvl
 have:=List.length_filter_le (fun b=>decide (b≤(i:Int))) st
 omega
theorem lvl_nn (st:List Int) (i:Nat):0≤lvl st i:=by unfold lvl;omega
theorem lvl_mono (st:List Int) {i j:Nat} (h:i≤j):lvl st i≤lvl st j:=by
 unfold lvl
 have:(st.filter fun b=>decide (b≤(i:Int))).length≤(st.filter fun b=>decide (b≤(j:Int))).length:=by
  induction st with
  |nil=>simp
  |cons b st ih=>
   by_cases h1:b≤(i:Int)
   ·have h2:b≤(j:Int):=by omega
    simp[h1,h2,ih]
   by_cases h2:b≤(j:Int)
   ·simp[h1,h2];omega
   simp[h1,h2,ih]
 omega
theorem lvl_snoc {st:List Int} {b:Int} {i:Nat} (h:(i:Int)<b):lvl (st++[b]) i=lvl st i:=by
 unfold lvl
 have:¬b≤(i:Int):=by omega
 simp[this]
theorem lvl_ge {st:List Int} (hs:st.Pairwise (· < ·)) {k:Nat} {b:Int} (hk:st[k]?=some b) {i:Nat} (h:b≤(i:Int)):(k:Int)+1≤lvl st i:=by
 have e:st=st.take (k+1)++st.drop (k+1):=(List.take_append_drop _ _).symm
 have hl:=dB hk
 have h1:∀c∈st.take (k+1),c≤(i:Int):=fun c hc=>by
  obtain⟨j,hj⟩:=List.getElem?_of_mem hc
  rw[List.getElem?_take] at hj
  split at hj
  ·rename_i hjk
   by_cases e:j=k
   ·subst e;rw[hk] at hj;rw[←Option.some.inj hj];exact h
   have hjl:=dB hj
   have:=List.pairwise_iff_getElem.1 hs j k hjl hl (by omega)
   rw[List.getElem?_eq_getElem hjl] at hj
   rw[List.getElem?_eq_getElem hl] at hk
   rw[Option.some.inj hj,Option.some.inj hk] at this
   omega
  cases hj
 unfold lvl
 rw[e,List.filter_append,List.filter_eq_self.2 (by simpa using h1),List.length_append,List.length_take]
 omega
theorem lvl_lt {st:List Int} (hs:st.Pairwise (· < ·)) {k:Nat} {b:Int} (hk:st[k]?=some b) {i:Nat} (h:(i:Int)<b):lvl st i=lvl (st.take k) i:=by
 have e:st=st.take k++st.drop k:=(List.take_append_drop _ _).symm
 have hl:=dB hk
 have h1:(st.drop k).filter (fun c=>decide (c≤(i:Int)))=[]:=by
  rw[List.filter_eq_nil_iff]
  intro c hc
  obtain⟨j,hj⟩:=List.getElem?_of_mem hc
  rw[List.getElem?_drop] at hj
  have:b≤c:=by
   by_cases e:j=0
   ·subst e;rw[Nat.add_zero,hk] at hj;rw[Option.some.inj hj];omega
   have hjl:=dB hj
   have:=List.pairwise_iff_getElem.1 hs k (k+j) hl hjl (by omega)
   rw[List.getElem?_eq_getElem hjl] at hj
   rw[List.getElem?_eq_getElem hl] at hk
   rw[Option.some.inj hj,Option.some.inj hk] at this
   omega
  simp;omega
 unfold lvl
 conv=>lhs;rw[e]
 rw[List.filter_append,h1,List.append_nil]
theorem lvl_lt' {st:List Int} (hs:st.Pairwise (· < ·)) {k:Nat} {b:Int} (hk:st[k]?=some b) {i:Nat} (h:(i:Int)<b):lvl st i≤k:=by
 rw[lvl_lt hs hk h]
 have:=lvl_le (st.take k) i
 rw[List.length_take] at this
 omega
def Why (F:List (List Int)) (st trail:List Int) (cl:List (List Int)) (i:Nat) (x:Int):Option Nat→Prop
 |none=>(i:Int)∈st∨(lvl st i=0∧UP F [] x)
 |some id=>∃c,cl[id]?=some c∧x∈c∧(∀y∈c,y≠x→ -y∈trail.take i)∧∃y∈c,y≠x∧∃k,trail[k]?=some (-y)∧lvl st k=lvl st i
structure Cor (n:Int) (F:List (List Int)) (st:List Int) (D:Nat→Int→Prop) (val lev:List Int) (rea:List (Option Nat)) (trail:List Int) (ws:List (List Nat)) (cl:List (List Int)):Prop where
 eng:Eng n (big F) (allL n) 0 0 D val trail ws cl
 ll:(lev.length:Int)=n+1
 rl:(rea.length:Int)=n+1
 lv:∀(i:Nat) x,trail[i]?=some x→lev[(vr x).toNat]?=some (lvl st i)
 re:∀(i:Nat) x r,trail[i]?=some x→rea[(vr x).toNat]?=some r→Why F st trail cl i x r
 rid:∀id,some id∈rea→id<cl.length
 bas:∀b∈st,∀(id:Nat) c w o,cl[id]?=some c→Pair c w o→ -w∈trail.take b.toNat→o∈trail.take b.toNat
 sts:st.Pairwise (· < ·)
 stb:∀b∈st,0≤b∧b<trail.length
section
variable {n:Int} {F:List (List Int)} {st:List Int} {D:Nat→Int→Prop} {val lev:List Int} {rea:List (Option Nat)} {trail:List Int} {ws:List (List Nat)} {cl:List (List Int)}
theorem Cor.less (h:Cor n F st D val lev rea trail ws cl) {D':Nat→Int→Prop} (hD:∀id w,D' id w→D id w):Cor n F st D' val lev rea trail ws cl:={h with eng:=h.eng.less hD}
theorem Cor.more (h:Cor n F st D val lev rea trail ws cl) {D':Nat→Int→Prop} (hD:∀(id:Nat) c w o,cl[id]?=some c→Pair c w o→D' id w→o∈trail):Cor n F st D' val lev rea trail ws cl:={h with eng:=h.eng.more hD}
theorem Cor.done (h:Cor n F st D val lev rea trail ws cl) {id:Nat} {c:List Int} {l o:Int} (hc:cl[id]?=some c) (hp:Pair c l o) (ho:o∈trail):Cor n F st (fun i w=>D i w∨(i=id∧w=l)) val lev rea trail ws cl:={h with eng:=h.eng.done hc hp ho}
theorem Cor.lit (h:Cor n F st D val lev rea trail ws cl) {x:Int} (hx:x∈trail):x≠0∧vr x≤n:=by
 obtain⟨h0,h1⟩:=(h.eng.tr x).1 hx
 have h2:=dB h1
 have h3:=h.eng.vo.len
 have h4:=jY x
 exact⟨h0,by omega⟩
theorem Cor.at_ (h:Cor n F st D val lev rea trail ws cl) {i j:Nat} {x y:Int} (hi:trail[i]?=some x) (hj:trail[j]?=some y) (e:vr x=vr y):i=j:=by
 rcases vr_eq.1 e with rfl|rfl
 ·exact pI h.eng.nd hi hj
 exact(h.eng.opp (bP hj) (bP hi)).elim
theorem Why.turn {i:Nat} {x:Int} {r:Option Nat} {id:Nat} {c c':List Int} (hc:cl[id]?=some c) (hs:∀y,y∈c'↔y∈c) (h:Why F st trail cl i x r):Why F st trail (cl.set id c') i x r:=by
 cases r with
 |none=>exact h
 |some k=>
  obtain⟨d,h1,h2,h3,y,h4,h5⟩:=h
  by_cases e:k=id
  ·subst e
   obtain rfl:=Option.some.inj (hc.symm.trans h1)
   exact⟨c',dO hc,(hs x).2 h2,fun y hy=>h3 y ((hs y).1 hy),y,(hs y).2 h4,h5⟩
  exact⟨d,by rw[dA e];exact h1,h2,h3,y,h4,h5⟩
theorem Cor.turn (h:Cor n F st D val lev rea trail ws cl) {id:Nat} {c c':List Int} (hc:cl[id]?=some c) (hs:Same c c') (hp:∀w o,Pair c' w o↔Pair c w o):Cor n F st D val lev rea trail ws (cl.set id c'):=
 {h with
  eng:=h.eng.turn hc hs hp
  re:=fun i x r hx hr=>(h.re i x r hx hr).turn hc hs.mem
  rid:=fun i hi=>by rw[List.length_set];exact h.rid i hi
  bas:=fun b hb i d w o hd hw ho=>by
   rcases eF hd with⟨rfl,rfl⟩|⟨_,hd⟩
   ·exact h.bas b hb _ c w o hc ((hp w o).1 hw) ho
   exact h.bas b hb i d w o hd hw ho}
theorem Cor.move (h:Cor n F st D val lev rea trail ws cl) {id:Nat} {c c':List Int} {l o y:Int} {V1 V2 R:List Nat} (hc:cl[id]?=some c) (hs:Same c c') (hp:Pair c l o) (hp':Pair c' y o) (hyl:y≠l) (hyo:y≠o)
  (hl: -l∈trail) (hy: -y∉trail) (ho:o∉trail) (hD:∀i w,D i w→ -w∈trail) (hr:ws[ixL l]?=some (V1++id::V2)) (hR:ws[ixL y]?=some R):
  Cor n F st D val lev rea trail ((ws.set (ixL y) (R++[id])).set (ixL l) (V1++V2)) (cl.set id c'):=
 {h with
  eng:=h.eng.move hc hs hp hp' hyl hyo hl hy ho hD hr hR
  re:=fun i x r hx hr=>(h.re i x r hx hr).turn hc hs.mem
  rid:=fun i hi=>by rw[List.length_set];exact h.rid i hi
  bas:=fun b hb i d w p hd hw hwb=>by
   rcases eF hd with⟨rfl,rfl⟩|⟨_,hd⟩
   ·rcases hp'.other hw with⟨rfl,_⟩|⟨rfl,_⟩
    ·exact absurd (List.mem_of_mem_take hwb) hy
    have:=h.bas b hb _ _ _ _ hc hp.comm hwb
    exact(h.eng.opp (List.mem_of_mem_take this) hl).elim
   exact h.bas b hb i d w p hd hw hwb}
theorem Cor.void (h:Cor n F st D val lev rea trail ws cl) {id:Nat} {c:List Int} {l:Int} (hc:cl[id]?=some c) (hv:∀o,¬Pair c l o):Cor n F st (fun i w=>D i w∨(i=id∧w=l)) val lev rea trail ws cl:=
 h.more fun i c' w p h1 h2 h3=>by
  rcases h3 with h3|⟨rfl,rfl⟩
  ·exact h.eng.pr i c' w p h1 h2 h3
  obtain rfl:=Option.some.inj (hc.symm.trans h1)
  exact absurd h2 (hv p)
theorem Cor.top (h:Cor n F st D val lev rea trail ws cl) {i:Nat} (hi:trail.length≤i):lvl st i=st.length:=lvl_all fun b hb=>by have:=h.stb b hb;omega
theorem Why.hold {i:Nat} {x z:Int} {r:Option Nat} (hi:i<trail.length) (h:Why F st trail cl i x r):Why F st (trail++[z]) cl i x r:=by
 cases r with
 |none=>exact h
 |some k=>
  obtain⟨d,h1,h2,h3,y,h4,h5,j,h6,h7⟩:=h
  refine⟨d,h1,h2,fun y hy hne=>?_,y,h4,h5,j,by rw[List.getElem?_append_left (dB h6)];exact h6,h7⟩
  rw[List.take_append_of_le_length (by omega)]
  exact h3 y hy hne
theorem Cor.hold (h:Cor n F st D val lev rea trail ws cl) {x:Int} (h0:x≠0) (hx:vr x≤n) (hz:gv val x=some 0) {r:Option Nat} (hw:Why F st trail cl trail.length x r) (hrl:∀id,r=some id→id<cl.length):
  Cor n F st D (val.set (vr x).toNat x) (lev.set (vr x).toNat (st.length:Int)) (rea.set (vr x).toNat r) (trail++[x]) ws cl:=by
 have hx0:=jY x
 have oth:∀(i:Nat) y,trail[i]?=some y→(vr y).toNat≠(vr x).toNat:=fun i y hy e=>by
  have h1:=(h.eng.tr y).1 (bP hy)
  have h2:=jY y
  unfold gv at h1 hz
  rw[e,hz] at h1
  exact h1.1 (Option.some.inj h1.2).symm
 have cs:∀(i:Nat) y,(trail++[x])[i]?=some y→(i<trail.length∧trail[i]?=some y)∨(i=trail.length∧y=x):=fun i y hy=>by
  rcases Nat.lt_or_ge i trail.length with hi|hi
  ·rw[List.getElem?_append_left hi] at hy;exact Or.inl ⟨hi,hy⟩
  rw[List.getElem?_append_right hi] at hy
  by_cases e:i=trail.length
  ·subst e;simp at hy;exact Or.inr ⟨rfl,hy.symm⟩
  rw[List.getElem?_eq_none (by simp;omega)] at hy;cases hy
 obtain⟨lx,hlx⟩:=bM (show(vr x).toNat<lev.length by have:=h.ll;omega)
 obtain⟨rx,hrx⟩:=bM (show(vr x).toNat<rea.length by have:=h.rl;omega)
 refine{eng:=h.eng.hold h0 hx hz (.start (mem_allL.2 ⟨h0,hx⟩)),ll:=by rw[List.length_set];exact h.ll,rl:=by rw[List.length_set];exact h.rl,lv:=fun i y hy=>?_,re:=fun i y r' hy hr=>?_,rid:=fun id hid=>?_,bas:=fun b hb id c w o hc hp hwb=>?_,sts:=h.sts,stb:=fun b hb=>by have:=h.stb b hb;rw[List.length_append];omega}
 ·rcases cs i y hy with⟨_,hy⟩|⟨rfl,rfl⟩
  ·rw[dA (oth i y hy)];exact h.lv i y hy
  rw[dO hlx,h.top (Nat.le_refl _)]
 ·rcases cs i y hy with⟨hi,hy⟩|⟨rfl,rfl⟩
  ·rw[dA (oth i y hy)] at hr
   exact(h.re i y r' hy hr).hold hi
  rw[dO hrx] at hr
  obtain rfl:=Option.some.inj hr
  cases r with
  |none=>exact hw
  |some k=>
   obtain⟨d,h1,h2,h3,y,h4,h5,j,h6,h7⟩:=hw
   refine⟨d,h1,h2,fun y hy hne=>?_,y,h4,h5,j,by rw[List.getElem?_append_left (dB h6)];exact h6,h7⟩
   rw[List.take_append_of_le_length (by omega)]
   exact h3 y hy hne
 ·obtain⟨j,hj⟩:=List.getElem?_of_mem hid
  rcases eF hj with⟨_,e⟩|⟨_,hj⟩
  ·exact hrl id e.symm
  exact h.rid id (bP hj)
 have:=h.stb b hb
 rw[List.take_append_of_le_length (by omega)] at hwb⊢
 exact h.bas b hb id c w o hc hp hwb
theorem Cor.decide (h:Cor n F st (fun _ w=> -w∈trail) val lev rea trail ws cl) {x:Int} (h0:x≠0) (hx:vr x≤n) (hz:gv val x=some 0):
  Cor n F (st++[(trail.length:Int)]) (fun _ w=> -w∈trail) (val.set (vr x).toNat x) (lev.set (vr x).toNat ((st.length:Int)+1)) (rea.set (vr x).toNat none) (trail++[x]) ws cl:=by
 have hx0:=jY x
 have oth:∀(i:Nat) y,trail[i]?=some y→(vr y).toNat≠(vr x).toNat:=fun i y hy e=>by
  have h1:=(h.eng.tr y).1 (bP hy)
  have h2:=jY y
  unfold gv at h1 hz
  rw[e,hz] at h1
  exact h1.1 (Option.some.inj h1.2).symm
 have cs:∀(i:Nat) y,(trail++[x])[i]?=some y→(i<trail.length∧trail[i]?=some y)∨(i=trail.length∧y=x):=fun i y hy=>by
  rcases Nat.lt_or_ge i trail.length with hi|hi
  ·rw[List.getElem?_append_left hi] at hy;exact Or.inl ⟨hi,hy⟩
  rw[List.getElem?_append_right hi] at hy
  by_cases e:i=trail.length
  ·subst e;simp at hy;exact Or.inr ⟨rfl,hy.symm⟩
  rw[List.getElem?_eq_none (by simp;omega)] at hy;cases hy
 have lo:∀(i:Nat),i<trail.length→lvl (st++[(trail.length:Int)]) i=lvl st i:=fun i hi=>lvl_snoc (by omega)
 obtain⟨lx,hlx⟩:=bM (show(vr x).toNat<lev.length by have:=h.ll;omega)
 obtain⟨rx,hrx⟩:=bM (show(vr x).toNat<rea.length by have:=h.rl;omega)
 have eng:=h.eng.hold h0 hx hz (.start (mem_allL.2 ⟨h0,hx⟩))
 refine{eng:=eng,ll:=by rw[List.length_set];exact h.ll,rl:=by rw[List.length_set];exact h.rl,lv:=fun i y hy=>?_,re:=fun i y r' hy hr=>?_,rid:=fun id hid=>?_,bas:=fun b hb id c w o hc hp hwb=>?_,sts:=?_,stb:=fun b hb=>?_}
 ·rcases cs i y hy with⟨hi,hy⟩|⟨rfl,rfl⟩
  ·rw[dA (oth i y hy),lo i hi];exact h.lv i y hy
  rw[dO hlx,lvl_all (fun b hb=>by
   rcases List.mem_append.1 hb with hb|hb
   ·have:=h.stb b hb;omega
   rw[List.mem_singleton] at hb;omega)]
  simp
 ·rcases cs i y hy with⟨hi,hy⟩|⟨rfl,rfl⟩
  ·rw[dA (oth i y hy)] at hr
   have:=(h.re i y r' hy hr).hold hi (z:=x)
   cases r' with
   |none=>
    rcases this with h1|⟨h1,h2⟩
    ·exact Or.inl (List.mem_append_left _ h1)
    exact Or.inr ⟨by rw[lo i hi];exact h1,h2⟩
   |some k=>
    obtain⟨d,h1,h2,h3,y',h4,h5,j,h6,h7⟩:=h.re i y _ hy hr
    refine⟨d,h1,h2,fun y hy hne=>?_,y',h4,h5,j,by rw[List.getElem?_append_left (dB h6)];exact h6,by rw[lo i hi,lo j (dB h6)];exact h7⟩
    rw[List.take_append_of_le_length (by omega)]
    exact h3 y hy hne
  rw[dO hrx] at hr
  obtain rfl:=Option.some.inj hr
  exact Or.inl (List.mem_append_right _ (List.mem_singleton.2 rfl))
 ·obtain⟨j,hj⟩:=List.getElem?_of_mem hid
  rcases eF hj with⟨_,e⟩|⟨_,hj⟩
  ·cases e
  exact h.rid id (bP hj)
 ·rcases List.mem_append.1 hb with hb|hb
  ·have:=h.stb b hb
   rw[List.take_append_of_le_length (by omega)] at hwb⊢
   exact h.bas b hb id c w o hc hp hwb
  rw[List.mem_singleton] at hb
  subst hb
  rw[Int.toNat_natCast,List.take_left' rfl] at hwb⊢
  exact h.eng.pr id c w o hc hp hwb
 ·rw[List.pairwise_append]
  exact⟨h.sts,by simp,fun a ha b hb=>by rw[List.mem_singleton] at hb;have:=h.stb a ha;omega⟩
 rw[List.length_append,List.length_singleton]
 rcases List.mem_append.1 hb with hb|hb
 ·have:=h.stb b hb;omega
 rw[List.mem_singleton] at hb;omega
theorem Cor.undo (h:Cor n F st D val lev rea trail ws cl) {k:Nat} {b:Int} (hk:st[k]?=some b) {val':List Int} {rea':List (Option Nat)} (hl:val'.length=val.length) (hl2:rea'.length=rea.length)
  (hv:∀(v:Nat),(∃x∈trail.drop b.toNat,(vr x).toNat=v)→val'[v]?=some 0∨val.length≤v) (hkv:∀(v:Nat),(∀x∈trail.drop b.toNat,(vr x).toNat≠v)→val'[v]?=val[v]?)
  (hr:∀(v:Nat) r,rea'[v]?=some r→r=none∨rea[v]?=some r) (hkr:∀(v:Nat),(∀x∈trail.drop b.toNat,(vr x).toNat≠v)→rea'[v]?=rea[v]?):
  Cor n F (st.take k) (fun _ w=> -w∈trail.take b.toNat) val' lev rea' (trail.take b.toNat) ws cl:=by
 have hb:=h.stb b (bP hk)
 have cs:∀(i:Nat) y,(trail.take b.toNat)[i]?=some y→i<b.toNat∧trail[i]?=some y:=fun i y hy=>by
  rw[List.getElem?_take] at hy
  split at hy
  ·rename_i hi;exact⟨hi,hy⟩
  cases hy
 have lo:∀(i:Nat),i<b.toNat→lvl (st.take k) i=lvl st i:=fun i hi=>(lvl_lt h.sts hk (by omega)).symm
 have sb:∀c∈st.take k,c<b:=fun c hc=>by
  obtain⟨j,hj⟩:=List.getElem?_of_mem hc
  rw[List.getElem?_take] at hj
  split at hj
  ·rename_i hjk
   have hl:=dB hk
   have hjl:=dB hj
   have:=List.pairwise_iff_getElem.1 h.sts j k hjl hl hjk
   rw[List.getElem?_eq_getElem hjl] at hj
   rw[List.getElem?_eq_getElem hl] at hk
   rw[Option.some.inj hj,Option.some.inj hk] at this
   exact this
  cases hj
 refine{eng:=h.eng.back hl hv hkv (fun id c w o hc hp hw=>h.bas b (bP hk) id c w o hc hp hw),ll:=h.ll,rl:=by rw[hl2];exact h.rl,lv:=fun i y hy=>?_,re:=fun i y r' hy hr'=>?_,rid:=fun id hid=>?_,bas:=fun c hc id d w o hd hp hwb=>?_,sts:=h.sts.sublist (List.take_sublist _ _),stb:=fun c hc=>?_}
 ·obtain⟨hi,hy⟩:=cs i y hy
  rw[lo i hi];exact h.lv i y hy
 ·obtain⟨hi,hy⟩:=cs i y hy
  have hne:∀z∈trail.drop b.toNat,(vr z).toNat≠(vr y).toNat:=fun z hz e=>by
   obtain⟨j,hj⟩:=List.getElem?_of_mem hz
   rw[List.getElem?_drop] at hj
   have h1:=jY z
   have h2:=jY y
   have:=h.at_ hj hy (by omega)
   omega
  rw[hkr _ hne] at hr'
  have hw:=h.re i y r' hy hr'
  cases r' with
  |none=>
   rcases hw with h1|⟨h1,h2⟩
   ·refine Or.inl ?_
    rw[←List.take_append_drop k st] at h1
    rcases List.mem_append.1 h1 with h1|h1
    ·exact h1
    obtain⟨j,hj⟩:=List.getElem?_of_mem h1
    rw[List.getElem?_drop] at hj
    have hl:=dB hk
    have hjl:=dB hj
    by_cases e:j=0
    ·subst e;rw[Nat.add_zero,hk] at hj;have:=Option.some.inj hj;omega
    have:=List.pairwise_iff_getElem.1 h.sts k (k+j) hl hjl (by omega)
    rw[List.getElem?_eq_getElem hjl] at hj
    rw[List.getElem?_eq_getElem hl] at hk
    rw[Option.some.inj hj,Option.some.inj hk] at this
    omega
   exact Or.inr ⟨by rw[lo i hi];exact h1,h2⟩
  |some id=>
   obtain⟨d,h1,h2,h3,y',h4,h5,j,h6,h7⟩:=hw
   refine⟨d,h1,h2,fun z hz hne=>by rw[List.take_take,Nat.min_eq_left (by omega)];exact h3 z hz hne,y',h4,h5,j,?_,?_⟩
   ·have hj:j<i:=by
     obtain⟨j',hj'⟩:=List.getElem?_of_mem (h3 y' h4 h5)
     have hjc:=hj'
     rw[List.getElem?_take] at hjc
     split at hjc
     ·have:=pI h.eng.nd h6 hjc;omega
     cases hjc
    rw[List.getElem?_take,if_pos (by omega)];exact h6
   have hj:j<i:=by
    obtain⟨j',hj'⟩:=List.getElem?_of_mem (h3 y' h4 h5)
    have hjc:=hj'
    rw[List.getElem?_take] at hjc
    split at hjc
    ·have:=pI h.eng.nd h6 hjc;omega
    cases hjc
   rw[lo i hi,lo j (by omega)];exact h7
 ·obtain⟨j,hj⟩:=List.getElem?_of_mem hid
  rcases hr j _ hj with e|e
  ·cases e
  exact h.rid id (bP e)
 ·have h1:=sb c hc
  have h2:=h.stb c (List.mem_of_mem_take hc)
  rw[List.take_take,Nat.min_eq_left (by omega)] at hwb⊢
  exact h.bas c (List.mem_of_mem_take hc) id d w o hd hp hwb
 have h1:=sb c hc
 have h2:=h.stb c (List.mem_of_mem_take hc)
 rw[List.length_take];omega
theorem Cor.up0 (h:Cor n F st D val lev rea trail ws cl):∀(i:Nat) {x:Int},trail[i]?=some x→lvl st i=0→UP F [] x:=by
 intro i
 induction i using Nat.strongRecOn with
 |ind i ih=>
  intro x hx h0
  have hl:=h.lit (bP hx)
  obtain⟨r,hr⟩:=bM (show(vr x).toNat<rea.length by have:=h.rl;have:=jY x;omega)
  have hw:=h.re i x r hx hr
  cases r with
  |none=>
   rcases hw with h1|⟨_,h1⟩
   ·obtain⟨k,hk⟩:=List.getElem?_of_mem h1
    have:=lvl_ge h.sts hk (Int.le_refl _)
    omega
   exact h1
  |some id=>
   obtain⟨c,h1,h2,h3,_⟩:=hw
   obtain⟨o,h4,h5,h6⟩:=h.eng.src id c h1
   have hF:=(mem_big.1 h4).1
   refine .unit hF (h5 x h2) fun y hy hne=>?_
   have hyc:y∈c:=Classical.byContradiction fun hn=>by have:=h6 y hy hn;simp at this
   obtain⟨j,hj⟩:=List.getElem?_of_mem (h3 y hyc hne)
   rw[List.getElem?_take] at hj
   split at hj
   ·rename_i hji
    exact ih j hji hj (by have:=lvl_mono st (show j≤i by omega);have:=lvl_nn st j;omega)
   cases hj
end
theorem yD:∀(m:Nat) (l:List Nat),l.Nodup→(∀x∈l,x<m)→l.length≤m
 |0,[],_,_=>Nat.le_refl _
 |0,x::_,_,h=>absurd (h x (List.mem_cons_self ..)) (by omega)
 |m+1,l,hn,h=>by
  have h1:=yD m (l.erase m) (hn.erase m) (fun x hx=>by
   have h2:=h x (List.mem_of_mem_erase hx)
   have h3:x≠m:=fun e=>by subst e;exact hn.not_mem_erase hx
   omega)
  by_cases hm:m∈l
  ·rw[List.length_erase_of_mem hm] at h1;omega
  rw[List.erase_of_not_mem hm] at h1;omega
section
variable {n:Int} {F:List (List Int)} {S:List Int} {np nc:Nat} {D:Nat→Int→Prop} {val trail:List Int} {ws:List (List Nat)} {cl:List (List Int)}
theorem Eng.rowLen (h:Eng n F S np nc D val trail ws cl) {r:Nat} {ids:List Nat} (hr:ws[r]?=some ids):ids.length≤cl.length:=
 yD _ _ (h.row r ids hr).1 fun id hid=>by
  obtain⟨c,_,_,hc,_⟩:=((h.row r ids hr).2 id).1 hid
  exact dB hc
theorem Eng.lit (h:Eng n F S np nc D val trail ws cl) {x:Int} (hx:x∈trail):x≠0∧vr x≤n:=by
 obtain⟨h0,h1⟩:=(h.tr x).1 hx
 have h2:=dB h1
 have h3:=h.vo.len
 have h4:=jY x
 exact⟨h0,by omega⟩
theorem Eng.trailLen (h:Eng n F S np nc D val trail ws cl) (hn:0≤n):(trail.length:Int)≤n:=by
 have h1:=yD n.toNat (trail.map fun x=>(vr x).toNat-1) (by
  unfold List.Nodup
  rw[List.pairwise_map]
  refine List.Pairwise.imp_of_mem (fun{a b} ha hb hne he=>?_) h.nd
  have h1:=h.lit ha
  have h2:=h.lit hb
  have h3:=jY a
  have h4:=jY b
  have h5:vr a≠0:=fun e=>h1.1 (qJ.1 e)
  have h6:vr b≠0:=fun e=>h2.1 (qJ.1 e)
  rcases vr_eq.1 (show vr a=vr b by omega) with e|e
  ·exact hne e
  ·exact h.opp hb (e▸ha)) (fun x hx=>by
  obtain⟨y,hy,rfl⟩:=List.mem_map.1 hx
  have h1:=h.lit hy
  have h3:=jY y
  have h5:vr y≠0:=fun e=>h1.1 (qJ.1 e)
  omega)
 rw[List.length_map] at h1
 omega
theorem Eng.void (h:Eng n F S np nc D val trail ws cl) {id:Nat} {c:List Int} {l:Int} (hc:cl[id]?=some c) (hv:∀o,¬Pair c l o):Eng n F S np nc (fun i w=>D i w∨(i=id∧w=l)) val trail ws cl:=by
 refine{h with pr:=fun i c' w p h1 h2 h3=>?_}
 rcases h3 with h3|⟨rfl,rfl⟩
 ·exact h.pr i c' w p h1 h2 h3
 obtain rfl:=Option.some.inj (hc.symm.trans h1)
 exact absurd h2 (hv p)
end
theorem aL3 {l:Int} (h: -1099511627776≤l∧l≤1099511627776):lV l=some (ixL l:Int):=by
 unfold lV ixL
 by_cases h0:l<0
 ·rw[if_pos (by simpa using h0),if_pos h0,iV ⟨by omega,by omega⟩,bsm,iV ⟨by omega,by omega⟩,bsm]
  congr 1;omega
 rw[if_neg (by simpa using h0),if_neg h0,iV ⟨by omega,by omega⟩,bsm]
 congr 1;omega
theorem ixL_bnd {l n:Int} (hl:vr l≤n):(ixL l:Int)<2*n+2:=by
 have h1:=nM.1 hl
 unfold ixL;split<;>omega
section
variable {n:Int} {F:List (List Int)} {S:List Int} {np nc:Nat} {D:Nat→Int→Prop} {val trail:List Int} {ws:List (List Nat)} {cl:List (List Int)}
theorem Eng.rowAt (h:Eng n F S np nc D val trail ws cl) {l:Int} (hl:vr l≤n):∃R,ws[ixL l]?=some R:=
 bM (by have:=ixL_bnd hl;have:=h.wl;omega)
theorem of_ok (h:Eng n F S np nc D val trail ws cl) {l:Int} (h0:l≠0) (hl:vr l≤n) (hn:n≤65536) {tr:List Int} {hd:Int} {W:List (List Nat)×List (List Int)} {fl:Bool}:
  ∃r,jC (PEng.mk val tr hd W fl) l=some r∧((r=1∧l∈trail)∨(r= -1∧ -l∈trail)∨(r=0∧gv val l=some 0∧l∉trail∧ -l∉trail)):=by
 have hb:=nM.1 hl
 unfold jC
 have key:∀y,gv val l=some y→idx val (max l (0-l))=some y:=fun y hy=>kQ (jY l) hy
 rw[iV ⟨by omega,by omega⟩,bsm]
 simp only
 rcases h.cases h0 hl with⟨h1,h2⟩|⟨h1,h2⟩|⟨h1,h2,h3⟩
 ·rw[key _ h1,bsm]
  exact⟨1,by simp[h0],Or.inl ⟨rfl,h2⟩⟩
 ·rw[key _ h1,bsm]
  have e1:¬(-l=0):=by omega
  have e2:¬(-l=l):=by omega
  exact⟨-1,by simp[e1,e2],Or.inr (Or.inl ⟨rfl,h2⟩)⟩
 rw[key _ h1,bsm]
 exact⟨0,by simp,Or.inr (Or.inr ⟨rfl,h1,h2,h3⟩)⟩
theorem hold_ok (h:Eng n F S np nc D val trail ws cl) {l:Int} (hl:vr l≤n) (hn:n≤65536) (hn0:0≤n) {hd:Int} {W:List (List Nat)×List (List Int)} {fl:Bool}:
  lF (PEng.mk val trail hd W fl) l=some (PEng.mk (val.set (vr l).toNat l) (trail++[l]) hd W fl):=by
 have hb:=nM.1 hl
 have ht:=h.trailLen hn0
 obtain⟨y,h1,_,_⟩:=h.vo.get hl
 unfold lF
 rw[iV ⟨by omega,by omega⟩,bsm]
 simp only
 rw[show idx val (max l (0-l))=some y from kQ (jY l) h1,bsm,qA (by simp;omega),bsm]
 rfl
theorem seek_ok (h:Eng n F S np nc D val trail ws cl) (hn:n≤65536) {c:List Int} (hc:∀y∈c,y≠0∧vr y≤n) (hlen:2≤c.length) (hc4:c.length≤4294967296) {tr:List Int} {hd:Int} {W:List (List Nat)×List (List Int)} {fl:Bool}:
  ∃b:Nat,dE (fun s=>fQ W hd fl val tr c s) 2=some (b:Int)∧2≤b∧b≤c.length∧(∀j y,2≤j→j<b→c[j]?=some y→ -y∈trail)∧(∀y,c[b]?=some y→ -y∉trail):=by
 have key:∀(m k:Nat),k+m=c.length→2≤k→(∀j y,2≤j→j<k→c[j]?=some y→ -y∈trail)→
   ∃b:Nat,dE (fun s=>fQ W hd fl val tr c s) (k:Int)=some (b:Int)∧2≤b∧b≤c.length∧(∀j y,2≤j→j<b→c[j]?=some y→ -y∈trail)∧(∀y,c[b]?=some y→ -y∉trail):=by
  intro m
  induction m with
  |zero=>
   intro k hk h2 hi
   obtain rfl:k=c.length:=by omega
   refine⟨c.length,eQ ?_,h2,Nat.le_refl _,hi,fun y hy=>by rw[List.getElem?_eq_none (Nat.le_refl _)] at hy;cases hy⟩
   simp only[fQ,qZ,if_false,Bool.false_eq_true,bsm]
  |succ m ih=>
   intro k hk h2 hi
   have hlt:k<c.length:=by omega
   obtain⟨y,hy⟩:=bM hlt
   obtain⟨r,hr,hcase⟩:=of_ok h (hc y (bP hy)).1 (hc y (bP hy)).2 hn (tr:=tr) (hd:=hd) (W:=W) (fl:=fl)
   by_cases hneg: -y∈trail
   ·have er:r= -1:=by
     rcases hcase with⟨_,e⟩|⟨e,_⟩|⟨_,_,_,e⟩
     ·exact(h.opp e hneg).elim
     ·exact e
     exact absurd hneg e
    subst er
    obtain⟨b,hb,h3⟩:=ih (k+1) (by omega) (by omega) (fun j z hj2 hj hz=>by
     by_cases e:j=k
     ·subst e;rw[hy] at hz;exact Option.some.inj hz▸hneg
     exact hi j z hj2 (by omega) hz)
    refine⟨b,?_,h3⟩
    rw[iC (s':=((k+1:Nat):Int)) ?_]
    ·exact hb
    simp only[fQ,ltB hlt,if_true,bY hy,bsm,hr,iH hlt (show c.length≤9223372036854775807 by omega)]
    rfl
   have er:¬r<0:=by
    rcases hcase with⟨e,_⟩|⟨_,e⟩|⟨e,_⟩
    ·omega
    ·exact absurd e hneg
    omega
   refine⟨k,eQ ?_,h2,by omega,hi,fun z hz=>by rw[hy] at hz;exact Option.some.inj hz▸hneg⟩
   simp only[fQ,ltB hlt,if_true,bY hy,bsm,hr,er,decide_false,if_false,Bool.false_eq_true]
 have:=key (c.length-2) 2 (by omega) (Nat.le_refl _) (fun j y h1 h2=>by omega)
 simpa using this
end
theorem aD7 {c:List Int} {i j:Nat} {a b:Int} (hn:c.Nodup) (hi:c[i]?=some a) (hj:c[j]?=some b):Same c ((c.set i b).set j a):=by
 obtain⟨h1,rfl⟩:=List.getElem?_eq_some_iff.1 hi
 obtain⟨h2,rfl⟩:=List.getElem?_eq_some_iff.1 hj
 have hp:=List.set_set_perm h1 h2
 exact⟨by simp,hp.nodup_iff.2 hn,fun y=>hp.mem_iff⟩
theorem qQ {κ:Type} [DecidableEq κ] (a:κ):vK a a=some ():=by unfold vK;rw[if_pos rfl]
theorem guardNe_nat {a b:Nat} (h:a≠b):aD0 (a:Int) (b:Int)=some ():=by unfold aD0;rw[if_neg (by simpa using h)]
theorem mem_le2 {c:List Int} {y:Int} (h:y∈c) {P:Int→Prop} (h0:∀z,c[0]?=some z→P z) (h1:∀z,c[1]?=some z→P z) (h2:∀j z,2≤j→c[j]?=some z→P z):P y:=by
 obtain⟨j,hj⟩:=List.getElem?_of_mem h
 match j,hj with
 |0,hj=>exact h0 _ hj
 |1,hj=>exact h1 _ hj
 |j+2,hj=>exact h2 _ _ (by omega) hj
section
variable {n:Int} {F:List (List Int)} {S:List Int} {np nc:Nat} {D:Nat→Int→Prop} {val trail:List Int} {ws:List (List Nat)} {cl:List (List Int)}
theorem Eng.clLen (h:Eng n F S np nc D val trail ws cl) (hn:0≤n∧n≤65536) {id:Nat} {c:List Int} (hc:cl[id]?=some c):c.length≤131074:=by
 obtain⟨_,h2,h3⟩:=h.ok id c hc
 have h1:=yD 131074 (c.map ixL) (by
  unfold List.Nodup
  rw[List.pairwise_map]
  exact List.Pairwise.imp (fun{a b} hne he=>hne (uP he)) h2) (fun x hx=>by
  obtain⟨y,hy,rfl⟩:=List.mem_map.1 hx
  have:=ixL_bnd (h3 y hy).2
  omega)
 rwa [List.length_map] at h1
end
structure Amid (n:Int) (F:List (List Int)) (S:List Int) (np nc:Nat) (l:Int) (list:List Nat) (h cN:Nat) (tr0:List Int) (k:Nat) (kept:List Nat) (W:List (List Nat)×List (List Int)) (val trail:List Int):Prop where
 eng:Eng n F S np nc (fun id w=> -w∈trail.take h∨(w=l∧id∉list.drop k)) val trail (W.1.set (ixL l) (kept++list.drop k)) W.2
 row:W.1[ixL l]?=some list
 ext:∃e,trail=tr0++e
 at_:trail[h]?=some (-l)
 kl:kept.length≤k
 cn:W.2.length=cN
 ll:list.length≤cN
section
variable {n:Int} {F:List (List Int)} {S:List Int} {np nc:Nat}
theorem pair01 {c d:List Int} {a b:Int} (h0:c[0]?=some a) (h1:c[1]?=some b) (d0:d[0]?=some b) (d1:d[1]?=some a) (w o:Int):Pair d w o↔Pair c w o:=by
 unfold Pair
 rw[h0,h1,d0,d1]
 exact⟨fun h=>h.elim (fun⟨x,y⟩=>Or.inr ⟨x,y⟩) (fun⟨x,y⟩=>Or.inl ⟨x,y⟩),fun h=>h.elim (fun⟨x,y⟩=>Or.inr ⟨x,y⟩) (fun⟨x,y⟩=>Or.inl ⟨x,y⟩)⟩
set_option maxHeartbeats 1000000 in
theorem amid_round {l:Int} {list:List Nat} {h cN:Nat} {tr0:List Int} {k:Nat} {kept:List Nat} {W:List (List Nat)×List (List Int)} {val trail:List Int} {hd:Int} {fl:Bool} (hn:0≤n∧n≤65536) (hcN:cN≤1000000000)
  (hA:Amid n F S np nc l list h cN tr0 k kept W val trail) (hk:k<list.length):
  (∃kept' W' val' trail',fD l (ixL l:Int) list (k:Int) kept W hd fl val trail=some (.next (((k+1:Nat):Int),kept',W',hd,fl,val',trail'))∧Amid n F S np nc l list h cN tr0 (k+1) kept' W' val' trail')∨
  (∃W',fD l (ixL l:Int) list (k:Int) kept W hd fl val trail=some (.done (.ret (false,PEng.mk val trail hd W' fl)))∧Fails F S∧(∃D,Eng n F S np nc D val trail W'.1 W'.2)∧W'.2.length=cN):=by
 have hE:=hA.eng
 obtain⟨id,hid⟩:=bM hk
 have hdrop:=wI hid
 have hlm: -l∈trail:=bP hA.at_
 have hl0:=hE.lit hlm
 have hl:l≠0∧vr l≤n:=⟨by omega,by rw[←lZ];exact hl0.2⟩
 have hlb:=nM.1 hl.2
 have hvr:(W.1.set (ixL l) (kept++list.drop k))[ixL l]?=some (kept++list.drop k):=dO hA.row
 have hrl:=hE.rowLen hvr
 have hlist:list.length-k≤cN:=by rw[List.length_append,List.length_drop,hA.cn] at hrl;omega
 have hkept:kept.length≤cN:=by rw[List.length_append,hA.cn] at hrl;omega
 obtain⟨c,w,o,hc,hp,hw⟩:=((hE.row _ _ hvr).2 id).1 (by rw[hdrop];simp)
 have hwl:=uP hw
 rw[hwl] at hp
 obtain⟨hc2,hcn,hcl⟩:=hE.ok id c hc
 have hc4:=hE.clLen hn hc
 have hlo:=hp.ne hcn
 have ho:=hcl o hp.mem.2
 have hcn':=hA.cn
 obtain⟨a,ha,j1,hjm,hs,hpj,hj0,hj1l⟩:∃a,c[0]?=some a∧∃j1,(if(decide (a=l))=true then
   (idx c 1).bind fun x9=>
   (some a).bind fun x10=>
   (some a).bind fun x11=>
   (idx (c.set (0:Int).toNat x9) 1).bind fun x12=>
   some ((c.set (0:Int).toNat x9).set (1:Int).toNat x10)
  else some c)=some j1∧Same c j1∧(∀w o,Pair j1 w o↔Pair c w o)∧j1[0]?=some o∧j1[1]?=some l:=by
  rcases hp with⟨e0,e1⟩|⟨e1,e0⟩
  ·refine⟨l,e0,(c.set 0 o).set 1 l,?_,aD7 hcn e0 e1,?_,?_,?_⟩
   ·rw[if_pos (by simp),show idx c 1=some o from kQ (by decide) e1,bsm,bsm,bsm,
     show idx (c.set (0:Int).toNat o) 1=some o from kQ (by decide) (by rw[dA (by decide)];exact e1),bsm]
    rfl
   ·exact pair01 e0 e1 (by rw[dA (by decide)];exact dO e0) (dO (by rw[dA (by decide)];exact e1))
   ·rw[dA (by decide)];exact dO e0
   exact dO (by rw[dA (by decide)];exact e1)
  refine⟨o,e0,c,?_,⟨rfl,hcn,fun _=>Iff.rfl⟩,fun _ _=>Iff.rfl,e0,e1⟩
  rw[if_neg (by simpa using fun e:o=l=>hlo e.symm)]
 have hjlen:=hs.len
 have hjcl:∀y∈j1,y≠0∧vr y≤n:=fun y hy=>hcl y ((hs.mem y).1 hy)
 have hpl:Pair j1 l o:=Or.inr ⟨hj1l,hj0⟩
 obtain⟨b,hb,hb2,hble,hball,hbno⟩:=seek_ok hE hn.2 hjcl (by omega) (by omega) (tr:=trail) (hd:=hd) (W:=W) (fl:=fl)
 obtain⟨r,hr,hcase⟩:=of_ok hE ho.1 ho.2 hn.2 (tr:=trail) (hd:=hd) (W:=W) (fl:=fl)
 have hT:=hE.turn hc hs hpj
 have hset:(W.2.set id j1)[id]?=some j1:=dO hc
 have hins:id∉list.drop (k+1):=by
  have h1:=(hE.row _ _ hvr).1
  rw[hdrop] at h1
  have h2:=(List.nodup_append.1 h1).2.1
  exact(List.nodup_cons.1 h2).1
 have weak:∀(tr:List Int) (id':Nat) (w':Int),(-w'∈tr.take h∨(w'=l∧id'∉list.drop (k+1)))→(-w'∈tr.take h∨(w'=l∧id'∉list.drop k))∨(id'=id∧w'=l):=fun tr id' w' hd=>by
  rcases hd with hd|⟨e,hd⟩
  ·exact Or.inl (Or.inl hd)
  by_cases e':id'=id
  ·exact Or.inr ⟨e',e⟩
  exact Or.inl (Or.inr ⟨e,by rw[hdrop];simp[e',hd]⟩)
 have hap:app kept [id]=some (kept++[id]):=qA (by simp;omega)
 have hup:=iH hk (show list.length≤9223372036854775807 by have:=hA.ll;omega)
 have hsnoc:W.1.set (ixL l) (kept++list.drop k)=W.1.set (ixL l) ((kept++[id])++list.drop (k+1)):=by rw[hdrop,List.append_assoc,List.singleton_append]
 unfold fD
 rw[if_pos (ltB hk),bY hid,bsm,hc,bsm,show idx c 0=some a from kQ (by decide) ha,bsm,hjm,bsm,hb,bsm,show idx j1 0=some o from kQ (by decide) hj0,bsm,hr,bsm]
 by_cases hom:o∈trail
 ·
  have er:r=1:=by
   rcases hcase with⟨e,_⟩|⟨_,e⟩|⟨_,_,e,_⟩
   ·exact e
   ·exact(hE.opp hom e).elim
   exact absurd hom e
  rw[if_pos (by rw[er];decide),hap,bsm,hup,bsm]
  refine Or.inl ⟨kept++[id],(W.1,W.2.set id j1),val,trail,rfl,?_,hA.row,hA.ext,hA.at_,by simp;exact hA.kl,by simp[hcn'],hA.ll⟩
  have h1:=(hT.done hset hpl hom).less (weak trail)
  rwa [hsnoc] at h1
 have er:¬(0<r):=by
  rcases hcase with⟨_,e⟩|⟨e,_⟩|⟨e,_⟩
  ·exact absurd e hom
  ·omega
  omega
 rw[if_neg (by simpa using er)]
 by_cases hbl:b<j1.length
 ·
  obtain⟨y,hy⟩:=bM hbl
  have hyn:=hbno y hy
  have hyl:=hjcl y (bP hy)
  have hyb:=nM.1 hyl.2
  have hb1:b≠1:=by omega
  have hb0:b≠0:=by omega
  have hyne:y≠l:=fun e=>hyn (e▸hlm)
  have hyo:y≠o:=fun e=>by have:=pI hs.nd hy (e▸hj0);omega
  have hix:ixL y≠ixL l:=fun e=>hyne (uP e)
  obtain⟨R,hR⟩:=hE.rowAt hyl.2
  have hRl:=hE.rowLen hR
  have hR':W.1[ixL y]?=some R:=by rwa [dA hix] at hR
  have g1:(j1.set 1 y)[b]?=some y:=by rw[dA hb1];exact hy
  have g2:((j1.set 1 y).set b l)[1]?=some y:=by rw[dA (Ne.symm hb1)];exact dO hj1l
  have g3:((j1.set 1 y).set b l)[0]?=some o:=by rw[dA (Ne.symm hb0),dA (by decide)];exact hj0
  have e1:idx j1 1=some l:=kQ (by decide) hj1l
  have e2:idx (j1.set (1:Int).toNat y) (b:Int)=some y:=bY g1
  have e3:idx ((j1.set (1:Int).toNat y).set (b:Int).toNat l) 1=some y:=kQ (by decide) g2
  have e4:=aL3 (l:=y) (by omega)
  rw[if_pos (by simpa using hbl),bY hy,bsm,e1,bsm,bsm,e2,bsm,e3,bsm,e4,bsm,bsm,e4,bsm,bY hR',bsm,guardNe_nat hix,bsm,qA (by simp;omega),bsm,qQ,bsm,hup,bsm]
  refine Or.inl ⟨kept,(W.1.set (ixL y) (R++[id]),W.2.set id ((j1.set 1 y).set b l)),val,trail,rfl,?_,by rw[dA (Ne.symm hix)];exact hA.row,hA.ext,hA.at_,by have:=hA.kl;omega,by simp[hcn'],hA.ll⟩
  have hs2:Same j1 ((j1.set 1 y).set b l):=aD7 hs.nd hj1l hy
  have hp2:Pair ((j1.set 1 y).set b l) y o:=Or.inr ⟨g2,g3⟩
  have hD:∀(i:Nat) (w':Int),(-w'∈trail.take h∨(w'=l∧i∉list.drop k))→ -w'∈trail:=fun i w' hd=>by
   rcases hd with hd|⟨e,_⟩
   ·exact List.mem_of_mem_take hd
   rw[e];exact hlm
  have h1:=hT.move hset hs2 hpl hp2 hyne hyo hlm hyn hom hD (V1:=kept) (V2:=list.drop (k+1)) (by rw[←hdrop];exact hvr) hR
  rw[List.set_comm _ _ (Ne.symm hix),List.set_set,List.set_set] at h1
  refine(h1.void (id:=id) (l:=l) (dO hc) fun p hq=>?_).less (weak trail)
  rcases hp2.other hq with⟨e,_⟩|⟨e,_⟩
  ·exact hyne e.symm
  exact hlo e
 have hbe:b=j1.length:=by omega
 have hrest:∀y∈j1,y≠o→ -y∈trail:=fun y hy=>mem_le2 hy (P:=fun y=>y≠o→ -y∈trail)
  (fun z hz hne=>by rw[hj0] at hz;exact absurd (Option.some.inj hz).symm hne) (fun z hz _=>by rw[hj1l] at hz;exact Option.some.inj hz▸hlm)
  (fun j z hj hz _=>hball j z hj (by have:=dB hz;omega) hz)
 rw[if_neg (by simpa using hbl),bsm,hr,bsm]
 by_cases hon: -o∈trail
 ·have er:r= -1:=by
   rcases hcase with⟨_,e⟩|⟨e,_⟩|⟨_,_,_,e⟩
   ·exact absurd e hom
   ·exact e
   exact absurd hon e
  have e1:=aL3 (l:=l) (by omega)
  have e2:sub list (k:Int) (list.length:Int)=some (list.drop k):=by
   rw[yM (by omega) (by omega) (by omega)]
   simp
  rw[if_pos (by rw[er];decide),e1,bsm,e2,bsm,qA (by rw[List.length_drop];omega),bsm,bY hA.row,bsm,qQ,bsm]
  refine Or.inr ⟨(W.1.set (ixL l) (kept++list.drop k),W.2.set id j1),rfl,hE.fail hc fun y hy=>?_,⟨_,hT⟩,by simp[hcn']⟩
  by_cases e:y=o
  ·rw[e];exact hon
  exact hrest y ((hs.mem y).2 hy) e
 obtain⟨er,hz⟩:r=0∧gv val o=some 0:=by
  rcases hcase with⟨_,e⟩|⟨_,e⟩|⟨e,e',_⟩
  ·exact absurd e hom
  ·exact absurd e hon
  exact⟨e,e'⟩
 have hu:UP F S o:=hE.unit hc hp.mem.2 fun y hy hne=>hrest y ((hs.mem y).2 hy) hne
 rw[if_neg (by rw[er];decide),hap,bsm,bsm,hold_ok hE ho.2 hn.2 hn.1,bsm,hup,bsm]
 have hlt:=dB hA.at_
 have htk:(trail++[o]).take h=trail.take h:=List.take_append_of_le_length (by omega)
 refine Or.inl ⟨kept++[id],(W.1,W.2.set id j1),val.set (vr o).toNat o,trail++[o],rfl,?_,hA.row,?_,by rw[List.getElem?_append_left hlt];exact hA.at_,by simp;exact hA.kl,by simp[hcn'],hA.ll⟩
 ·have h1:=hT.hold ho.1 ho.2 hz hu
  have h2:=(h1.done hset hpl (List.mem_append_right _ (List.mem_singleton.2 rfl))).less (weak trail)
  rw[←htk] at h2
  rwa [hsnoc] at h2
 obtain⟨e,he⟩:=hA.ext
 exact⟨e++[o],by rw[he,List.append_assoc]⟩
theorem amid_loop {l:Int} {list:List Nat} {h cN:Nat} {tr0:List Int} {W:List (List Nat)×List (List Int)} {val trail:List Int} {hd:Int} {fl:Bool} (hn:0≤n∧n≤65536) (hcN:cN≤1000000000)
  (hA:Amid n F S np nc l list h cN tr0 0 [] W val trail):
  ∃b,dE (fun s:Int×List Nat×(List (List Nat)×List (List Int))×Int×Bool×List Int×List Int=>fD l (ixL l:Int) list s.1 s.2.1 s.2.2.1 s.2.2.2.1 s.2.2.2.2.1 s.2.2.2.2.2.1 s.2.2.2.2.2.2) (0,[],W,hd,fl,val,trail)=some b∧
   (match b with
    | .brk s=>∃kept W val trail,s=(kept,W,hd,fl,val,trail)∧Amid n F S np nc l list h cN tr0 list.length kept W val trail
    | .ret r=>∃val trail W',r=(false,PEng.mk val trail hd W' fl)∧Fails F S∧(∃D,Eng n F S np nc D val trail W'.1 W'.2)∧W'.2.length=cN∧∃e,trail=tr0++e):=by
 refine uA (body:=fun s:Int×List Nat×(List (List Nat)×List (List Int))×Int×Bool×List Int×List Int=>fD l (ixL l:Int) list s.1 s.2.1 s.2.2.1 s.2.2.2.1 s.2.2.2.2.1 s.2.2.2.2.2.1 s.2.2.2.2.2.2) list.length
  (fun k (t:List Nat×(List (List Nat)×List (List Int))×List Int×List Int)=>((k:Int),t.1,t.2.1,hd,fl,t.2.2.1,t.2.2.2)) (fun k t=>Amid n F S np nc l list h cN tr0 k t.1 t.2.1 t.2.2.1 t.2.2.2) _ (t0:=([],W,val,trail)) rfl hA ?_ ?_
 ·rintro k ⟨kept,W,val,trail⟩ hk hA
  rcases amid_round hn hcN hA hk (hd:=hd) (fl:=fl) with⟨kept',W',val',trail',h1,h2⟩|⟨W',h1,h2,h3,h4⟩
  ·exact Or.inl ⟨(kept',W',val',trail'),h1,h2⟩
  exact Or.inr ⟨_,h1,val,trail,W',rfl,h2,h3,h4,hA.ext⟩
 rintro⟨kept,W,val,trail⟩ hA
 refine⟨.brk (kept,W,hd,fl,val,trail),?_,kept,W,val,trail,rfl,hA⟩
 simp only[fD,qZ,if_false,Bool.false_eq_true]
theorem aL6 {val trail:List Int} {W:List (List Nat)×List (List Int)} {h:Nat} {fl:Bool} (hn:0≤n∧n≤65536) (hcN:W.2.length≤1000000000)
  (hE:Eng n F S np nc (fun _ w=> -w∈trail.take h) val trail W.1 W.2) (hh:h≤trail.length):
  ∃ok val' ext W' h',iP (PEng.mk val trail (h:Int) W fl)=some (ok,PEng.mk val' (trail++ext) h' W' fl)∧W'.2.length=W.2.length∧
   ((ok=true∧h'=((trail++ext).length:Int)∧Eng n F S np nc (fun _ w=> -w∈trail++ext) val' (trail++ext) W'.1 W'.2)∨(ok=false∧Fails F S∧∃D,Eng n F S np nc D val' (trail++ext) W'.1 W'.2)):=by
 refine Exists.elim (xA (body:=fun s:Int×Bool×List Int×List Int×(List (List Nat)×List (List Int))=>lY s.1 s.2.1 s.2.2.1 s.2.2.2.1 s.2.2.2.2)
  (fun t=>∃h':Nat,t.1=h'∧t.2.1=fl∧h'≤t.2.2.2.1.length∧(∃e,t.2.2.2.1=trail++e)∧t.2.2.2.2.2.length=W.2.length∧Eng n F S np nc (fun _ w=> -w∈t.2.2.2.1.take h') t.2.2.1 t.2.2.2.1 t.2.2.2.2.1 t.2.2.2.2.2)
  (fun t=>(n+1-t.1).toNat)
  (fun b=>match b with
   | .brk s=>∃val' tr' W',s=((tr'.length:Int),fl,val',tr',W')∧(∃e,tr'=trail++e)∧W'.2.length=W.2.length∧Eng n F S np nc (fun _ w=> -w∈tr') val' tr' W'.1 W'.2
   | .ret r=>∃val' tr' W' hd,r=(false,PEng.mk val' tr' hd W' fl)∧(∃e,tr'=trail++e)∧W'.2.length=W.2.length∧Fails F S∧∃D,Eng n F S np nc D val' tr' W'.1 W'.2) ?_ ((h:Int),fl,val,trail,W) ⟨h,rfl,rfl,hh,⟨[],by simp⟩,rfl,hE⟩) ?_
 ·rintro⟨hd,fl',val,tr,W1⟩ ⟨h',rfl,rfl,hle,⟨e,he⟩,hcl,hE⟩
  simp only at hle he hcl hE⊢
  have htl:=hE.trailLen hn.1
  unfold lY
  by_cases hlt:h'<tr.length
  ·obtain⟨x,hx⟩:=bM hlt
   have hx0:=hE.lit (bP hx)
   have hxb:=nM.1 hx0.2
   have hlv:vr (-x)≤n:=by rw[lZ];exact hx0.2
   obtain⟨list,hlist⟩:=hE.rowAt hlv
   have i1:inK .i64 (0-x)=some (-x):=oZ (by omega) ⟨by omega,by omega⟩
   have i2:inK .i64 ((h':Int)+1)=some ((h'+1:Nat):Int):=oZ rfl ⟨by omega,by omega⟩
   have hA:Amid n F S np nc (-x) list h' W.2.length trail 0 [] W1 val tr:=by
    refine⟨?_,hlist,⟨e,he⟩,by rw[Int.neg_neg];exact hx,Nat.le_refl _,hcl,by have:=hE.rowLen hlist;omega⟩
    have hsame:W1.1.set (ixL (-x)) ([]++list.drop 0)=W1.1:=by
     rw[List.nil_append,List.drop_zero];exact set_self hlist
    rw[hsame]
    have hn2:=(hE.row _ _ hlist).2
    refine{hE with pr:=fun id c w o hc hp hd=>?_}
    rcases hd with hd|⟨rfl,hd⟩
    ·exact hE.pr id c w o hc hp hd
    exact absurd ((hn2 id).2 ⟨c,_,o,hc,hp,rfl⟩) hd
   obtain⟨b,hb,hpost⟩:=amid_loop hn hcN hA (hd:=((h'+1:Nat):Int)) (fl:=fl')
   rw[if_pos (by simpa using hlt),bY hx,bsm,i1,bsm,i2,bsm,aL3 (by omega),bsm,bY hlist,bsm,hb,bsm]
   cases b with
   |brk s=>
    obtain⟨kept,W2,val2,tr2,rfl,hA2⟩:=hpost
    simp only
    rw[bsm,bY hA2.row,bsm,qQ,bsm]
    have hlt2:=dB hA2.at_
    refine Or.inl ⟨_,rfl,⟨h'+1,rfl,rfl,by show h'+1≤tr2.length;omega,hA2.ext,hA2.cn,?_⟩,?_⟩
    ·have h3:=hA2.eng
     rw[List.drop_length,List.append_nil] at h3
     refine h3.less fun id w hd=>?_
     have h4:tr2.take (h'+1)=tr2.take h'++[x]:=dN (by have:=hA2.at_;rwa [Int.neg_neg] at this)
     have hd: -w∈tr2.take (h'+1):=hd
     rw[h4,List.mem_append,List.mem_singleton] at hd
     rcases hd with hd|hd
     ·exact Or.inl hd
     exact Or.inr ⟨by omega,by simp⟩
    show(n+1-((h'+1:Nat):Int)).toNat<(n+1-(h':Int)).toNat
    omega
   |ret r=>
    obtain⟨val2,tr2,W2,rfl,h1,h2,h3,h4⟩:=hpost
    exact Or.inr ⟨_,rfl,val2,tr2,W2,_,rfl,h4,h3,h1,h2⟩
  rw[if_neg (by simpa using hlt)]
  have:h'=tr.length:=by omega
  subst this
  rw[List.take_length] at hE
  exact Or.inr ⟨_,rfl,val,tr,W1,rfl,⟨e,he⟩,hcl,hE⟩
 rintro b ⟨hb,hp⟩
 unfold iP
 simp only
 rw[hb,bsm]
 cases b with
 |brk s=>
  obtain⟨val',tr',W',rfl,⟨e,rfl⟩,h1,h2⟩:=hp
  exact⟨true,val',e,W',_,rfl,h1,Or.inl ⟨rfl,rfl,h2⟩⟩
 |ret r=>
  obtain⟨val',tr',W',hd,rfl,⟨e,rfl⟩,h1,h2,h3⟩:=hp
  exact⟨false,val',e,W',hd,rfl,h1,Or.inr ⟨rfl,h2,h3⟩⟩
end
theorem xO {l:Int} (h: -1099511627776≤l∧l≤1099511627776):dQ l=some (vr l):=by
 unfold dQ;rw[iV (by omega),bsm];rfl
theorem aD6 {l:Int} (h: -1099511627776≤l∧l≤1099511627776):kH l=some (ixL l:Int):=by
 unfold kH ixL
 by_cases h0:l<0
 ·rw[if_pos (by simpa using h0),if_pos h0,iV ⟨by omega,by omega⟩,bsm,iV ⟨by omega,by omega⟩,bsm]
  congr 1;omega
 rw[if_neg (by simpa using h0),if_neg h0,iV ⟨by omega,by omega⟩,bsm]
 congr 1;omega
section
variable {n:Int} {F:List (List Int)} {S:List Int} {np nc:Nat} {D:Nat→Int→Prop} {val trail:List Int} {ws:List (List Nat)} {cl:List (List Int)}
theorem sof_ok (h:Eng n F S np nc D val trail ws cl) {l:Int} (h0:l≠0) (hl:vr l≤n) (hn:n≤65536) {s:Sol} (hs:s.value=val):
  ∃r,kK s l=some r∧((r=1∧l∈trail)∨(r= -1∧ -l∈trail)∨(r=0∧gv val l=some 0∧l∉trail∧ -l∉trail)):=by
 have hb:=nM.1 hl
 unfold kK
 have key:∀y,gv val l=some y→idx s.value (vr l)=some y:=fun y hy=>by rw[hs];exact kQ (jY l) hy
 rw[xO ⟨by omega,by omega⟩,bsm]
 rcases h.cases h0 hl with⟨h1,h2⟩|⟨h1,h2⟩|⟨h1,h2,h3⟩
 ·rw[key _ h1,bsm]
  exact⟨1,by simp[h0],Or.inl ⟨rfl,h2⟩⟩
 ·rw[key _ h1,bsm]
  have e1:¬(-l=0):=by omega
  have e2:¬(-l=l):=by omega
  exact⟨-1,by simp[e1,e2],Or.inr (Or.inl ⟨rfl,h2⟩)⟩
 rw[key _ h1,bsm]
 exact⟨0,by simp,Or.inr (Or.inr ⟨rfl,h1,h2,h3⟩)⟩
theorem sseek_ok (h:Eng n F S np nc D val trail ws cl) (hn:n≤65536) {c:List Int} (hc:∀y∈c,y≠0∧vr y≤n) (hlen:2≤c.length) (hc4:c.length≤4294967296) {p0:Sol} {W:List (List Nat)×List (List Int)} {hd li:Int} {br:Bool} {lev:List Int} {rea:List (Option Nat)} {tr:List Int}:
  ∃b:Nat,dE (fun s=>fJ p0 W hd li br val lev rea tr c s) 2=some (b:Int)∧2≤b∧b≤c.length∧(∀j y,2≤j→j<b→c[j]?=some y→ -y∈trail)∧(∀y,c[b]?=some y→ -y∉trail):=by
 have key:∀(m k:Nat),k+m=c.length→2≤k→(∀j y,2≤j→j<k→c[j]?=some y→ -y∈trail)→
   ∃b:Nat,dE (fun s=>fJ p0 W hd li br val lev rea tr c s) (k:Int)=some (b:Int)∧2≤b∧b≤c.length∧(∀j y,2≤j→j<b→c[j]?=some y→ -y∈trail)∧(∀y,c[b]?=some y→ -y∉trail):=by
  intro m
  induction m with
  |zero=>
   intro k hk h2 hi
   obtain rfl:k=c.length:=by omega
   refine⟨c.length,eQ ?_,h2,Nat.le_refl _,hi,fun y hy=>by rw[List.getElem?_eq_none (Nat.le_refl _)] at hy;cases hy⟩
   simp only[fJ,qZ,if_false,Bool.false_eq_true,bsm]
  |succ m ih=>
   intro k hk h2 hi
   have hlt:k<c.length:=by omega
   obtain⟨y,hy⟩:=bM hlt
   obtain⟨r,hr,hcase⟩:=sof_ok h (hc y (bP hy)).1 (hc y (bP hy)).2 hn (s:=Sol.mk val lev rea p0.saved W tr p0.starts hd p0.queue p0.proof li br) rfl
   by_cases hneg: -y∈trail
   ·have er:r= -1:=by
     rcases hcase with⟨_,e⟩|⟨e,_⟩|⟨_,_,_,e⟩
     ·exact(h.opp e hneg).elim
     ·exact e
     exact absurd hneg e
    subst er
    obtain⟨b,hb,h3⟩:=ih (k+1) (by omega) (by omega) (fun j z hj2 hj hz=>by
     by_cases e:j=k
     ·subst e;rw[hy] at hz;exact Option.some.inj hz▸hneg
     exact hi j z hj2 (by omega) hz)
    refine⟨b,?_,h3⟩
    rw[iC (s':=((k+1:Nat):Int)) ?_]
    ·exact hb
    simp only[fJ,ltB hlt,if_true,bY hy,bsm,hr,iH hlt (show c.length≤9223372036854775807 by omega)]
    rfl
   have er:¬r<0:=by
    rcases hcase with⟨e,_⟩|⟨_,e⟩|⟨e,_⟩
    ·omega
    ·exact absurd e hneg
    omega
   refine⟨k,eQ ?_,h2,by omega,hi,fun z hz=>by rw[hy] at hz;exact Option.some.inj hz▸hneg⟩
   simp only[fJ,ltB hlt,if_true,bY hy,bsm,hr,er,decide_false,if_false,Bool.false_eq_true]
 have:=key (c.length-2) 2 (by omega) (Nat.le_refl _) (fun j y h1 h2=>by omega)
 simpa using this
end
section
variable {n:Int} {F:List (List Int)} {st:List Int} {D:Nat→Int→Prop} {val lev:List Int} {rea:List (Option Nat)} {trail:List Int} {ws:List (List Nat)} {cl:List (List Int)}
theorem aA2 (h:Cor n F st D val lev rea trail ws cl) {l:Int} (hl:vr l≤n) (hn:n≤65536) (hn0:0≤n) (r:Option Nat) {s:Sol} (h1:s.value=val) (h2:s.level=lev) (h3:s.reason=rea) (h4:s.trail=trail):
  iO s l r=some (Sol.mk (val.set (vr l).toNat l) (lev.set (vr l).toNat (s.starts.length:Int)) (rea.set (vr l).toNat r) s.saved s.watches (trail++[l]) s.starts s.head s.queue s.proof s.literals s.broken):=by
 have hb:=nM.1 hl
 have ht:=h.eng.trailLen hn0
 have hv:=jY l
 obtain⟨y,e1⟩:=bM (show(vr l).toNat<val.length by have:=h.eng.vo.len;omega)
 obtain⟨z,e2⟩:=bM (show(vr l).toNat<lev.length by have:=h.ll;omega)
 obtain⟨u,e3⟩:=bM (show(vr l).toNat<rea.length by have:=h.rl;omega)
 unfold iO
 rw[h1,h2,h3,h4,xO ⟨by omega,by omega⟩,bsm,kQ hv e1,bsm,kQ hv e2,bsm,kQ hv e3,bsm,qA (by simp;omega),bsm]
end
structure Clash (st trail:List Int) (cl:List (List Int)) (id:Nat):Prop where
 ex:∃c,cl[id]?=some c∧(∀y∈c,-y∈trail)∧∃y∈c,∃k,trail[k]?=some (-y)∧lvl st k=st.length
structure AmidS (n:Int) (F:List (List Int)) (st:List Int) (l:Int) (list:List Nat) (h cN:Nat) (tr0:List Int) (k m:Nat) (L2:List Nat) (W:List (List Nat)×List (List Int)) (val lev:List Int) (rea:List (Option Nat)) (trail:List Int):Prop where
 eng:Cor n F st (fun id w=> -w∈trail.take h∨(w=l∧id∉list.drop k)) val lev rea trail (W.1.set (ixL l) (L2.take m++list.drop k)) W.2
 row:W.1[ixL l]?=some list
 l2:L2.length=list.length∧L2.drop k=list.drop k
 ext:∃e,trail=tr0++e
 at_:trail[h]?=some (-l)
 kl:m≤k
 cn:W.2.length=cN
 ll:list.length≤cN
theorem aF8 {m n:Nat} (h:m<n):P8 m n=some ():=by unfold P8;rw[if_pos h]
section
variable {n:Int} {F:List (List Int)} {st:List Int}
set_option maxHeartbeats 2000000 in
theorem amidS_round {p0:Sol} {l:Int} {list:List Nat} {h cN:Nat} {tr0:List Int} {k m:Nat} {L2:List Nat} {W:List (List Nat)×List (List Int)} {val lev:List Int} {rea:List (Option Nat)} {trail:List Int} {hd li:Int} {br:Bool} (hn:0≤n∧n≤65536) (hcN:cN≤1000000000) (hp0:p0.starts=st) (hb:∀b∈st,b≤(h:Int))
  (hA:AmidS n F st l list h cN tr0 k m L2 W val lev rea trail) (hk:k<list.length):
  (∃m' L2' W' val' lev' rea' trail',eU p0 l (ixL l:Int) list m (k:Int) L2 W hd li br val lev rea trail=some (.next (m',((k+1:Nat):Int),L2',W',hd,li,br,val',lev',rea',trail'))∧AmidS n F st l list h cN tr0 (k+1) m' L2' W' val' lev' rea' trail')∨
  (∃id W',eU p0 l (ixL l:Int) list m (k:Int) L2 W hd li br val lev rea trail=some (.done (.ret (some id,Sol.mk val lev rea p0.saved W' trail p0.starts hd p0.queue p0.proof li br)))∧Clash st trail W'.2 id∧(∃D,Cor n F st D val lev rea trail W'.1 W'.2)∧W'.2.length=cN):=by
 have hC:=hA.eng
 have hE:=hC.eng
 obtain⟨id,hid⟩:=bM hk
 have hdrop:=wI hid
 have hL2:L2[k]?=some id:=by
  have:=congrArg (fun x=>x[0]?) hA.l2.2
  simp only[List.getElem?_drop,Nat.add_zero] at this
  rw[this];exact hid
 have hlm: -l∈trail:=bP hA.at_
 have hl0:=hE.lit hlm
 have hl:l≠0∧vr l≤n:=⟨by omega,by rw[←lZ];exact hl0.2⟩
 have hlb:=nM.1 hl.2
 have hlvl:lvl st h=st.length:=lvl_all hb
 have hvr:(W.1.set (ixL l) (L2.take m++list.drop k))[ixL l]?=some (L2.take m++list.drop k):=dO hA.row
 have hrl:=hE.rowLen hvr
 obtain⟨c,w,o,hc,hp,hw⟩:=((hE.row _ _ hvr).2 id).1 (by rw[hdrop];simp)
 have hwl:=uP hw
 rw[hwl] at hp
 obtain⟨hc2,hcn,hcl⟩:=hE.ok id c hc
 have hc4:=hE.clLen hn hc
 have hlo:=hp.ne hcn
 have ho:=hcl o hp.mem.2
 have hcn':=hA.cn
 have hml:m<L2.length:=by have:=hA.kl;have:=hA.l2.1;omega
 obtain⟨a,ha,j1,hjm,hs,hpj,hj0,hj1l⟩:∃a,c[0]?=some a∧∃j1,(if(decide (a=l))=true then
   (idx c 1).bind fun x9=>
   (some a).bind fun x10=>
   (some a).bind fun x11=>
   (idx (c.set (0:Int).toNat x9) 1).bind fun x12=>
   some ((c.set (0:Int).toNat x9).set (1:Int).toNat x10)
  else some c)=some j1∧Same c j1∧(∀w o,Pair j1 w o↔Pair c w o)∧j1[0]?=some o∧j1[1]?=some l:=by
  rcases hp with⟨e0,e1⟩|⟨e1,e0⟩
  ·refine⟨l,e0,(c.set 0 o).set 1 l,?_,aD7 hcn e0 e1,?_,?_,?_⟩
   ·rw[if_pos (by simp),show idx c 1=some o from kQ (by decide) e1,bsm,bsm,bsm,
     show idx (c.set (0:Int).toNat o) 1=some o from kQ (by decide) (by rw[dA (by decide)];exact e1),bsm]
    rfl
   ·exact pair01 e0 e1 (by rw[dA (by decide)];exact dO e0) (dO (by rw[dA (by decide)];exact e1))
   ·rw[dA (by decide)];exact dO e0
   exact dO (by rw[dA (by decide)];exact e1)
  refine⟨o,e0,c,?_,⟨rfl,hcn,fun _=>Iff.rfl⟩,fun _ _=>Iff.rfl,e0,e1⟩
  rw[if_neg (by simpa using fun e:o=l=>hlo e.symm)]
 have hjlen:=hs.len
 have hjcl:∀y∈j1,y≠0∧vr y≤n:=fun y hy=>hcl y ((hs.mem y).1 hy)
 have hpl:Pair j1 l o:=Or.inr ⟨hj1l,hj0⟩
 obtain⟨b,hb1,hb2,hble,hball,hbno⟩:=sseek_ok hE hn.2 hjcl (by omega) (by omega) (p0:=p0) (W:=W) (hd:=hd) (li:=li) (br:=br) (lev:=lev) (rea:=rea) (tr:=trail)
 obtain⟨r,hr,hcase⟩:=sof_ok hE ho.1 ho.2 hn.2 (s:=Sol.mk val lev rea p0.saved W trail p0.starts hd p0.queue p0.proof li br) rfl
 have hT:=hC.turn hc hs hpj
 have hset:(W.2.set id j1)[id]?=some j1:=dO hc
 have hins:id∉list.drop (k+1):=by
  have h1:=(hE.row _ _ hvr).1
  rw[hdrop] at h1
  have h2:=(List.nodup_append.1 h1).2.1
  exact(List.nodup_cons.1 h2).1
 have weak:∀(tr:List Int) (id':Nat) (w':Int),(-w'∈tr.take h∨(w'=l∧id'∉list.drop (k+1)))→(-w'∈tr.take h∨(w'=l∧id'∉list.drop k))∨(id'=id∧w'=l):=fun tr id' w' hd=>by
  rcases hd with hd|⟨e,hd⟩
  ·exact Or.inl (Or.inl hd)
  by_cases e':id'=id
  ·exact Or.inr ⟨e',e⟩
  exact Or.inl (Or.inr ⟨e,by rw[hdrop];simp[e',hd]⟩)
 have hup:=iH hk (show list.length≤9223372036854775807 by have:=hA.ll;omega)
 have htake:(L2.set m id).take (m+1)=L2.take m++[id]:=by
  rw[dN (a:=id) (dO (List.getElem?_eq_getElem hml)),List.take_set_of_le (Nat.le_refl _)]
 have hdrop2:(L2.set m id).drop (k+1)=list.drop (k+1):=by
  rw[List.drop_set_of_lt (by have:=hA.kl;omega)]
  have:=congrArg (List.drop 1) hA.l2.2
  rwa [List.drop_drop,List.drop_drop] at this
 have hdrop3:L2.drop (k+1)=list.drop (k+1):=by
  have:=congrArg (List.drop 1) hA.l2.2
  rwa [List.drop_drop,List.drop_drop] at this
 have hsnoc:W.1.set (ixL l) (L2.take m++list.drop k)=W.1.set (ixL l) ((L2.set m id).take (m+1)++list.drop (k+1)):=by rw[hdrop,htake,List.append_assoc,List.singleton_append]
 have hll:(L2.set m id).length=list.length:=by rw[List.length_set];exact hA.l2.1
 unfold eU
 rw[if_pos (ltB hk),bY hL2,bsm,hc,bsm,show idx c 0=some a from kQ (by decide) ha,bsm,hjm,bsm,show idx j1 0=some o from kQ (by decide) hj0,bsm,hr,bsm]
 by_cases hom:o∈trail
 ·
  have er:r=1:=by
   rcases hcase with⟨e,_⟩|⟨_,e⟩|⟨_,_,e,_⟩
   ·exact e
   ·exact(hE.opp hom e).elim
   exact absurd hom e
  rw[if_pos (by rw[er];decide),aF8 hml,bsm,bsm]
  simp only
  rw[hup,bsm]
  refine Or.inl ⟨m+1,L2.set m id,(W.1,W.2.set id j1),val,lev,rea,trail,rfl,?_,hA.row,⟨hll,hdrop2⟩,hA.ext,hA.at_,by have:=hA.kl;omega,by simp[hcn'],hA.ll⟩
  have h1:=(hT.done hset hpl hom).less (weak trail)
  rwa [hsnoc] at h1
 have er:¬(0<r):=by
  rcases hcase with⟨_,e⟩|⟨e,_⟩|⟨e,_⟩
  ·exact absurd e hom
  ·omega
  omega
 rw[if_neg (by simpa using er),hb1,bsm]
 by_cases hbl:b<j1.length
 ·
  obtain⟨y,hy⟩:=bM hbl
  have hyn:=hbno y hy
  have hyl:=hjcl y (bP hy)
  have hyb:=nM.1 hyl.2
  have hb1:b≠1:=by omega
  have hb0:b≠0:=by omega
  have hyne:y≠l:=fun e=>hyn (e▸hlm)
  have hyo:y≠o:=fun e=>by have:=pI hs.nd hy (e▸hj0);omega
  have hix:ixL y≠ixL l:=fun e=>hyne (uP e)
  obtain⟨R,hR⟩:=hE.rowAt hyl.2
  have hRl:=hE.rowLen hR
  have hR':W.1[ixL y]?=some R:=by rwa [dA hix] at hR
  have g1:(j1.set 1 y)[b]?=some y:=by rw[dA hb1];exact hy
  have g2:((j1.set 1 y).set b l)[1]?=some y:=by rw[dA (Ne.symm hb1)];exact dO hj1l
  have g3:((j1.set 1 y).set b l)[0]?=some o:=by rw[dA (Ne.symm hb0),dA (by decide)];exact hj0
  have e1:idx j1 1=some l:=kQ (by decide) hj1l
  have e2:idx (j1.set (1:Int).toNat y) (b:Int)=some y:=bY g1
  have e3:idx ((j1.set (1:Int).toNat y).set (b:Int).toNat l) 1=some y:=kQ (by decide) g2
  have e4:=aD6 (l:=y) (by omega)
  rw[if_pos (by simpa using hbl),bY hy,bsm,e1,bsm,bsm,e2,bsm,e3,bsm,e4,bsm,bsm,e4,bsm,bY hR',bsm,guardNe_nat hix,bsm,qA (by simp;omega),bsm,qQ,bsm,bsm]
  simp only
  rw[hup,bsm]
  refine Or.inl ⟨m,L2,(W.1.set (ixL y) (R++[id]),W.2.set id ((j1.set 1 y).set b l)),val,lev,rea,trail,rfl,?_,by rw[dA (Ne.symm hix)];exact hA.row,⟨hA.l2.1,hdrop3⟩,hA.ext,hA.at_,by have:=hA.kl;omega,by simp[hcn'],hA.ll⟩
  have hs2:Same j1 ((j1.set 1 y).set b l):=aD7 hs.nd hj1l hy
  have hp2:Pair ((j1.set 1 y).set b l) y o:=Or.inr ⟨g2,g3⟩
  have hD:∀(i:Nat) (w':Int),(-w'∈trail.take h∨(w'=l∧i∉list.drop k))→ -w'∈trail:=fun i w' hd=>by
   rcases hd with hd|⟨e,_⟩
   ·exact List.mem_of_mem_take hd
   rw[e];exact hlm
  have h1:=hT.move hset hs2 hpl hp2 hyne hyo hlm hyn hom hD (V1:=L2.take m) (V2:=list.drop (k+1)) (by rw[←hdrop];exact hvr) hR
  rw[List.set_comm _ _ (Ne.symm hix),List.set_set,List.set_set] at h1
  refine(h1.void (id:=id) (l:=l) (dO hc) fun p hq=>?_).less (weak trail)
  rcases hp2.other hq with⟨e,_⟩|⟨e,_⟩
  ·exact hyne e.symm
  exact hlo e
 have hbe:b=j1.length:=by omega
 have hrest:∀y∈j1,y≠o→ -y∈trail:=fun y hy=>mem_le2 hy (P:=fun y=>y≠o→ -y∈trail)
  (fun z hz hne=>by rw[hj0] at hz;exact absurd (Option.some.inj hz).symm hne) (fun z hz _=>by rw[hj1l] at hz;exact Option.some.inj hz▸hlm)
  (fun j z hj hz _=>hball j z hj (by have:=dB hz;omega) hz)
 rw[if_neg (by simpa using hbl),aF8 hml,bsm,bsm,hr,bsm]
 by_cases hon: -o∈trail
 ·have er:r= -1:=by
   rcases hcase with⟨_,e⟩|⟨e,_⟩|⟨_,_,_,e⟩
   ·exact absurd e hom
   ·exact e
   exact absurd hon e
  have e1:=aD6 (l:=l) (by omega)
  have e2:sub (L2.set m id) ((k+1:Nat):Int) ((L2.set m id).length:Int)=some ((L2.set m id).drop (k+1)):=by
   rw[yM (by omega) (by rw[hll];omega) (by omega),Int.toNat_natCast,Int.toNat_natCast,List.take_length]
  have e3:kappF (L2.set m id) (m+1) ((k+1:Nat):Int).toNat=some (L2.take m++list.drop k):=by
   unfold kappF
   rw[if_pos ⟨by have:=hA.kl;omega,by rw[hll];omega,by rw[hll];omega⟩,htake,Int.toNat_natCast,hdrop2,hdrop,List.append_assoc,List.singleton_append]
  rw[if_pos (by rw[er];decide),e1,bsm,hup,bsm,e2,bsm,e3,bsm,bY hA.row,bsm,qQ,bsm,bsm]
  refine Or.inr ⟨id,(W.1.set (ixL l) (L2.take m++list.drop k),W.2.set id j1),rfl,⟨j1,hset,fun y hy=>?_,l,bP hj1l,h,hA.at_,hlvl⟩,⟨_,hT⟩,by simp[hcn']⟩
  by_cases e:y=o
  ·rw[e];exact hon
  exact hrest y hy e
 obtain⟨er,hz⟩:r=0∧gv val o=some 0:=by
  rcases hcase with⟨_,e⟩|⟨_,e⟩|⟨e,e',_⟩
  ·exact absurd e hom
  ·exact absurd e hon
  exact⟨e,e'⟩
 have hlt:=dB hA.at_
 have hw:Why F st trail (W.2.set id j1) trail.length o (some id):=⟨j1,hset,bP hj0,fun y hy hne=>by rw[List.take_length];exact hrest y hy hne,l,bP hj1l,hlo,h,hA.at_,by rw[hlvl,hC.top (Nat.le_refl _)]⟩
 rw[if_neg (by rw[er];decide),bsm,aA2 hC ho.2 hn.2 hn.1 (some id) rfl rfl rfl rfl,bsm,bsm]
 simp only
 rw[hup,bsm]
 have htk:(trail++[o]).take h=trail.take h:=List.take_append_of_le_length (by omega)
 refine Or.inl ⟨m+1,L2.set m id,(W.1,W.2.set id j1),val.set (vr o).toNat o,lev.set (vr o).toNat (p0.starts.length:Int),rea.set (vr o).toNat (some id),trail++[o],rfl,?_,hA.row,⟨hll,hdrop2⟩,?_,by rw[List.getElem?_append_left hlt];exact hA.at_,by have:=hA.kl;omega,by simp[hcn'],hA.ll⟩
 ·have h1:=hT.hold ho.1 ho.2 hz hw (fun i hi=>by rw[←Option.some.inj hi,List.length_set];exact dB hc)
  have h2:=(h1.done hset hpl (List.mem_append_right _ (List.mem_singleton.2 rfl))).less (weak trail)
  rw[←htk] at h2
  rw[hp0]
  rwa [hsnoc] at h2
 obtain⟨e,he⟩:=hA.ext
 exact⟨e++[o],by rw[he,List.append_assoc]⟩
theorem amidS_loop {p0:Sol} {l:Int} {list:List Nat} {h cN:Nat} {tr0:List Int} {W:List (List Nat)×List (List Int)} {val lev:List Int} {rea:List (Option Nat)} {trail:List Int} {hd li:Int} {br:Bool} (hn:0≤n∧n≤65536) (hcN:cN≤1000000000) (hp0:p0.starts=st) (hb:∀b∈st,b≤(h:Int))
  (hA:AmidS n F st l list h cN tr0 0 0 list W val lev rea trail):
  ∃b,dE (fun s:Nat×Int×List Nat×(List (List Nat)×List (List Int))×Int×Int×Bool×List Int×List Int×List (Option Nat)×List Int=>eU p0 l (ixL l:Int) list s.1 s.2.1 s.2.2.1 s.2.2.2.1 s.2.2.2.2.1 s.2.2.2.2.2.1 s.2.2.2.2.2.2.1 s.2.2.2.2.2.2.2.1 s.2.2.2.2.2.2.2.2.1 s.2.2.2.2.2.2.2.2.2.1 s.2.2.2.2.2.2.2.2.2.2) (0,0,list,W,hd,li,br,val,lev,rea,trail)=some b∧
   (match b with
    | .brk s=>∃m L2 W val lev rea trail,s=(m,L2,W,hd,li,br,val,lev,rea,trail)∧AmidS n F st l list h cN tr0 list.length m L2 W val lev rea trail
    | .ret r=>∃id val lev rea trail W',r=(some id,Sol.mk val lev rea p0.saved W' trail p0.starts hd p0.queue p0.proof li br)∧Clash st trail W'.2 id∧(∃D,Cor n F st D val lev rea trail W'.1 W'.2)∧W'.2.length=cN∧∃e,trail=tr0++e):=by
 refine uA (body:=fun s:Nat×Int×List Nat×(List (List Nat)×List (List Int))×Int×Int×Bool×List Int×List Int×List (Option Nat)×List Int=>eU p0 l (ixL l:Int) list s.1 s.2.1 s.2.2.1 s.2.2.2.1 s.2.2.2.2.1 s.2.2.2.2.2.1 s.2.2.2.2.2.2.1 s.2.2.2.2.2.2.2.1 s.2.2.2.2.2.2.2.2.1 s.2.2.2.2.2.2.2.2.2.1 s.2.2.2.2.2.2.2.2.2.2) list.length
  (fun k (t:Nat×List Nat×(List (List Nat)×List (List Int))×List Int×List Int×List (Option Nat)×List Int)=>(t.1,(k:Int),t.2.1,t.2.2.1,hd,li,br,t.2.2.2.1,t.2.2.2.2.1,t.2.2.2.2.2.1,t.2.2.2.2.2.2)) (fun k t=>AmidS n F st l list h cN tr0 k t.1 t.2.1 t.2.2.1 t.2.2.2.1 t.2.2.2.2.1 t.2.2.2.2.2.1 t.2.2.2.2.2.2) _ (t0:=(0,list,W,val,lev,rea,trail)) rfl hA ?_ ?_
 ·rintro k ⟨m,L2,W,val,lev,rea,trail⟩ hk hA
  rcases amidS_round hn hcN hp0 hb hA hk (hd:=hd) (li:=li) (br:=br) with⟨m',L2',W',val',lev',rea',trail',h1,h2⟩|⟨id,W',h1,h2,h3,h4⟩
  ·exact Or.inl ⟨(m',L2',W',val',lev',rea',trail'),h1,h2⟩
  exact Or.inr ⟨_,h1,id,val,lev,rea,trail,W',rfl,h2,h3,h4,hA.ext⟩
 rintro⟨m,L2,W,val,lev,rea,trail⟩ hA
 refine⟨.brk (m,L2,W,hd,li,br,val,lev,rea,trail),?_,m,L2,W,val,lev,rea,trail,rfl,hA⟩
 simp only[eU,qZ,if_false,Bool.false_eq_true]
theorem spropagate_ok {s:Sol} {h:Nat} (hn:0≤n∧n≤65536) (hcN:s.watches.2.length≤1000000000) (hst:s.starts=st) (hhd:s.head=h) (hb:∀b∈st,b≤(h:Int))
  (hE:Cor n F st (fun _ w=> -w∈s.trail.take h) s.value s.level s.reason s.trail s.watches.1 s.watches.2) (hh:h≤s.trail.length):
  ∃r val' lev' rea' ext W' h',kZ s=some (r,Sol.mk val' lev' rea' s.saved W' (s.trail++ext) s.starts h' s.queue s.proof s.literals s.broken)∧W'.2.length=s.watches.2.length∧
   ((r=none∧h'=((s.trail++ext).length:Int)∧Cor n F st (fun _ w=> -w∈s.trail++ext) val' lev' rea' (s.trail++ext) W'.1 W'.2)∨(∃id,r=some id∧Clash st (s.trail++ext) W'.2 id∧∃D,Cor n F st D val' lev' rea' (s.trail++ext) W'.1 W'.2)):=by
 obtain⟨val,lev,rea,saved,W,trail,starts,head,queue,proof,li,br⟩:=s
 simp only at hcN hst hhd hE hh⊢
 subst hst hhd
 refine Exists.elim (xA (body:=fun s:Int×Int×Bool×List Int×List Int×List (Option Nat)×(List (List Nat)×List (List Int))×List Int=>lH (Sol.mk val lev rea saved W trail starts (h:Int) queue proof li br) s.1 s.2.1 s.2.2.1 s.2.2.2.1 s.2.2.2.2.1 s.2.2.2.2.2.1 s.2.2.2.2.2.2.1 s.2.2.2.2.2.2.2)
  (fun t=>∃h':Nat,t.1=h'∧h≤h'∧t.2.1=li∧t.2.2.1=br∧h'≤t.2.2.2.2.2.2.2.length∧(∃e,t.2.2.2.2.2.2.2=trail++e)∧t.2.2.2.2.2.2.1.2.length=W.2.length∧Cor n F starts (fun _ w=> -w∈t.2.2.2.2.2.2.2.take h') t.2.2.2.1 t.2.2.2.2.1 t.2.2.2.2.2.1 t.2.2.2.2.2.2.2 t.2.2.2.2.2.2.1.1 t.2.2.2.2.2.2.1.2)
  (fun t=>(n+1-t.1).toNat)
  (fun b=>match b with
   | .brk s=>∃val' lev' rea' tr' W',s=((tr'.length:Int),li,br,val',lev',rea',W',tr')∧(∃e,tr'=trail++e)∧W'.2.length=W.2.length∧Cor n F starts (fun _ w=> -w∈tr') val' lev' rea' tr' W'.1 W'.2
   | .ret r=>∃id val' lev' rea' tr' W' hd,r=(some id,Sol.mk val' lev' rea' saved W' tr' starts hd queue proof li br)∧(∃e,tr'=trail++e)∧W'.2.length=W.2.length∧Clash starts tr' W'.2 id∧∃D,Cor n F starts D val' lev' rea' tr' W'.1 W'.2) ?_ ((h:Int),li,br,val,lev,rea,W,trail) ⟨h,rfl,Nat.le_refl _,rfl,rfl,hh,⟨[],by simp⟩,rfl,hE⟩) ?_
 ·rintro⟨hd,li',br',val1,lev1,rea1,W1,tr⟩ ⟨h',rfl,hge,rfl,rfl,hle,⟨e,he⟩,hcl,hE⟩
  simp only at hle he hcl hE⊢
  have htl:=hE.eng.trailLen hn.1
  unfold lH
  by_cases hlt:h'<tr.length
  ·obtain⟨x,hx⟩:=bM hlt
   have hx0:=hE.eng.lit (bP hx)
   have hxb:=nM.1 hx0.2
   have hlv:vr (-x)≤n:=by rw[lZ];exact hx0.2
   obtain⟨list,hlist⟩:=hE.eng.rowAt hlv
   have i1:inK .i64 (0-x)=some (-x):=oZ (by omega) ⟨by omega,by omega⟩
   have i2:inK .i64 ((h':Int)+1)=some ((h'+1:Nat):Int):=oZ rfl ⟨by omega,by omega⟩
   have hA:AmidS n F starts (-x) list h' W.2.length trail 0 0 list W1 val1 lev1 rea1 tr:=by
    refine⟨?_,hlist,⟨rfl,rfl⟩,⟨e,he⟩,by rw[Int.neg_neg];exact hx,Nat.le_refl _,hcl,by have:=hE.eng.rowLen hlist;omega⟩
    have hsame:W1.1.set (ixL (-x)) (list.take 0++list.drop 0)=W1.1:=by
     rw[List.take_zero,List.nil_append,List.drop_zero];exact set_self hlist
    rw[hsame]
    have hn2:=(hE.eng.row _ _ hlist).2
    refine hE.more fun id c w o hc hp hd=>?_
    rcases hd with hd|⟨rfl,hd⟩
    ·exact hE.eng.pr id c w o hc hp hd
    exact absurd ((hn2 id).2 ⟨c,_,o,hc,hp,rfl⟩) hd
   obtain⟨b,hb',hpost⟩:=amidS_loop (p0:=Sol.mk val lev rea saved W trail starts (h:Int) queue proof li' br') hn hcN rfl (fun b hbb=>by have:=hb b hbb;omega) hA (hd:=((h'+1:Nat):Int)) (li:=li') (br:=br')
   rw[if_pos (by simpa using hlt),bY hx,bsm,i1,bsm,i2,bsm,aD6 (by omega),bsm,bY hlist,bsm,hb',bsm]
   cases b with
   |brk s=>
    obtain⟨m2,L2,W2,val2,lev2,rea2,tr2,rfl,hA2⟩:=hpost
    simp only
    rw[bsm,bY hA2.row,bsm,aF8 (by have:=hA2.kl;have:=hA2.l2.1;omega),bsm,qQ,bsm]
    have hlt2:=dB hA2.at_
    refine Or.inl ⟨_,rfl,⟨h'+1,rfl,by omega,rfl,rfl,by show h'+1≤tr2.length;omega,hA2.ext,hA2.cn,?_⟩,?_⟩
    ·have h3:=hA2.eng
     rw[List.drop_length,List.append_nil] at h3
     refine h3.less fun id w hd=>?_
     have h4:tr2.take (h'+1)=tr2.take h'++[x]:=dN (by have:=hA2.at_;rwa [Int.neg_neg] at this)
     have hd: -w∈tr2.take (h'+1):=hd
     rw[h4,List.mem_append,List.mem_singleton] at hd
     rcases hd with hd|hd
     ·exact Or.inl hd
     exact Or.inr ⟨by omega,by simp⟩
    show(n+1-((h'+1:Nat):Int)).toNat<(n+1-(h':Int)).toNat
    omega
   |ret r=>
    obtain⟨id,val2,lev2,rea2,tr2,W2,rfl,h1,h2,h3,h4⟩:=hpost
    exact Or.inr ⟨_,rfl,id,val2,lev2,rea2,tr2,W2,_,rfl,h4,h3,h1,h2⟩
  rw[if_neg (by simpa using hlt)]
  have:h'=tr.length:=by omega
  subst this
  rw[List.take_length] at hE
  exact Or.inr ⟨_,rfl,val1,lev1,rea1,tr,W1,rfl,⟨e,he⟩,hcl,hE⟩
 rintro b ⟨hb,hp⟩
 unfold kZ
 simp only
 rw[hb,bsm]
 cases b with
 |brk s=>
  obtain⟨val',lev',rea',tr',W',rfl,⟨e,rfl⟩,h1,h2⟩:=hp
  exact⟨none,val',lev',rea',e,W',_,rfl,h1,Or.inl ⟨rfl,rfl,h2⟩⟩
 |ret r=>
  obtain⟨id,val',lev',rea',tr',W',hd,rfl,⟨e,rfl⟩,h1,h2,h3⟩:=hp
  exact⟨some id,val',lev',rea',e,W',hd,rfl,h1,Or.inr ⟨id,rfl,h2,h3⟩⟩
end
end Go.Proofs.Ytpkhmndpeipfmaa

/- Clauses of which two literals are watched: what holds of the lists whatever is looked at next. No program in sight. -/
import Derived.Test.YtpkhmndpeipfmaaKUn21
import Derived.Test.YtpkhmndpeipfmaaKUn5
set_option linter.unusedVariables false
set_option linter.unusedSimpArgs false
namespace Go.Proofs.Ytpkhmndpeipfmaa
open Go.RowKit
def ixL (l:Int):Nat:=(if l<0 then -2*l+1 else 2*l).toNat
theorem sW {l m:Int} (h:ixL l=ixL m):l=m:=by
 unfold ixL at h;split at h<;>split at h<;>omega
def Pair (c:List Int) (w o:Int):Prop:=(c[0]?=some w∧c[1]?=some o)∨(c[1]?=some w∧c[0]?=some o)
theorem Pair.comm {c:List Int} {w o:Int} (h:Pair c w o):Pair c o w:=by
 rcases h with⟨a,b⟩|⟨a,b⟩
 ·exact Or.inr ⟨b,a⟩
 exact Or.inl ⟨b,a⟩
theorem Pair.mem {c:List Int} {w o:Int} (h:Pair c w o):w∈c∧o∈c:=by
 rcases h with⟨a,b⟩|⟨a,b⟩
 ·exact⟨bQ a,bQ b⟩
 exact⟨bQ a,bQ b⟩
theorem nY {α:Type}:∀{c:List α},c.Nodup→∀{i j:Nat} {a:α},c[i]?=some a→c[j]?=some a→i=j
 | [],_,i,j,a,h,_=>by simp at h
 |x::c,hn,0,0,a,_,_=>rfl
 |x::c,hn,0,j+1,a,h1,h2=>by
  simp only[List.getElem?_cons_zero,Option.some.injEq] at h1
  rw[List.getElem?_cons_succ] at h2
  exact absurd (h1▸bQ h2) (List.nodup_cons.1 hn).1
 |x::c,hn,i+1,0,a,h1,h2=>by
  simp only[List.getElem?_cons_zero,Option.some.injEq] at h2
  rw[List.getElem?_cons_succ] at h1
  exact absurd (h2▸bQ h1) (List.nodup_cons.1 hn).1
 |x::c,hn,i+1,j+1,a,h1,h2=>by
  rw[List.getElem?_cons_succ] at h1 h2
  rw[nY (List.nodup_cons.1 hn).2 h1 h2]
theorem Pair.ne {c:List Int} {w o:Int} (hn:c.Nodup) (h:Pair c w o):w≠o:=by
 rintro rfl
 rcases h with⟨a,b⟩|⟨a,b⟩
 ·have:=nY hn a b;omega
 have:=nY hn a b;omega
theorem Pair.other {c:List Int} {l o w p:Int} (h:Pair c l o) (h':Pair c w p):(w=l∧p=o)∨(w=o∧p=l):=by
 rcases h with⟨a,b⟩|⟨a,b⟩<;>rcases h' with⟨a',b'⟩|⟨a',b'⟩
 ·exact Or.inl ⟨Option.some.inj (a'.symm.trans a),Option.some.inj (b'.symm.trans b)⟩
 ·exact Or.inr ⟨Option.some.inj (a'.symm.trans b),Option.some.inj (b'.symm.trans a)⟩
 ·exact Or.inr ⟨Option.some.inj (a'.symm.trans b),Option.some.inj (b'.symm.trans a)⟩
 exact Or.inl ⟨Option.some.inj (a'.symm.trans a),Option.some.inj (b'.symm.trans b)⟩
theorem UP.mono {F G:List (List Int)} {S T:List Int} (hF:∀c∈F,c∈G) (hS:∀x∈S,x∈T):∀{x},UP F S x→UP G T x:=by
 intro x h
 induction h with
 |start h=>exact .start (hS _ h)
 |unit hc hx _ ih=>exact .unit (hF _ hc) hx ih
structure Eng (n:Int) (F:List (List Int)) (S:List Int) (np nc:Nat) (D:Nat→Int→Prop) (val trail:List Int) (ws:List (List Nat)) (cl:List (List Int)):Prop where
 vo:ValOk n F S val
 tr:∀x,x∈trail↔x≠0∧gv val x=some x
 nd:trail.Nodup
 nn:np≤nc∧nc≤trail.length
 bs:∀x∈trail.take nc,UP F [] x
 wl:(ws.length:Int)=2*n+2
 ok:∀(id:Nat) c,cl[id]?=some c→2≤c.length∧c.Nodup∧∀y∈c,y≠0∧vr y≤n
 src:∀(id:Nat) c,cl[id]?=some c→∃o∈F,(∀y∈c,y∈o)∧∀y∈o,y∉c→ -y∈trail.take nc
 cov:∀o∈F,(∃y∈o,y∈trail.take nc)∨∃(id:Nat) (c:List Int),cl[id]?=some c∧∀y∈c,y∈o
 row:∀(r:Nat) ids,ws[r]?=some ids→ids.Nodup∧∀id,id∈ids↔∃c w o,cl[id]?=some c∧Pair c w o∧ixL w=r
 base:∀(id:Nat) c w o,cl[id]?=some c→Pair c w o→ -w∈trail.take np→o∈trail.take np
 pr:∀(id:Nat) c w o,cl[id]?=some c→Pair c w o→D id w→o∈trail
section
variable {n:Int} {F:List (List Int)} {S:List Int} {np nc:Nat} {D:Nat→Int→Prop} {val trail:List Int} {ws:List (List Nat)} {cl:List (List Int)}
theorem Eng.less (h:Eng n F S np nc D val trail ws cl) {D':Nat→Int→Prop} (hD:∀id w,D' id w→D id w):Eng n F S np nc D' val trail ws cl:=
 {h with pr:=fun id c w o h1 h2 h3=>h.pr id c w o h1 h2 (hD _ _ h3) }
theorem Eng.up (h:Eng n F S np nc D val trail ws cl) {x:Int} (hx:x∈trail):UP F S x:=h.vo.up ((h.tr x).1 hx).1 ((h.tr x).1 hx).2
theorem Eng.opp (h:Eng n F S np nc D val trail ws cl) {x:Int} (hx:x∈trail) (hn: -x∈trail):False:=by
 have h1:=(h.tr x).1 hx
 have h2:=(h.tr (-x)).1 hn
 rw[vH,h1.2] at h2
 have:=Option.some.inj h2.2
 exact h1.1 (by omega)
theorem Eng.cases (h:Eng n F S np nc D val trail ws cl) {x:Int} (h0:x≠0) (hx:vr x≤n):(gv val x=some x∧x∈trail)∨(gv val x=some (-x)∧ -x∈trail)∨(gv val x=some 0∧x∉trail∧ -x∉trail):=by
 obtain⟨y,h1,_,h2⟩:=h.vo.get hx
 rcases h2 with rfl|rfl|rfl
 ·refine Or.inr (Or.inr ⟨h1,fun hm=>?_,fun hm=>?_⟩)
  ·have:=((h.tr x).1 hm).2;rw[h1] at this;exact h0 (Option.some.inj this).symm
  have:=((h.tr (-x)).1 hm).2;rw[vH,h1] at this;have:=Option.some.inj this;omega
 ·exact Or.inl ⟨h1,(h.tr _).2 ⟨h0,h1⟩⟩
 exact Or.inr (Or.inl ⟨h1,(h.tr _).2 ⟨by omega,by rw[vH];exact h1⟩⟩)
theorem Eng.done (h:Eng n F S np nc D val trail ws cl) {id:Nat} {c:List Int} {l o:Int} (hc:cl[id]?=some c) (hp:Pair c l o) (ho:o∈trail):Eng n F S np nc (fun i w=>D i w∨(i=id∧w=l)) val trail ws cl:=by
 refine{h with pr:=fun i c' w p h1 h2 h3=>?_}
 rcases h3 with h3|⟨rfl,rfl⟩
 ·exact h.pr i c' w p h1 h2 h3
 obtain rfl:=Option.some.inj (hc.symm.trans h1)
 rcases hp.other h2 with⟨_,rfl⟩|⟨e,_⟩
 ·exact ho
 exact absurd e (hp.ne (h.ok _ _ hc).2.1)
structure Same (c c':List Int):Prop where
 len:c'.length=c.length
 nd:c'.Nodup
 mem:∀y,y∈c'↔y∈c
theorem dX {α:Type} {l:List α} {i j:Nat} {a b:α} (h:(l.set i a)[j]?=some b):(j=i∧b=a)∨(j≠i∧l[j]?=some b):=by
 rw[List.getElem?_set] at h
 split at h
 ·rename_i e
  split at h
  ·exact Or.inl ⟨e.symm,(Option.some.inj h).symm⟩
  cases h
 rename_i e
 exact Or.inr ⟨fun e'=>e e'.symm,h⟩
theorem cZ {α:Type} {l:List α} {i j:Nat} {a:α} (h:j≠i):(l.set i a)[j]?=l[j]?:=by
 rw[List.getElem?_set,if_neg (fun e=>h e.symm)]
theorem dM {α:Type} {l:List α} {i:Nat} {a b:α} (h:l[i]?=some b):(l.set i a)[i]?=some a:=by
 rw[List.getElem?_set,if_pos rfl,if_pos (List.getElem?_eq_some_iff.1 h).1]
theorem Eng.turn (h:Eng n F S np nc D val trail ws cl) {id:Nat} {c c':List Int} (hc:cl[id]?=some c) (hs:Same c c') (hp:∀w o,Pair c' w o↔Pair c w o):Eng n F S np nc D val trail ws (cl.set id c'):=by
 have back:∀(i:Nat) d,(cl.set id c')[i]?=some d→∃d0,cl[i]?=some d0∧(∀y,y∈d↔y∈d0)∧∀w o,Pair d w o↔Pair d0 w o:=fun i d hd=>by
  rcases dX hd with⟨rfl,rfl⟩|⟨_,hd⟩
  ·exact⟨c,hc,hs.mem,hp⟩
  exact⟨d,hd,fun _=>Iff.rfl,fun _ _=>Iff.rfl⟩
 have forth:∀(i:Nat) d,cl[i]?=some d→∃d',(cl.set id c')[i]?=some d'∧(∀y,y∈d'↔y∈d)∧∀w o,Pair d' w o↔Pair d w o:=fun i d hd=>by
  by_cases e:i=id
  ·subst e
   obtain rfl:=Option.some.inj (hc.symm.trans hd)
   exact⟨c',dM hc,hs.mem,hp⟩
  exact⟨d,by rw[cZ e];exact hd,fun _=>Iff.rfl,fun _ _=>Iff.rfl⟩
 refine{h with ok:=fun i d hd=>?_,src:=fun i d hd=>?_,cov:=fun o ho=>?_,row:=fun r ids hr=>?_,base:=fun i d w o hd hw hb=>?_,pr:=fun i d w o hd hw hb=>?_}
 ·rcases dX hd with⟨rfl,rfl⟩|⟨_,hd⟩
  ·have:=h.ok _ _ hc
   exact⟨by rw[hs.len];exact this.1,hs.nd,fun y hy=>this.2.2 y ((hs.mem y).1 hy)⟩
  exact h.ok _ _ hd
 ·obtain⟨d0,h1,h2,_⟩:=back i d hd
  obtain⟨o,ho,h3,h4⟩:=h.src i d0 h1
  exact⟨o,ho,fun y hy=>h3 y ((h2 y).1 hy),fun y hy hn=>h4 y hy fun hm=>hn ((h2 y).2 hm)⟩
 ·rcases h.cov o ho with h1|⟨i,d,h1,h2⟩
  ·exact Or.inl h1
  obtain⟨d',h3,h4,_⟩:=forth i d h1
  exact Or.inr ⟨i,d',h3,fun y hy=>h2 y ((h4 y).1 hy)⟩
 ·obtain⟨h1,h2⟩:=h.row r ids hr
  refine⟨h1,fun i=>(h2 i).trans ⟨?_,?_⟩⟩
  ·rintro⟨d,w,o,h3,h4,h5⟩
   obtain⟨d',h6,_,h7⟩:=forth i d h3
   exact⟨d',w,o,h6,(h7 w o).2 h4,h5⟩
  rintro⟨d,w,o,h3,h4,h5⟩
  obtain⟨d0,h6,_,h7⟩:=back i d h3
  exact⟨d0,w,o,h6,(h7 w o).1 h4,h5⟩
 ·obtain⟨d0,h1,_,h2⟩:=back i d hd
  exact h.base i d0 w o h1 ((h2 w o).1 hw) hb
 obtain⟨d0,h1,_,h2⟩:=back i d hd
 exact h.pr i d0 w o h1 ((h2 w o).1 hw) hb
theorem Eng.hold (h:Eng n F S np nc D val trail ws cl) {x:Int} (h0:x≠0) (hx:vr x≤n) (hz:gv val x=some 0) (hu:UP F S x):Eng n F S np nc D (val.set (vr x).toNat x) (trail++[x]) ws cl:=by
 have hnx:x∉trail:=fun hm=>by have:=((h.tr x).1 hm).2;rw[hz] at this;exact h0 (Option.some.inj this).symm
 have hnn: -x∉trail:=fun hm=>by have:=((h.tr (-x)).1 hm).2;rw[vH,hz] at this;have:=Option.some.inj this;omega
 have ht:∀k,k≤trail.length→(trail++[x]).take k=trail.take k:=fun k hk=>List.take_append_of_le_length hk
 have e1:=ht np (Nat.le_trans h.nn.1 h.nn.2)
 have e2:=ht nc h.nn.2
 refine{vo:=h.vo.set h0 hx hu,tr:=fun y=>?_,nd:=?_,nn:=⟨h.nn.1,by rw[List.length_append];have:=h.nn.2;omega⟩,bs:=by rw[e2];exact h.bs,wl:=h.wl,ok:=h.ok,src:=by rw[e2];exact h.src,cov:=by rw[e2];exact h.cov,row:=h.row,base:=by rw[e1];exact h.base,pr:=fun id c w o a b d=>List.mem_append_left _ (h.pr id c w o a b d) }
 ·rw[gv_set h.vo.len hx,List.mem_append,List.mem_singleton]
  by_cases e:vr y=vr x
  ·rw[if_pos e]
   rcases vr_eq.1 e with rfl|rfl
   ·exact⟨fun _=>⟨h0,rfl⟩,fun _=>Or.inr rfl⟩
   constructor
   ·rintro(hm|hm)
    ·exact absurd hm hnn
    omega
   rintro⟨_,hm⟩
   have:=Option.some.inj hm;omega
  rw[if_neg e]
  refine⟨fun hm=>(h.tr y).1 (hm.resolve_right fun e'=>e (by rw[e'])),fun hm=>Or.inl ((h.tr y).2 hm)⟩
 rw[List.nodup_append]
 exact⟨h.nd,by simp,fun a ha b hb=>by rw[List.mem_singleton] at hb;subst hb;exact fun e=>hnx (e▸ha)⟩
theorem Eng.unit (h:Eng n F S np nc D val trail ws cl) {id:Nat} {c:List Int} {x:Int} (hc:cl[id]?=some c) (hx:x∈c) (hall:∀y∈c,y≠x→ -y∈trail):UP F S x:=by
 obtain⟨o,ho,h1,h2⟩:=h.src id c hc
 refine .unit ho (h1 x hx) fun y hy hne=>h.up ?_
 by_cases hm:y∈c
 ·exact hall y hm hne
 exact List.mem_of_mem_take (h2 y hy hm)
theorem Eng.fail (h:Eng n F S np nc D val trail ws cl) {id:Nat} {c:List Int} (hc:cl[id]?=some c) (hall:∀y∈c,-y∈trail):Fails F S:=by
 obtain⟨o,ho,h1,h2⟩:=h.src id c hc
 refine Or.inr ⟨o,ho,fun y hy=>h.up ?_⟩
 by_cases hm:y∈c
 ·exact hall y hm
 exact List.mem_of_mem_take (h2 y hy hm)
theorem Eng.move (h:Eng n F S np nc D val trail ws cl) {id:Nat} {c c':List Int} {l o y:Int} {V1 V2 R:List Nat} (hc:cl[id]?=some c) (hs:Same c c') (hp:Pair c l o) (hp':Pair c' y o) (hyl:y≠l) (hyo:y≠o)
  (hl: -l∈trail) (hy: -y∉trail) (ho:o∉trail) (hD:∀i w,D i w→ -w∈trail) (hr:ws[ixL l]?=some (V1++id::V2)) (hR:ws[ixL y]?=some R):
  Eng n F S np nc D val trail ((ws.set (ixL y) (R++[id])).set (ixL l) (V1++V2)) (cl.set id c'):=by
 have hlo:=hp.ne (h.ok _ _ hc).2.1
 have hix:ixL y≠ixL l:=fun e=>hyl (sW e)
 refine{vo:=h.vo,tr:=h.tr,nd:=h.nd,nn:=h.nn,bs:=h.bs,wl:=by rw[List.length_set,List.length_set];exact h.wl,ok:=fun i d hd=>?_,src:=fun i d hd=>?_,cov:=fun q hq=>?_,row:=fun r ids hrr=>?_,base:=fun i d w p hd hw hb=>?_,pr:=fun i d w p hd hw hb=>?_}
 ·rcases dX hd with⟨rfl,rfl⟩|⟨_,hd⟩
  ·have:=h.ok _ _ hc
   exact⟨by rw[hs.len];exact this.1,hs.nd,fun y hy=>this.2.2 y ((hs.mem y).1 hy)⟩
  exact h.ok _ _ hd
 ·rcases dX hd with⟨rfl,rfl⟩|⟨_,hd⟩
  ·obtain⟨q,hq,h3,h4⟩:=h.src _ c hc
   exact⟨q,hq,fun z hz=>h3 z ((hs.mem z).1 hz),fun z hz hn=>h4 z hz fun hm=>hn ((hs.mem z).2 hm)⟩
  exact h.src _ _ hd
 ·rcases h.cov q hq with h1|⟨i,d,h1,h2⟩
  ·exact Or.inl h1
  by_cases e:i=id
  ·subst e
   obtain rfl:=Option.some.inj (hc.symm.trans h1)
   exact Or.inr ⟨i,c',dM hc,fun z hz=>h2 z ((hs.mem z).1 hz)⟩
  exact Or.inr ⟨i,d,by rw[cZ e];exact h1,h2⟩
 ·
  have oth:∀i r',i≠id→((∃c w o,(cl.set id c')[i]?=some c∧Pair c w o∧ixL w=r')↔∃c w o,cl[i]?=some c∧Pair c w o∧ixL w=r'):=fun i r' e=>by rw[cZ e]
  have own:∀r',(∃d w p,(cl.set id c')[id]?=some d∧Pair d w p∧ixL w=r')↔(r'=ixL y∨r'=ixL o):=fun r'=>by
   rw[dM hc]
   constructor
   ·rintro⟨d,w,p,h1,h2,h3⟩
    obtain rfl:=Option.some.inj h1
    rcases hp'.other h2 with⟨rfl,_⟩|⟨rfl,_⟩
    ·exact Or.inl h3.symm
    exact Or.inr h3.symm
   rintro(rfl|rfl)
   ·exact⟨c',y,o,rfl,hp',rfl⟩
   exact⟨c',o,y,rfl,hp'.comm,rfl⟩
  have was:∀r',(∃d w p,cl[id]?=some d∧Pair d w p∧ixL w=r')↔(r'=ixL l∨r'=ixL o):=fun r'=>by
   constructor
   ·rintro⟨d,w,p,h1,h2,h3⟩
    obtain rfl:=Option.some.inj (hc.symm.trans h1)
    rcases hp.other h2 with⟨rfl,_⟩|⟨rfl,_⟩
    ·exact Or.inl h3.symm
    exact Or.inr h3.symm
   rintro(rfl|rfl)
   ·exact⟨c,l,o,hc,hp,rfl⟩
   exact⟨c,o,l,hc,hp.comm,rfl⟩
  rcases dX hrr with⟨rfl,rfl⟩|⟨hne,hrr⟩
  ·obtain⟨h1,h2⟩:=h.row _ _ hr
   have hn:id∉V1++V2:=by
    intro hm
    rw[List.nodup_append] at h1
    obtain⟨a1,a2,a3⟩:=h1
    rw[List.nodup_cons] at a2
    rcases List.mem_append.1 hm with hm|hm
    ·exact a3 id hm id (List.mem_cons_self ..) rfl
    exact a2.1 hm
   refine⟨h1.sublist ((List.sublist_cons_self _ _).append_left _),fun i=>?_⟩
   by_cases e:i=id
   ·subst e
    rw[own]
    refine⟨fun hm=>absurd hm hn,fun hm=>?_⟩
    rcases hm with hm|hm
    ·exact absurd hm.symm hix
    exact absurd (sW hm) hlo
   rw[oth i _ e,←h2 i]
   simp[e]
  rcases dX hrr with⟨rfl,rfl⟩|⟨hne2,hrr⟩
  ·obtain⟨h1,h2⟩:=h.row _ _ hR
   have hn:id∉R:=fun hm=>by
    rcases(was _).1 ((h2 id).1 hm) with e|e
    ·exact hix e
    exact hyo (sW e)
   refine⟨?_,fun i=>?_⟩
   ·rw[List.nodup_append]
    exact⟨h1,by simp,fun a ha b hb=>by rw[List.mem_singleton] at hb;subst hb;exact fun e=>hn (e▸ha)⟩
   by_cases e:i=id
   ·subst e
    rw[own]
    exact⟨fun _=>Or.inl rfl,fun _=>by simp⟩
   rw[oth i _ e,←h2 i]
   simp[e]
  obtain⟨h1,h2⟩:=h.row _ _ hrr
  refine⟨h1,fun i=>?_⟩
  by_cases e:i=id
  ·subst e
   rw[own,h2 i,was]
   exact⟨fun hm=>Or.inr (hm.resolve_left hne),fun hm=>Or.inr (hm.resolve_left hne2)⟩
  rw[oth i _ e,←h2 i]
 ·rcases dX hd with⟨rfl,rfl⟩|⟨_,hd⟩
  ·rcases hp'.other hw with⟨rfl,_⟩|⟨rfl,_⟩
   ·exact absurd (List.mem_of_mem_take hb) hy
   have:=h.base _ _ _ _ hc hp.comm hb
   exact(h.opp (List.mem_of_mem_take this) hl).elim
  exact h.base _ _ _ _ hd hw hb
 rcases dX hd with⟨rfl,rfl⟩|⟨_,hd⟩
 ·rcases hp'.other hw with⟨rfl,_⟩|⟨rfl,rfl⟩
  ·exact absurd (hD _ _ hb) hy
  have:=h.pr _ _ _ _ hc hp.comm hb
  exact(h.opp this hl).elim
 exact h.pr _ _ _ _ hd hw hb
theorem Eng.closed (h:Eng n F S np nc D val trail ws cl) (hD:∀id w,-w∈trail→D id w):∀o∈F,Good val o:=by
 intro o ho
 rcases h.cov o ho with⟨y,hy,hm⟩|⟨id,c,hc,hsub⟩
 ·exact Or.inl ⟨y,hy,((h.tr y).1 (List.mem_of_mem_take hm)).2⟩
 obtain⟨h1,h2,h3⟩:=h.ok id c hc
 obtain⟨a,ha⟩:=bK (show 0<c.length by omega)
 obtain⟨b,hb⟩:=bK (show 1<c.length by omega)
 have hp:Pair c a b:=Or.inl ⟨ha,hb⟩
 have hA:=h3 a (bQ ha)
 have hB:=h3 b (bQ hb)
 have good:∀y∈c,y∈trail→Good val o:=fun y hy hm=>Or.inl ⟨y,hsub y hy,((h.tr y).1 hm).2⟩
 rcases h.cases hA.1 hA.2 with⟨_,hm⟩|⟨_,hm⟩|⟨ea,_,_⟩
 ·exact good a (bQ ha) hm
 ·exact good b (bQ hb) (h.pr id c a b hc hp (hD id a hm))
 rcases h.cases hB.1 hB.2 with⟨_,hm⟩|⟨_,hm⟩|⟨eb,_,_⟩
 ·exact good b (bQ hb) hm
 ·exact good a (bQ ha) (h.pr id c b a hc hp.comm (hD id b hm))
 exact Or.inr ⟨a,hsub a (bQ ha),b,hsub b (bQ hb),hp.ne h2,ea,eb⟩
theorem Eng.rebase (h:Eng n F [] np nc D val trail ws cl) (hD:∀id w,-w∈trail→D id w):Eng n F [] trail.length trail.length (fun _ w=> -w∈trail) val trail ws cl:=by
 have e:trail.take trail.length=trail:=List.take_length
 refine{vo:=h.vo,tr:=h.tr,nd:=h.nd,nn:=⟨Nat.le_refl _,Nat.le_refl _⟩,bs:=fun x hx=>h.up (by rw[e] at hx;exact hx),wl:=h.wl,ok:=h.ok,src:=fun id c hc=>?_,cov:=fun o ho=>?_,row:=h.row,base:=fun id c w o hc hp hb=>?_,pr:=fun id c w o hc hp hb=>h.pr id c w o hc hp (hD id w hb) }
 ·obtain⟨o,ho,h1,h2⟩:=h.src id c hc
  exact⟨o,ho,h1,fun y hy hn=>by rw[e];exact List.mem_of_mem_take (h2 y hy hn)⟩
 ·rcases h.cov o ho with⟨y,hy,hm⟩|h1
  ·exact Or.inl ⟨y,hy,by rw[e];exact List.mem_of_mem_take hm⟩
  exact Or.inr h1
 rw[e] at hb⊢
 exact h.pr id c w o hc hp (hD id w hb)
theorem Eng.reset (h:Eng n F S np np D val trail ws cl) {val':List Int} (hl:val'.length=val.length) (hv:∀(v:Nat),(∃x∈trail.drop np,(vr x).toNat=v)→val'[v]?=some 0∨val.length≤v) (hk:∀(v:Nat),(∀x∈trail.drop np,(vr x).toNat≠v)→val'[v]?=val[v]?) (T:List Int):
  Eng n F T np np (fun _ w=> -w∈trail.take np) val' (trail.take np) ws cl:=by
 have e:(trail.take np).take np=trail.take np:=by rw[List.take_take,Nat.min_self]
 have hdis:∀x,x∈trail.take np→x∉trail.drop np:=fun x h1 h2=>by
  have hn:=h.nd
  rw[←List.take_append_drop np trail,List.nodup_append] at hn
  exact hn.2.2 x h1 x h2 rfl
 have sp:∀x,x∈trail→x∈trail.take np∨x∈trail.drop np:=fun x hx=>by
  rw[←List.take_append_drop np trail] at hx;exact List.mem_append.1 hx
 have stay:∀(v:Nat) x,val'[v]?=some x→x≠0→val[v]?=some x∧∀z∈trail.drop np,(vr z).toNat≠v:=fun v x hx h0=>by
  by_cases hz:∃z∈trail.drop np,(vr z).toNat=v
  ·rcases hv v hz with e1|e1
   ·rw[e1] at hx;exact absurd (Option.some.inj hx).symm h0
   have:=dB hx;omega
  have hz':∀z∈trail.drop np,(vr z).toNat≠v:=fun z h1 h2=>hz ⟨z,h1,h2⟩
  rw[hk v hz'] at hx
  exact⟨hx,hz'⟩
 have tr':∀x,x∈trail.take np↔x≠0∧gv val' x=some x:=fun x=>by
  constructor
  ·intro hx
   have h1:=(h.tr x).1 (List.mem_of_mem_take hx)
   refine⟨h1.1,?_⟩
   have:∀z∈trail.drop np,(vr z).toNat≠(vr x).toNat:=fun z hz e1=>by
    have a:=jP z
    have b:=jP x
    rcases vr_eq.1 (show vr z=vr x by omega) with rfl|rfl
    ·exact hdis _ hx hz
    exact h.opp (List.mem_of_mem_take hx) (List.mem_of_mem_drop hz)
   unfold gv
   rw[hk _ this]
   exact h1.2
  rintro⟨h0,hx⟩
  obtain⟨h1,h2⟩:=stay _ x hx h0
  have hm:=(h.tr x).2 ⟨h0,h1⟩
  rcases sp x hm with hm|hm
  ·exact hm
  exact absurd rfl (h2 x hm)
 refine{vo:=⟨by have:=h.vo.len;omega,fun v x hx=>?_,fun v x hx h0=>?_⟩,tr:=tr',nd:=h.nd.sublist (List.take_sublist _ _),nn:=⟨Nat.le_refl _,by rw[List.length_take];have:=h.nn.2;omega⟩,bs:=by rw[e];exact h.bs,wl:=h.wl,ok:=h.ok,src:=by rw[e];exact h.src,cov:=by rw[e];exact h.cov,row:=h.row,base:=by rw[e];exact h.base,pr:=fun id c w o hc hp hb=>h.base id c w o hc hp hb}
 ·by_cases h0:x=0
  ·exact Or.inl h0
  exact h.vo.own v x (stay v x hx h0).1
 have h1:=stay v x hx h0
 have h2:gv val x=some x:=by
  rcases h.vo.own v x h1.1 with e1|⟨_,e1⟩
  ·exact absurd e1 h0
  unfold gv;rw[e1];simpa using h1.1
 have hm:=(h.tr x).2 ⟨h0,h2⟩
 rcases sp x hm with hm|hm
 ·exact(h.bs x hm).mono (fun _ h=>h) (by simp)
 have:(vr x).toNat=v:=by
  rcases h.vo.own v x h1.1 with e1|⟨_,e1⟩
  ·exact absurd e1 h0
  omega
 exact absurd this (h1.2 x hm)
end
theorem ValOk.mono {n:Int} {F G:List (List Int)} {S T val:List Int} (h:ValOk n F S val) (hF:∀c∈F,c∈G) (hS:∀x∈S,x∈T):ValOk n G T val:=
 ⟨h.len,h.own,fun v x hx h0=>(h.sound v x hx h0).mono hF hS⟩
theorem Fails.mono {F G:List (List Int)} {S T:List Int} (hF:∀c∈F,c∈G) (hS:∀x∈S,x∈T):Fails F S→Fails G T:=by
 rintro(⟨l,a,b⟩|⟨c,hc,hy⟩)
 ·exact Or.inl ⟨l,a.mono hF hS,b.mono hF hS⟩
 exact Or.inr ⟨c,hF c hc,fun y h=>(hy y h).mono hF hS⟩
section
variable {n:Int} {F:List (List Int)} {S:List Int} {np nc:Nat} {D:Nat→Int→Prop} {val trail:List Int} {ws:List (List Nat)} {cl:List (List Int)}
theorem Eng.assume (h:Eng n F [] np nc D val trail ws cl) (S:List Int):Eng n F S np nc D val trail ws cl:=
 {h with vo:=h.vo.mono (fun _ h=>h) (by simp) }
theorem Eng.addSat (h:Eng n F S np nc D val trail ws cl) {q:List Int} {y:Int} (hy:y∈q) (hm:y∈trail.take nc):Eng n (F++[q]) S np nc D val trail ws cl:=by
 have hF:∀c∈F,c∈F++[q]:=fun c hc=>List.mem_append_left _ hc
 refine{h with vo:=h.vo.mono hF (fun _ h=>h),bs:=fun x hx=>(h.bs x hx).mono hF (fun _ h=>h),src:=fun id c hc=>?_,cov:=fun o ho=>?_}
 ·obtain⟨o,ho,h1⟩:=h.src id c hc
  exact⟨o,hF o ho,h1⟩
 rcases List.mem_append.1 ho with ho|ho
 ·exact h.cov o ho
 rw[List.mem_singleton] at ho
 subst ho
 exact Or.inl ⟨y,hy,hm⟩
theorem Eng.addUnit (h:Eng n F [] trail.length trail.length D val trail ws cl) {q:List Int} {x:Int} (hx:x∈q) (h0:x≠0) (hn:vr x≤n) (hz:gv val x=some 0) (hall:∀y∈q,y≠x→ -y∈trail):
  Eng n (F++[q]) [] trail.length (trail.length+1) D (val.set (vr x).toNat x) (trail++[x]) ws cl:=by
 have hF:∀c∈F,c∈F++[q]:=fun c hc=>List.mem_append_left _ hc
 have hu:UP (F++[q]) [] x:= .unit (List.mem_append_right _ (List.mem_singleton.2 rfl)) hx fun y hy hne=>(h.up (hall y hy hne)).mono hF (fun _ h=>h)
 have hnx:x∉trail:=fun hm=>by have:=((h.tr x).1 hm).2;rw[hz] at this;exact h0 (Option.some.inj this).symm
 have hnn: -x∉trail:=fun hm=>by have:=((h.tr (-x)).1 hm).2;rw[vH,hz] at this;have:=Option.some.inj this;omega
 have e1:(trail++[x]).take trail.length=trail:=List.take_left' rfl
 have e2:(trail++[x]).take (trail.length+1)=trail++[x]:=List.take_of_length_le (by simp)
 have e3:trail.take trail.length=trail:=List.take_length
 refine{vo:=(h.vo.mono hF (fun _ h=>h)).set h0 hn hu,tr:=fun y=>?_,nd:=?_,nn:=⟨by omega,by simp⟩,bs:=fun y hy=>?_,wl:=h.wl,ok:=h.ok,src:=fun id c hc=>?_,cov:=fun o ho=>?_,row:=h.row,base:=?_,pr:=fun id c w o a b d=>List.mem_append_left _ (h.pr id c w o a b d) }
 ·rw[gv_set h.vo.len hn,List.mem_append,List.mem_singleton]
  by_cases e:vr y=vr x
  ·rw[if_pos e]
   rcases vr_eq.1 e with rfl|rfl
   ·exact⟨fun _=>⟨h0,rfl⟩,fun _=>Or.inr rfl⟩
   constructor
   ·rintro(hm|hm)
    ·exact absurd hm hnn
    omega
   rintro⟨_,hm⟩
   have:=Option.some.inj hm;omega
  rw[if_neg e]
  refine⟨fun hm=>(h.tr y).1 (hm.resolve_right fun e'=>e (by rw[e'])),fun hm=>Or.inl ((h.tr y).2 hm)⟩
 ·rw[List.nodup_append]
  exact⟨h.nd,by simp,fun a ha b hb=>by rw[List.mem_singleton] at hb;subst hb;exact fun e=>hnx (e▸ha)⟩
 ·rw[e2] at hy
  rcases List.mem_append.1 hy with hy|hy
  ·exact(h.up hy).mono hF (fun _ h=>h)
  rw[List.mem_singleton.1 hy];exact hu
 ·obtain⟨o,ho,h1,h2⟩:=h.src id c hc
  rw[e3] at h2
  exact⟨o,hF o ho,h1,fun y hy hm=>by rw[e2];exact List.mem_append_left _ (h2 y hy hm)⟩
 ·rw[e2]
  rcases List.mem_append.1 ho with ho|ho
  ·rcases h.cov o ho with⟨y,hy,hm⟩|h1
   ·rw[e3] at hm
    exact Or.inl ⟨y,hy,List.mem_append_left _ hm⟩
   exact Or.inr h1
  rw[List.mem_singleton] at ho
  subst ho
  exact Or.inl ⟨x,hx,List.mem_append_right _ (List.mem_singleton.2 rfl)⟩
 rw[e1]
 intro id c w o a b d
 have:=h.base id c w o a b
 rw[e3] at this
 exact this d
theorem Eng.addCl (h:Eng n F S np nc D val trail ws cl) {q d:List Int} {a b:Int} {Ra Rb:List Nat} (ha:d[0]?=some a) (hb:d[1]?=some b) (hnd:d.Nodup) (hlit:∀y∈d,y≠0∧vr y≤n) (hsub:∀y∈d,y∈q) (hout:∀y∈q,y∉d→ -y∈trail.take nc)
  (hfa: -a∉trail) (hfb: -b∉trail) (hD:∀i w,D i w→ -w∈trail) (hra:ws[ixL a]?=some Ra) (hrb:ws[ixL b]?=some Rb):
  Eng n (F++[q]) S np nc D val trail ((ws.set (ixL a) (Ra++[cl.length])).set (ixL b) (Rb++[cl.length])) (cl++[d]):=by
 have hF:∀c∈F,c∈F++[q]:=fun c hc=>List.mem_append_left _ hc
 have hab:a≠b:=by rintro rfl;have:=nY hnd ha hb;omega
 have hix:ixL a≠ixL b:=fun e=>hab (sW e)
 have hp:Pair d a b:=Or.inl ⟨ha,hb⟩
 have cases:∀(i:Nat) c,(cl++[d])[i]?=some c→(i=cl.length∧c=d)∨(i<cl.length∧cl[i]?=some c):=fun i c hc=>by
  rw[List.getElem?_append] at hc
  split at hc
  ·rename_i hi;exact Or.inr ⟨hi,hc⟩
  rename_i hi
  rcases Nat.lt_or_ge (i-cl.length) 1 with h1|h1
  ·have e:i=cl.length:=by omega
   subst e
   simp only[Nat.sub_self,List.getElem?_cons_zero,Option.some.injEq] at hc
   exact Or.inl ⟨rfl,hc.symm⟩
  rw[List.getElem?_eq_none (by simpa using h1)] at hc;cases hc
 have old:∀(i:Nat) c,cl[i]?=some c→(cl++[d])[i]?=some c:=fun i c hc=>by
  rw[List.getElem?_append_left (dB hc)];exact hc
 have new:(cl++[d])[cl.length]?=some d:=by rw[List.getElem?_append_right (Nat.le_refl _)];simp
 refine{vo:=h.vo.mono hF (fun _ h=>h),tr:=h.tr,nd:=h.nd,nn:=h.nn,bs:=fun x hx=>(h.bs x hx).mono hF (fun _ h=>h),wl:=by rw[List.length_set,List.length_set];exact h.wl,ok:=fun i c hc=>?_,src:=fun i c hc=>?_,cov:=fun o ho=>?_,row:=fun r ids hr=>?_,base:=fun i c w o hc hw hbb=>?_,pr:=fun i c w o hc hw hbb=>?_}
 ·rcases cases i c hc with⟨_,rfl⟩|⟨_,hc⟩
  ·exact⟨by have:=dB hb;omega,hnd,hlit⟩
  exact h.ok i c hc
 ·rcases cases i c hc with⟨_,rfl⟩|⟨_,hc⟩
  ·exact⟨q,List.mem_append_right _ (List.mem_singleton.2 rfl),hsub,hout⟩
  obtain⟨o,ho,h1⟩:=h.src i c hc
  exact⟨o,hF o ho,h1⟩
 ·rcases List.mem_append.1 ho with ho|ho
  ·rcases h.cov o ho with h1|⟨i,c,h1,h2⟩
   ·exact Or.inl h1
   exact Or.inr ⟨i,c,old i c h1,h2⟩
  rw[List.mem_singleton] at ho
  subst ho
  exact Or.inr ⟨_,d,new,hsub⟩
 ·have oth:∀i r',i≠cl.length→((∃c w o,(cl++[d])[i]?=some c∧Pair c w o∧ixL w=r')↔∃c w o,cl[i]?=some c∧Pair c w o∧ixL w=r'):=fun i r' e=>by
   constructor
   ·rintro⟨c,w,o,h1,h2⟩
    rcases cases i c h1 with⟨e',_⟩|⟨_,h1⟩
    ·exact absurd e' e
    exact⟨c,w,o,h1,h2⟩
   rintro⟨c,w,o,h1,h2⟩
   exact⟨c,w,o,old i c h1,h2⟩
  have own:∀r',(∃c w o,(cl++[d])[cl.length]?=some c∧Pair c w o∧ixL w=r')↔(r'=ixL a∨r'=ixL b):=fun r'=>by
   rw[new]
   constructor
   ·rintro⟨c,w,o,h1,h2,h3⟩
    obtain rfl:=Option.some.inj h1
    rcases hp.other h2 with⟨rfl,_⟩|⟨rfl,_⟩
    ·exact Or.inl h3.symm
    exact Or.inr h3.symm
   rintro(rfl|rfl)
   ·exact⟨d,a,b,rfl,hp,rfl⟩
   exact⟨d,b,a,rfl,hp.comm,rfl⟩
  have none_:∀r' ids',ws[r']?=some ids'→cl.length∉ids':=fun r' ids' hr' hm=>by
   obtain⟨c,w,o,h1,_⟩:=((h.row r' ids' hr').2 _).1 hm
   have:=dB h1;omega
  have snoc:∀(R:List Nat),cl.length∉R→R.Nodup→(R++[cl.length]).Nodup:=fun R h1 h2=>by
   rw[List.nodup_append]
   exact⟨h2,by simp,fun x hx y hy=>by rw[List.mem_singleton] at hy;subst hy;exact fun e=>h1 (e▸hx)⟩
  rcases dX hr with⟨rfl,rfl⟩|⟨hne,hr⟩
  ·obtain⟨h1,h2⟩:=h.row _ _ hrb
   refine⟨snoc _ (none_ _ _ hrb) h1,fun i=>?_⟩
   by_cases e:i=cl.length
   ·subst e;rw[own];exact⟨fun _=>Or.inr rfl,fun _=>by simp⟩
   rw[oth i _ e,←h2 i];simp[e]
  rcases dX hr with⟨rfl,rfl⟩|⟨hne2,hr⟩
  ·obtain⟨h1,h2⟩:=h.row _ _ hra
   refine⟨snoc _ (none_ _ _ hra) h1,fun i=>?_⟩
   by_cases e:i=cl.length
   ·subst e;rw[own];exact⟨fun _=>Or.inl rfl,fun _=>by simp⟩
   rw[oth i _ e,←h2 i];simp[e]
  obtain⟨h1,h2⟩:=h.row _ _ hr
  refine⟨h1,fun i=>?_⟩
  by_cases e:i=cl.length
  ·subst e
   rw[own]
   refine⟨fun hm=>absurd hm (none_ _ _ hr),fun hm=>?_⟩
   rcases hm with hm|hm
   ·exact absurd hm hne2
   exact absurd hm hne
  rw[oth i _ e,←h2 i]
 ·rcases cases i c hc with⟨_,rfl⟩|⟨_,hc⟩
  ·rcases hp.other hw with⟨rfl,_⟩|⟨rfl,_⟩
   ·exact absurd (List.mem_of_mem_take hbb) hfa
   exact absurd (List.mem_of_mem_take hbb) hfb
  exact h.base i c w o hc hw hbb
 rcases cases i c hc with⟨_,rfl⟩|⟨_,hc⟩
 ·rcases hp.other hw with⟨rfl,_⟩|⟨rfl,_⟩
  ·exact absurd (hD _ _ hbb) hfa
  exact absurd (hD _ _ hbb) hfb
 exact h.pr i c w o hc hw hbb
end
theorem Eng.start {n:Int} (h0:0≤n):Eng n [] [] 0 0 (fun _ w=> -w∈([]:List Int)) (List.replicate (n+1).toNat 0) [] (List.replicate (2*n+2).toNat []) []:=by
 have hz:∀(v:Nat) x,(List.replicate (n+1).toNat (0:Int))[v]?=some x→x=0:=fun v x hx=>List.eq_of_mem_replicate (List.mem_of_getElem? hx)
 refine{vo:=⟨by rw[List.length_replicate];omega,fun v x hx=>Or.inl (hz v x hx),fun v x hx hne=>absurd (hz v x hx) hne⟩,tr:=fun x=>?_,nd:=List.nodup_nil,nn:=⟨Nat.le_refl _,Nat.le_refl _⟩,bs:=by simp,wl:=by rw[List.length_replicate];omega,ok:=by simp,src:=by simp,cov:=by simp,row:=fun r ids hr=>?_,base:=by simp,pr:=by simp}
 ·refine⟨fun hm=>absurd hm (by simp),fun⟨hne,hx⟩=>absurd (hz _ x hx) hne⟩
 have:ids=[]:=List.eq_of_mem_replicate (List.mem_of_getElem? hr)
 subst this
 exact⟨List.nodup_nil,fun id=>by simp⟩
def allL (n:Int):List Int:=(List.range n.toNat).flatMap fun k:Nat=>[((k:Int)+1),-((k:Int)+1)]
theorem mem_allL {n x:Int}:x∈allL n↔x≠0∧vr x≤n:=by
 unfold allL
 rw[List.mem_flatMap]
 constructor
 ·rintro⟨k,hk,hx⟩
  rw[List.mem_range] at hk
  simp only[List.mem_cons,List.not_mem_nil,or_false] at hx
  unfold vr
  omega
 rintro⟨h0,h1⟩
 have h2:=jP x
 have h3:vr x≠0:=fun e=>h0 (qC.1 e)
 refine⟨(vr x-1).toNat,List.mem_range.2 (by omega),?_⟩
 simp only[List.mem_cons,List.not_mem_nil,or_false]
 have:=H6 x
 omega
def big (F:List (List Int)):List (List Int):=F.filter fun c=>decide (2≤c.length)
theorem mem_big {F:List (List Int)} {c:List Int}:c∈big F↔c∈F∧2≤c.length:=by unfold big;simp
theorem big_snoc (F:List (List Int)) {c:List Int} (h:2≤c.length):big (F++[c])=big F++[c]:=by unfold big;simp[h]
theorem big_snoc' (F:List (List Int)) {c:List Int} (h:¬2≤c.length):big (F++[c])=big F:=by unfold big;simp[h]
section
variable {n:Int} {F:List (List Int)} {S:List Int} {D:Nat→Int→Prop} {val trail:List Int} {ws:List (List Nat)} {cl:List (List Int)}
theorem Eng.more {np nc:Nat} (h:Eng n F S np nc D val trail ws cl) {D':Nat→Int→Prop} (hD:∀(id:Nat) c w o,cl[id]?=some c→Pair c w o→D' id w→o∈trail):Eng n F S np nc D' val trail ws cl:=
 {h with pr:=hD}
theorem Eng.addW (h:Eng n F S 0 0 D val trail ws cl) {q d:List Int} {a b:Int} {Ra Rb:List Nat} (ha:d[0]?=some a) (hb:d[1]?=some b) (hnd:d.Nodup) (hlit:∀y∈d,y≠0∧vr y≤n) (hsub:∀y,y∈d↔y∈q)
  (hra:ws[ixL a]?=some Ra) (hrb:ws[ixL b]?=some Rb):
  Eng n (F++[q]) S 0 0 (fun i w=>D i w∧i≠cl.length) val trail ((ws.set (ixL a) (Ra++[cl.length])).set (ixL b) (Rb++[cl.length])) (cl++[d]):=by
 have hF:∀c∈F,c∈F++[q]:=fun c hc=>List.mem_append_left _ hc
 have hab:a≠b:=by rintro rfl;have:=nY hnd ha hb;omega
 have hix:ixL a≠ixL b:=fun e=>hab (sW e)
 have hp:Pair d a b:=Or.inl ⟨ha,hb⟩
 have cases:∀(i:Nat) c,(cl++[d])[i]?=some c→(i=cl.length∧c=d)∨(i<cl.length∧cl[i]?=some c):=fun i c hc=>by
  rw[List.getElem?_append] at hc
  split at hc
  ·rename_i hi;exact Or.inr ⟨hi,hc⟩
  rename_i hi
  rcases Nat.lt_or_ge (i-cl.length) 1 with h1|h1
  ·have e:i=cl.length:=by omega
   subst e
   simp only[Nat.sub_self,List.getElem?_cons_zero,Option.some.injEq] at hc
   exact Or.inl ⟨rfl,hc.symm⟩
  rw[List.getElem?_eq_none (by simpa using h1)] at hc;cases hc
 have old:∀(i:Nat) c,cl[i]?=some c→(cl++[d])[i]?=some c:=fun i c hc=>by
  rw[List.getElem?_append_left (dB hc)];exact hc
 have new:(cl++[d])[cl.length]?=some d:=by rw[List.getElem?_append_right (Nat.le_refl _)];simp
 refine{vo:=h.vo.mono hF (fun _ h=>h),tr:=h.tr,nd:=h.nd,nn:=h.nn,bs:=fun x hx=>(h.bs x hx).mono hF (fun _ h=>h),wl:=by rw[List.length_set,List.length_set];exact h.wl,ok:=fun i c hc=>?_,src:=fun i c hc=>?_,cov:=fun o ho=>?_,row:=fun r ids hr=>?_,base:=fun i c w o hc hw hbb=>absurd hbb (by simp),pr:=fun i c w o hc hw hbb=>?_}
 ·rcases cases i c hc with⟨_,rfl⟩|⟨_,hc⟩
  ·exact⟨by have:=dB hb;omega,hnd,hlit⟩
  exact h.ok i c hc
 ·rcases cases i c hc with⟨_,rfl⟩|⟨_,hc⟩
  ·exact⟨q,List.mem_append_right _ (List.mem_singleton.2 rfl),fun y hy=>(hsub y).1 hy,fun y hy hn=>absurd ((hsub y).2 hy) hn⟩
  obtain⟨o,ho,h1⟩:=h.src i c hc
  exact⟨o,hF o ho,h1⟩
 ·rcases List.mem_append.1 ho with ho|ho
  ·rcases h.cov o ho with h1|⟨i,c,h1,h2⟩
   ·exact Or.inl h1
   exact Or.inr ⟨i,c,old i c h1,h2⟩
  rw[List.mem_singleton] at ho
  subst ho
  exact Or.inr ⟨_,d,new,fun y hy=>(hsub y).1 hy⟩
 ·have oth:∀i r',i≠cl.length→((∃c w o,(cl++[d])[i]?=some c∧Pair c w o∧ixL w=r')↔∃c w o,cl[i]?=some c∧Pair c w o∧ixL w=r'):=fun i r' e=>by
   constructor
   ·rintro⟨c,w,o,h1,h2⟩
    rcases cases i c h1 with⟨e',_⟩|⟨_,h1⟩
    ·exact absurd e' e
    exact⟨c,w,o,h1,h2⟩
   rintro⟨c,w,o,h1,h2⟩
   exact⟨c,w,o,old i c h1,h2⟩
  have own:∀r',(∃c w o,(cl++[d])[cl.length]?=some c∧Pair c w o∧ixL w=r')↔(r'=ixL a∨r'=ixL b):=fun r'=>by
   rw[new]
   constructor
   ·rintro⟨c,w,o,h1,h2,h3⟩
    obtain rfl:=Option.some.inj h1
    rcases hp.other h2 with⟨rfl,_⟩|⟨rfl,_⟩
    ·exact Or.inl h3.symm
    exact Or.inr h3.symm
   rintro(rfl|rfl)
   ·exact⟨d,a,b,rfl,hp,rfl⟩
   exact⟨d,b,a,rfl,hp.comm,rfl⟩
  have none_:∀r' ids',ws[r']?=some ids'→cl.length∉ids':=fun r' ids' hr' hm=>by
   obtain⟨c,w,o,h1,_⟩:=((h.row r' ids' hr').2 _).1 hm
   have:=dB h1;omega
  have snoc:∀(R:List Nat),cl.length∉R→R.Nodup→(R++[cl.length]).Nodup:=fun R h1 h2=>by
   rw[List.nodup_append]
   exact⟨h2,by simp,fun x hx y hy=>by rw[List.mem_singleton] at hy;subst hy;exact fun e=>h1 (e▸hx)⟩
  rcases dX hr with⟨rfl,rfl⟩|⟨hne,hr⟩
  ·obtain⟨h1,h2⟩:=h.row _ _ hrb
   refine⟨snoc _ (none_ _ _ hrb) h1,fun i=>?_⟩
   by_cases e:i=cl.length
   ·subst e;rw[own];exact⟨fun _=>Or.inr rfl,fun _=>by simp⟩
   rw[oth i _ e,←h2 i];simp[e]
  rcases dX hr with⟨rfl,rfl⟩|⟨hne2,hr⟩
  ·obtain⟨h1,h2⟩:=h.row _ _ hra
   refine⟨snoc _ (none_ _ _ hra) h1,fun i=>?_⟩
   by_cases e:i=cl.length
   ·subst e;rw[own];exact⟨fun _=>Or.inl rfl,fun _=>by simp⟩
   rw[oth i _ e,←h2 i];simp[e]
  obtain⟨h1,h2⟩:=h.row _ _ hr
  refine⟨h1,fun i=>?_⟩
  by_cases e:i=cl.length
  ·subst e
   rw[own]
   refine⟨fun hm=>absurd hm (none_ _ _ hr),fun hm=>?_⟩
   rcases hm with hm|hm
   ·exact absurd hm hne2
   exact absurd hm hne
  rw[oth i _ e,←h2 i]
 rcases cases i c hc with⟨e,rfl⟩|⟨_,hc⟩
 ·exact absurd e hbb.2
 exact h.pr i c w o hc hw hbb.1
theorem Eng.back {m:Nat} (h:Eng n F (allL n) 0 0 D val trail ws cl) {val':List Int} (hl:val'.length=val.length) (hv:∀(v:Nat),(∃x∈trail.drop m,(vr x).toNat=v)→val'[v]?=some 0∨val.length≤v) (hk:∀(v:Nat),(∀x∈trail.drop m,(vr x).toNat≠v)→val'[v]?=val[v]?)
  (hb:∀(id:Nat) c w o,cl[id]?=some c→Pair c w o→ -w∈trail.take m→o∈trail.take m):Eng n F (allL n) 0 0 (fun _ w=> -w∈trail.take m) val' (trail.take m) ws cl:=by
 have hdis:∀x,x∈trail.take m→x∉trail.drop m:=fun x h1 h2=>by
  have hn:=h.nd
  rw[←List.take_append_drop m trail,List.nodup_append] at hn
  exact hn.2.2 x h1 x h2 rfl
 have sp:∀x,x∈trail→x∈trail.take m∨x∈trail.drop m:=fun x hx=>by
  rw[←List.take_append_drop m trail] at hx;exact List.mem_append.1 hx
 have stay:∀(v:Nat) x,val'[v]?=some x→x≠0→val[v]?=some x∧∀z∈trail.drop m,(vr z).toNat≠v:=fun v x hx h0=>by
  by_cases hz:∃z∈trail.drop m,(vr z).toNat=v
  ·rcases hv v hz with e1|e1
   ·rw[e1] at hx;exact absurd (Option.some.inj hx).symm h0
   have:=dB hx;omega
  have hz':∀z∈trail.drop m,(vr z).toNat≠v:=fun z h1 h2=>hz ⟨z,h1,h2⟩
  rw[hk v hz'] at hx
  exact⟨hx,hz'⟩
 have tr':∀x,x∈trail.take m↔x≠0∧gv val' x=some x:=fun x=>by
  constructor
  ·intro hx
   have h1:=(h.tr x).1 (List.mem_of_mem_take hx)
   refine⟨h1.1,?_⟩
   have:∀z∈trail.drop m,(vr z).toNat≠(vr x).toNat:=fun z hz e1=>by
    have a:=jP z
    have b:=jP x
    rcases vr_eq.1 (show vr z=vr x by omega) with rfl|rfl
    ·exact hdis _ hx hz
    exact h.opp (List.mem_of_mem_take hx) (List.mem_of_mem_drop hz)
   unfold gv
   rw[hk _ this]
   exact h1.2
  rintro⟨h0,hx⟩
  obtain⟨h1,h2⟩:=stay _ x hx h0
  have hm:=(h.tr x).2 ⟨h0,h1⟩
  rcases sp x hm with hm|hm
  ·exact hm
  exact absurd rfl (h2 x hm)
 refine{vo:=⟨by have:=h.vo.len;omega,fun v x hx=>?_,fun v x hx h0=>?_⟩,tr:=tr',nd:=h.nd.sublist (List.take_sublist _ _),nn:=⟨Nat.le_refl _,Nat.zero_le _⟩,bs:=by simp,wl:=h.wl,ok:=h.ok,src:=by simpa using h.src,cov:=by simpa using h.cov,row:=h.row,base:=by simp,pr:=hb}
 ·by_cases h0:x=0
  ·exact Or.inl h0
  exact h.vo.own v x (stay v x hx h0).1
 exact h.vo.sound v x (stay v x hx h0).1 h0
end
def lvl (st:List Int) (i:Nat):Int:=((st.filter fun b=>decide (b≤(i:Int))).length:Int)
theorem lvl_all {st:List Int} {i:Nat} (h:∀b∈st,b≤(i:Int)):lvl st i=st.length:=by
 unfold lvl
 rw[List.filter_eq_self.2 (by simpa using h)]
theorem lvl_le (st:List Int) (i:Nat):lvl st i≤st.length:=by
 unfold lvl
 have:=List.length_filter_le (fun b=>decide (b≤(i:Int))) st
 omega
theorem lvl_nn (st:List Int) (i:Nat):0≤lvl st i:=by unfold lvl;omega
theorem lvl_mono (st:List Int) {i j:Nat} (h:i≤j):lvl st i≤lvl st j:=by
 unfold lvl
 have:(st.filter fun b=>decide (b≤(i:Int))).length≤(st.filter fun b=>decide (b≤(j:Int))).length:=by
  induction st with
  |nil=>simp
  |cons b st ih=>
   by_cases h1:b≤(i:Int)
   ·have h2:b≤(j:Int):=by omega
    simp[h1,h2,ih]
   by_cases h2:b≤(j:Int)
   ·simp[h1,h2];omega
   simp[h1,h2,ih]
 omega
theorem lvl_snoc {st:List Int} {b:Int} {i:Nat} (h:(i:Int)<b):lvl (st++[b]) i=lvl st i:=by
 unfold lvl
 have:¬b≤(i:Int):=by omega
 simp[this]
theorem lvl_ge {st:List Int} (hs:st.Pairwise (· < ·)) {k:Nat} {b:Int} (hk:st[k]?=some b) {i:Nat} (h:b≤(i:Int)):(k:Int)+1≤lvl st i:=by
 have e:st=st.take (k+1)++st.drop (k+1):=(List.take_append_drop _ _).symm
 have hl:=dB hk
 have h1:∀c∈st.take (k+1),c≤(i:Int):=fun c hc=>by
  obtain⟨j,hj⟩:=List.getElem?_of_mem hc
  rw[List.getElem?_take] at hj
  split at hj
  ·rename_i hjk
   by_cases e:j=k
   ·subst e;rw[hk] at hj;rw[←Option.some.inj hj];exact h
   have hjl:=dB hj
   have:=List.pairwise_iff_getElem.1 hs j k hjl hl (by omega)
   rw[List.getElem?_eq_getElem hjl] at hj
   rw[List.getElem?_eq_getElem hl] at hk
   rw[Option.some.inj hj,Option.some.inj hk] at this
   omega
  cases hj
 unfold lvl
 rw[e,List.filter_append,List.filter_eq_self.2 (by simpa using h1),List.length_append,List.length_take]
 omega
theorem lvl_lt {st:List Int} (hs:st.Pairwise (· < ·)) {k:Nat} {b:Int} (hk:st[k]?=some b) {i:Nat} (h:(i:Int)<b):lvl st i=lvl (st.take k) i:=by
 have e:st=st.take k++st.drop k:=(List.take_append_drop _ _).symm
 have hl:=dB hk
 have h1:(st.drop k).filter (fun c=>decide (c≤(i:Int)))=[]:=by
  rw[List.filter_eq_nil_iff]
  intro c hc
  obtain⟨j,hj⟩:=List.getElem?_of_mem hc
  rw[List.getElem?_drop] at hj
  have:b≤c:=by
   by_cases e:j=0
   ·subst e;rw[Nat.add_zero,hk] at hj;rw[Option.some.inj hj];omega
   have hjl:=dB hj
   have:=List.pairwise_iff_getElem.1 hs k (k+j) hl hjl (by omega)
   rw[List.getElem?_eq_getElem hjl] at hj
   rw[List.getElem?_eq_getElem hl] at hk
   rw[Option.some.inj hj,Option.some.inj hk] at this
   omega
  simp;omega
 unfold lvl
 conv=>lhs;rw[e]
 rw[List.filter_append,h1,List.append_nil]
theorem lvl_lt' {st:List Int} (hs:st.Pairwise (· < ·)) {k:Nat} {b:Int} (hk:st[k]?=some b) {i:Nat} (h:(i:Int)<b):lvl st i≤k:=by
 rw[lvl_lt hs hk h]
 have:=lvl_le (st.take k) i
 rw[List.length_take] at this
 omega
def Why (F:List (List Int)) (st trail:List Int) (cl:List (List Int)) (i:Nat) (x:Int):Option Nat→Prop
 |none=>(i:Int)∈st∨(lvl st i=0∧UP F [] x)
 |some id=>∃c,cl[id]?=some c∧x∈c∧(∀y∈c,y≠x→ -y∈trail.take i)∧∃y∈c,y≠x∧∃k,trail[k]?=some (-y)∧lvl st k=lvl st i
structure Cor (n:Int) (F:List (List Int)) (st:List Int) (D:Nat→Int→Prop) (val lev:List Int) (rea:List (Option Nat)) (trail:List Int) (ws:List (List Nat)) (cl:List (List Int)):Prop where
 eng:Eng n (big F) (allL n) 0 0 D val trail ws cl
 ll:(lev.length:Int)=n+1
 rl:(rea.length:Int)=n+1
 lv:∀(i:Nat) x,trail[i]?=some x→lev[(vr x).toNat]?=some (lvl st i)
 re:∀(i:Nat) x r,trail[i]?=some x→rea[(vr x).toNat]?=some r→Why F st trail cl i x r
 rid:∀id,some id∈rea→id<cl.length
 bas:∀b∈st,∀(id:Nat) c w o,cl[id]?=some c→Pair c w o→ -w∈trail.take b.toNat→o∈trail.take b.toNat
 sts:st.Pairwise (· < ·)
 stb:∀b∈st,0≤b∧b<trail.length
section
variable {n:Int} {F:List (List Int)} {st:List Int} {D:Nat→Int→Prop} {val lev:List Int} {rea:List (Option Nat)} {trail:List Int} {ws:List (List Nat)} {cl:List (List Int)}
theorem Cor.less (h:Cor n F st D val lev rea trail ws cl) {D':Nat→Int→Prop} (hD:∀id w,D' id w→D id w):Cor n F st D' val lev rea trail ws cl:={h with eng:=h.eng.less hD}
theorem Cor.more (h:Cor n F st D val lev rea trail ws cl) {D':Nat→Int→Prop} (hD:∀(id:Nat) c w o,cl[id]?=some c→Pair c w o→D' id w→o∈trail):Cor n F st D' val lev rea trail ws cl:={h with eng:=h.eng.more hD}
theorem Cor.done (h:Cor n F st D val lev rea trail ws cl) {id:Nat} {c:List Int} {l o:Int} (hc:cl[id]?=some c) (hp:Pair c l o) (ho:o∈trail):Cor n F st (fun i w=>D i w∨(i=id∧w=l)) val lev rea trail ws cl:={h with eng:=h.eng.done hc hp ho}
theorem Cor.lit (h:Cor n F st D val lev rea trail ws cl) {x:Int} (hx:x∈trail):x≠0∧vr x≤n:=by
 obtain⟨h0,h1⟩:=(h.eng.tr x).1 hx
 have h2:=dB h1
 have h3:=h.eng.vo.len
 have h4:=jP x
 exact⟨h0,by omega⟩
theorem Cor.at_ (h:Cor n F st D val lev rea trail ws cl) {i j:Nat} {x y:Int} (hi:trail[i]?=some x) (hj:trail[j]?=some y) (e:vr x=vr y):i=j:=by
 rcases vr_eq.1 e with rfl|rfl
 ·exact nY h.eng.nd hi hj
 exact(h.eng.opp (bQ hj) (bQ hi)).elim
theorem Why.turn {i:Nat} {x:Int} {r:Option Nat} {id:Nat} {c c':List Int} (hc:cl[id]?=some c) (hs:∀y,y∈c'↔y∈c) (h:Why F st trail cl i x r):Why F st trail (cl.set id c') i x r:=by
 cases r with
 |none=>exact h
 |some k=>
  obtain⟨d,h1,h2,h3,y,h4,h5⟩:=h
  by_cases e:k=id
  ·subst e
   obtain rfl:=Option.some.inj (hc.symm.trans h1)
   exact⟨c',dM hc,(hs x).2 h2,fun y hy=>h3 y ((hs y).1 hy),y,(hs y).2 h4,h5⟩
  exact⟨d,by rw[cZ e];exact h1,h2,h3,y,h4,h5⟩
theorem Cor.turn (h:Cor n F st D val lev rea trail ws cl) {id:Nat} {c c':List Int} (hc:cl[id]?=some c) (hs:Same c c') (hp:∀w o,Pair c' w o↔Pair c w o):Cor n F st D val lev rea trail ws (cl.set id c'):=
 {h with
  eng:=h.eng.turn hc hs hp
  re:=fun i x r hx hr=>(h.re i x r hx hr).turn hc hs.mem
  rid:=fun i hi=>by rw[List.length_set];exact h.rid i hi
  bas:=fun b hb i d w o hd hw ho=>by
   rcases dX hd with⟨rfl,rfl⟩|⟨_,hd⟩
   ·exact h.bas b hb _ c w o hc ((hp w o).1 hw) ho
   exact h.bas b hb i d w o hd hw ho}
theorem Cor.move (h:Cor n F st D val lev rea trail ws cl) {id:Nat} {c c':List Int} {l o y:Int} {V1 V2 R:List Nat} (hc:cl[id]?=some c) (hs:Same c c') (hp:Pair c l o) (hp':Pair c' y o) (hyl:y≠l) (hyo:y≠o)
  (hl: -l∈trail) (hy: -y∉trail) (ho:o∉trail) (hD:∀i w,D i w→ -w∈trail) (hr:ws[ixL l]?=some (V1++id::V2)) (hR:ws[ixL y]?=some R):
  Cor n F st D val lev rea trail ((ws.set (ixL y) (R++[id])).set (ixL l) (V1++V2)) (cl.set id c'):=
 {h with
  eng:=h.eng.move hc hs hp hp' hyl hyo hl hy ho hD hr hR
  re:=fun i x r hx hr=>(h.re i x r hx hr).turn hc hs.mem
  rid:=fun i hi=>by rw[List.length_set];exact h.rid i hi
  bas:=fun b hb i d w p hd hw hwb=>by
   rcases dX hd with⟨rfl,rfl⟩|⟨_,hd⟩
   ·rcases hp'.other hw with⟨rfl,_⟩|⟨rfl,_⟩
    ·exact absurd (List.mem_of_mem_take hwb) hy
    have:=h.bas b hb _ _ _ _ hc hp.comm hwb
    exact(h.eng.opp (List.mem_of_mem_take this) hl).elim
   exact h.bas b hb i d w p hd hw hwb}
theorem Cor.void (h:Cor n F st D val lev rea trail ws cl) {id:Nat} {c:List Int} {l:Int} (hc:cl[id]?=some c) (hv:∀o,¬Pair c l o):Cor n F st (fun i w=>D i w∨(i=id∧w=l)) val lev rea trail ws cl:=
 h.more fun i c' w p h1 h2 h3=>by
  rcases h3 with h3|⟨rfl,rfl⟩
  ·exact h.eng.pr i c' w p h1 h2 h3
  obtain rfl:=Option.some.inj (hc.symm.trans h1)
  exact absurd h2 (hv p)
theorem Cor.top (h:Cor n F st D val lev rea trail ws cl) {i:Nat} (hi:trail.length≤i):lvl st i=st.length:=lvl_all fun b hb=>by have:=h.stb b hb;omega
theorem Why.hold {i:Nat} {x z:Int} {r:Option Nat} (hi:i<trail.length) (h:Why F st trail cl i x r):Why F st (trail++[z]) cl i x r:=by
 cases r with
 |none=>exact h
 |some k=>
  obtain⟨d,h1,h2,h3,y,h4,h5,j,h6,h7⟩:=h
  refine⟨d,h1,h2,fun y hy hne=>?_,y,h4,h5,j,by rw[List.getElem?_append_left (dB h6)];exact h6,h7⟩
  rw[List.take_append_of_le_length (by omega)]
  exact h3 y hy hne
theorem Cor.hold (h:Cor n F st D val lev rea trail ws cl) {x:Int} (h0:x≠0) (hx:vr x≤n) (hz:gv val x=some 0) {r:Option Nat} (hw:Why F st trail cl trail.length x r) (hrl:∀id,r=some id→id<cl.length):
  Cor n F st D (val.set (vr x).toNat x) (lev.set (vr x).toNat (st.length:Int)) (rea.set (vr x).toNat r) (trail++[x]) ws cl:=by
 have hx0:=jP x
 have oth:∀(i:Nat) y,trail[i]?=some y→(vr y).toNat≠(vr x).toNat:=fun i y hy e=>by
  have h1:=(h.eng.tr y).1 (bQ hy)
  have h2:=jP y
  unfold gv at h1 hz
  rw[e,hz] at h1
  exact h1.1 (Option.some.inj h1.2).symm
 have cs:∀(i:Nat) y,(trail++[x])[i]?=some y→(i<trail.length∧trail[i]?=some y)∨(i=trail.length∧y=x):=fun i y hy=>by
  rcases Nat.lt_or_ge i trail.length with hi|hi
  ·rw[List.getElem?_append_left hi] at hy;exact Or.inl ⟨hi,hy⟩
  rw[List.getElem?_append_right hi] at hy
  by_cases e:i=trail.length
  ·subst e;simp at hy;exact Or.inr ⟨rfl,hy.symm⟩
  rw[List.getElem?_eq_none (by simp;omega)] at hy;cases hy
 obtain⟨lx,hlx⟩:=bK (show(vr x).toNat<lev.length by have:=h.ll;omega)
 obtain⟨rx,hrx⟩:=bK (show(vr x).toNat<rea.length by have:=h.rl;omega)
 refine{eng:=h.eng.hold h0 hx hz (.start (mem_allL.2 ⟨h0,hx⟩)),ll:=by rw[List.length_set];exact h.ll,rl:=by rw[List.length_set];exact h.rl,lv:=fun i y hy=>?_,re:=fun i y r' hy hr=>?_,rid:=fun id hid=>?_,bas:=fun b hb id c w o hc hp hwb=>?_,sts:=h.sts,stb:=fun b hb=>by have:=h.stb b hb;rw[List.length_append];omega}
 ·rcases cs i y hy with⟨_,hy⟩|⟨rfl,rfl⟩
  ·rw[cZ (oth i y hy)];exact h.lv i y hy
  rw[dM hlx,h.top (Nat.le_refl _)]
 ·rcases cs i y hy with⟨hi,hy⟩|⟨rfl,rfl⟩
  ·rw[cZ (oth i y hy)] at hr
   exact(h.re i y r' hy hr).hold hi
  rw[dM hrx] at hr
  obtain rfl:=Option.some.inj hr
  cases r with
  |none=>exact hw
  |some k=>
   obtain⟨d,h1,h2,h3,y,h4,h5,j,h6,h7⟩:=hw
   refine⟨d,h1,h2,fun y hy hne=>?_,y,h4,h5,j,by rw[List.getElem?_append_left (dB h6)];exact h6,h7⟩
   rw[List.take_append_of_le_length (by omega)]
   exact h3 y hy hne
 ·obtain⟨j,hj⟩:=List.getElem?_of_mem hid
  rcases dX hj with⟨_,e⟩|⟨_,hj⟩
  ·exact hrl id e.symm
  exact h.rid id (bQ hj)
 have:=h.stb b hb
 rw[List.take_append_of_le_length (by omega)] at hwb⊢
 exact h.bas b hb id c w o hc hp hwb
theorem Cor.decide (h:Cor n F st (fun _ w=> -w∈trail) val lev rea trail ws cl) {x:Int} (h0:x≠0) (hx:vr x≤n) (hz:gv val x=some 0):
  Cor n F (st++[(trail.length:Int)]) (fun _ w=> -w∈trail) (val.set (vr x).toNat x) (lev.set (vr x).toNat ((st.length:Int)+1)) (rea.set (vr x).toNat none) (trail++[x]) ws cl:=by
 have hx0:=jP x
 have oth:∀(i:Nat) y,trail[i]?=some y→(vr y).toNat≠(vr x).toNat:=fun i y hy e=>by
  have h1:=(h.eng.tr y).1 (bQ hy)
  have h2:=jP y
  unfold gv at h1 hz
  rw[e,hz] at h1
  exact h1.1 (Option.some.inj h1.2).symm
 have cs:∀(i:Nat) y,(trail++[x])[i]?=some y→(i<trail.length∧trail[i]?=some y)∨(i=trail.length∧y=x):=fun i y hy=>by
  rcases Nat.lt_or_ge i trail.length with hi|hi
  ·rw[List.getElem?_append_left hi] at hy;exact Or.inl ⟨hi,hy⟩
  rw[List.getElem?_append_right hi] at hy
  by_cases e:i=trail.length
  ·subst e;simp at hy;exact Or.inr ⟨rfl,hy.symm⟩
  rw[List.getElem?_eq_none (by simp;omega)] at hy;cases hy
 have lo:∀(i:Nat),i<trail.length→lvl (st++[(trail.length:Int)]) i=lvl st i:=fun i hi=>lvl_snoc (by omega)
 obtain⟨lx,hlx⟩:=bK (show(vr x).toNat<lev.length by have:=h.ll;omega)
 obtain⟨rx,hrx⟩:=bK (show(vr x).toNat<rea.length by have:=h.rl;omega)
 have eng:=h.eng.hold h0 hx hz (.start (mem_allL.2 ⟨h0,hx⟩))
 refine{eng:=eng,ll:=by rw[List.length_set];exact h.ll,rl:=by rw[List.length_set];exact h.rl,lv:=fun i y hy=>?_,re:=fun i y r' hy hr=>?_,rid:=fun id hid=>?_,bas:=fun b hb id c w o hc hp hwb=>?_,sts:=?_,stb:=fun b hb=>?_}
 ·rcases cs i y hy with⟨hi,hy⟩|⟨rfl,rfl⟩
  ·rw[cZ (oth i y hy),lo i hi];exact h.lv i y hy
  rw[dM hlx,lvl_all (fun b hb=>by
   rcases List.mem_append.1 hb with hb|hb
   ·have:=h.stb b hb;omega
   rw[List.mem_singleton] at hb;omega)]
  simp
 ·rcases cs i y hy with⟨hi,hy⟩|⟨rfl,rfl⟩
  ·rw[cZ (oth i y hy)] at hr
   have:=(h.re i y r' hy hr).hold hi (z:=x)
   cases r' with
   |none=>
    rcases this with h1|⟨h1,h2⟩
    ·exact Or.inl (List.mem_append_left _ h1)
    exact Or.inr ⟨by rw[lo i hi];exact h1,h2⟩
   |some k=>
    obtain⟨d,h1,h2,h3,y',h4,h5,j,h6,h7⟩:=h.re i y _ hy hr
    refine⟨d,h1,h2,fun y hy hne=>?_,y',h4,h5,j,by rw[List.getElem?_append_left (dB h6)];exact h6,by rw[lo i hi,lo j (dB h6)];exact h7⟩
    rw[List.take_append_of_le_length (by omega)]
    exact h3 y hy hne
  rw[dM hrx] at hr
  obtain rfl:=Option.some.inj hr
  exact Or.inl (List.mem_append_right _ (List.mem_singleton.2 rfl))
 ·obtain⟨j,hj⟩:=List.getElem?_of_mem hid
  rcases dX hj with⟨_,e⟩|⟨_,hj⟩
  ·cases e
  exact h.rid id (bQ hj)
 ·rcases List.mem_append.1 hb with hb|hb
  ·have:=h.stb b hb
   rw[List.take_append_of_le_length (by omega)] at hwb⊢
   exact h.bas b hb id c w o hc hp hwb
  rw[List.mem_singleton] at hb
  subst hb
  rw[Int.toNat_natCast,List.take_left' rfl] at hwb⊢
  exact h.eng.pr id c w o hc hp hwb
 ·rw[List.pairwise_append]
  exact⟨h.sts,by simp,fun a ha b hb=>by rw[List.mem_singleton] at hb;have:=h.stb a ha;omega⟩
 rw[List.length_append,List.length_singleton]
 rcases List.mem_append.1 hb with hb|hb
 ·have:=h.stb b hb;omega
 rw[List.mem_singleton] at hb;omega
theorem Cor.undo (h:Cor n F st D val lev rea trail ws cl) {k:Nat} {b:Int} (hk:st[k]?=some b) {val':List Int} {rea':List (Option Nat)} (hl:val'.length=val.length) (hl2:rea'.length=rea.length)
  (hv:∀(v:Nat),(∃x∈trail.drop b.toNat,(vr x).toNat=v)→val'[v]?=some 0∨val.length≤v) (hkv:∀(v:Nat),(∀x∈trail.drop b.toNat,(vr x).toNat≠v)→val'[v]?=val[v]?)
  (hr:∀(v:Nat) r,rea'[v]?=some r→r=none∨rea[v]?=some r) (hkr:∀(v:Nat),(∀x∈trail.drop b.toNat,(vr x).toNat≠v)→rea'[v]?=rea[v]?):
  Cor n F (st.take k) (fun _ w=> -w∈trail.take b.toNat) val' lev rea' (trail.take b.toNat) ws cl:=by
 have hb:=h.stb b (bQ hk)
 have cs:∀(i:Nat) y,(trail.take b.toNat)[i]?=some y→i<b.toNat∧trail[i]?=some y:=fun i y hy=>by
  rw[List.getElem?_take] at hy
  split at hy
  ·rename_i hi;exact⟨hi,hy⟩
  cases hy
 have lo:∀(i:Nat),i<b.toNat→lvl (st.take k) i=lvl st i:=fun i hi=>(lvl_lt h.sts hk (by omega)).symm
 have sb:∀c∈st.take k,c<b:=fun c hc=>by
  obtain⟨j,hj⟩:=List.getElem?_of_mem hc
  rw[List.getElem?_take] at hj
  split at hj
  ·rename_i hjk
   have hl:=dB hk
   have hjl:=dB hj
   have:=List.pairwise_iff_getElem.1 h.sts j k hjl hl hjk
   rw[List.getElem?_eq_getElem hjl] at hj
   rw[List.getElem?_eq_getElem hl] at hk
   rw[Option.some.inj hj,Option.some.inj hk] at this
   exact this
  cases hj
 refine{eng:=h.eng.back hl hv hkv (fun id c w o hc hp hw=>h.bas b (bQ hk) id c w o hc hp hw),ll:=h.ll,rl:=by rw[hl2];exact h.rl,lv:=fun i y hy=>?_,re:=fun i y r' hy hr'=>?_,rid:=fun id hid=>?_,bas:=fun c hc id d w o hd hp hwb=>?_,sts:=h.sts.sublist (List.take_sublist _ _),stb:=fun c hc=>?_}
 ·obtain⟨hi,hy⟩:=cs i y hy
  rw[lo i hi];exact h.lv i y hy
 ·obtain⟨hi,hy⟩:=cs i y hy
  have hne:∀z∈trail.drop b.toNat,(vr z).toNat≠(vr y).toNat:=fun z hz e=>by
   obtain⟨j,hj⟩:=List.getElem?_of_mem hz
   rw[List.getElem?_drop] at hj
   have h1:=jP z
   have h2:=jP y
   have:=h.at_ hj hy (by omega)
   omega
  rw[hkr _ hne] at hr'
  have hw:=h.re i y r' hy hr'
  cases r' with
  |none=>
   rcases hw with h1|⟨h1,h2⟩
   ·refine Or.inl ?_
    rw[←List.take_append_drop k st] at h1
    rcases List.mem_append.1 h1 with h1|h1
    ·exact h1
    obtain⟨j,hj⟩:=List.getElem?_of_mem h1
    rw[List.getElem?_drop] at hj
    have hl:=dB hk
    have hjl:=dB hj
    by_cases e:j=0
    ·subst e;rw[Nat.add_zero,hk] at hj;have:=Option.some.inj hj;omega
    have:=List.pairwise_iff_getElem.1 h.sts k (k+j) hl hjl (by omega)
    rw[List.getElem?_eq_getElem hjl] at hj
    rw[List.getElem?_eq_getElem hl] at hk
    rw[Option.some.inj hj,Option.some.inj hk] at this
    omega
   exact Or.inr ⟨by rw[lo i hi];exact h1,h2⟩
  |some id=>
   obtain⟨d,h1,h2,h3,y',h4,h5,j,h6,h7⟩:=hw
   refine⟨d,h1,h2,fun z hz hne=>by rw[List.take_take,Nat.min_eq_left (by omega)];exact h3 z hz hne,y',h4,h5,j,?_,?_⟩
   ·have hj:j<i:=by
     obtain⟨j',hj'⟩:=List.getElem?_of_mem (h3 y' h4 h5)
     have hjc:=hj'
     rw[List.getElem?_take] at hjc
     split at hjc
     ·have:=nY h.eng.nd h6 hjc;omega
     cases hjc
    rw[List.getElem?_take,if_pos (by omega)];exact h6
   have hj:j<i:=by
    obtain⟨j',hj'⟩:=List.getElem?_of_mem (h3 y' h4 h5)
    have hjc:=hj'
    rw[List.getElem?_take] at hjc
    split at hjc
    ·have:=nY h.eng.nd h6 hjc;omega
    cases hjc
   rw[lo i hi,lo j (by omega)];exact h7
 ·obtain⟨j,hj⟩:=List.getElem?_of_mem hid
  rcases hr j _ hj with e|e
  ·cases e
  exact h.rid id (bQ e)
 ·have h1:=sb c hc
  have h2:=h.stb c (List.mem_of_mem_take hc)
  rw[List.take_take,Nat.min_eq_left (by omega)] at hwb⊢
  exact h.bas c (List.mem_of_mem_take hc) id d w o hd hp hwb
 have h1:=sb c hc
 have h2:=h.stb c (List.mem_of_mem_take hc)
 rw[List.length_take];omega
theorem Cor.up0 (h:Cor n F st D val lev rea trail ws cl):∀(i:Nat) {x:Int},trail[i]?=some x→lvl st i=0→UP F [] x:=by
 intro i
 induction i using Nat.strongRecOn with
 |ind i ih=>
  intro x hx h0
  have hl:=h.lit (bQ hx)
  obtain⟨r,hr⟩:=bK (show(vr x).toNat<rea.length by have:=h.rl;have:=jP x;omega)
  have hw:=h.re i x r hx hr
  cases r with
  |none=>
   rcases hw with h1|⟨_,h1⟩
   ·obtain⟨k,hk⟩:=List.getElem?_of_mem h1
    have:=lvl_ge h.sts hk (Int.le_refl _)
    omega
   exact h1
  |some id=>
   obtain⟨c,h1,h2,h3,_⟩:=hw
   obtain⟨o,h4,h5,h6⟩:=h.eng.src id c h1
   have hF:=(mem_big.1 h4).1
   refine .unit hF (h5 x h2) fun y hy hne=>?_
   have hyc:y∈c:=Classical.byContradiction fun hn=>by have:=h6 y hy hn;simp at this
   obtain⟨j,hj⟩:=List.getElem?_of_mem (h3 y hyc hne)
   rw[List.getElem?_take] at hj
   split at hj
   ·rename_i hji
    exact ih j hji hj (by have:=lvl_mono st (show j≤i by omega);have:=lvl_nn st j;omega)
   cases hj
end
theorem wY:∀(m:Nat) (l:List Nat),l.Nodup→(∀x∈l,x<m)→l.length≤m
 |0,[],_,_=>Nat.le_refl _
 |0,x::_,_,h=>absurd (h x (List.mem_cons_self ..)) (by omega)
 |m+1,l,hn,h=>by
  have h1:=wY m (l.erase m) (hn.erase m) (fun x hx=>by
   have h2:=h x (List.mem_of_mem_erase hx)
   have h3:x≠m:=fun e=>by subst e;exact hn.not_mem_erase hx
   omega)
  by_cases hm:m∈l
  ·rw[List.length_erase_of_mem hm] at h1;omega
  rw[List.erase_of_not_mem hm] at h1;omega
section
variable {n:Int} {F:List (List Int)} {S:List Int} {np nc:Nat} {D:Nat→Int→Prop} {val trail:List Int} {ws:List (List Nat)} {cl:List (List Int)}
theorem Eng.rowLen (h:Eng n F S np nc D val trail ws cl) {r:Nat} {ids:List Nat} (hr:ws[r]?=some ids):ids.length≤cl.length:=
 wY _ _ (h.row r ids hr).1 fun id hid=>by
  obtain⟨c,_,_,hc,_⟩:=((h.row r ids hr).2 id).1 hid
  exact dB hc
theorem Eng.lit (h:Eng n F S np nc D val trail ws cl) {x:Int} (hx:x∈trail):x≠0∧vr x≤n:=by
 obtain⟨h0,h1⟩:=(h.tr x).1 hx
 have h2:=dB h1
 have h3:=h.vo.len
 have h4:=jP x
 exact⟨h0,by omega⟩
theorem Eng.trailLen (h:Eng n F S np nc D val trail ws cl) (hn:0≤n):(trail.length:Int)≤n:=by
 have h1:=wY n.toNat (trail.map fun x=>(vr x).toNat-1) (by
  unfold List.Nodup
  rw[List.pairwise_map]
  refine List.Pairwise.imp_of_mem (fun{a b} ha hb hne he=>?_) h.nd
  have h1:=h.lit ha
  have h2:=h.lit hb
  have h3:=jP a
  have h4:=jP b
  have h5:vr a≠0:=fun e=>h1.1 (qC.1 e)
  have h6:vr b≠0:=fun e=>h2.1 (qC.1 e)
  rcases vr_eq.1 (show vr a=vr b by omega) with e|e
  ·exact hne e
  ·exact h.opp hb (e▸ha)) (fun x hx=>by
  obtain⟨y,hy,rfl⟩:=List.mem_map.1 hx
  have h1:=h.lit hy
  have h3:=jP y
  have h5:vr y≠0:=fun e=>h1.1 (qC.1 e)
  omega)
 rw[List.length_map] at h1
 omega
theorem Eng.void (h:Eng n F S np nc D val trail ws cl) {id:Nat} {c:List Int} {l:Int} (hc:cl[id]?=some c) (hv:∀o,¬Pair c l o):Eng n F S np nc (fun i w=>D i w∨(i=id∧w=l)) val trail ws cl:=by
 refine{h with pr:=fun i c' w p h1 h2 h3=>?_}
 rcases h3 with h3|⟨rfl,rfl⟩
 ·exact h.pr i c' w p h1 h2 h3
 obtain rfl:=Option.some.inj (hc.symm.trans h1)
 exact absurd h2 (hv p)
end
theorem aI6 {l:Int} (h: -1099511627776≤l∧l≤1099511627776):lI l=some (ixL l:Int):=by
 unfold lI ixL
 by_cases h0:l<0
 ·rw[if_pos (by simpa using h0),if_pos h0,gW ⟨by omega,by omega⟩,bsm,gW ⟨by omega,by omega⟩,bsm]
  congr 1;omega
 rw[if_neg (by simpa using h0),if_neg h0,gW ⟨by omega,by omega⟩,bsm]
 congr 1;omega
theorem ixL_bnd {l n:Int} (hl:vr l≤n):(ixL l:Int)<2*n+2:=by
 have h1:=oI.1 hl
 unfold ixL;split<;>omega
section
variable {n:Int} {F:List (List Int)} {S:List Int} {np nc:Nat} {D:Nat→Int→Prop} {val trail:List Int} {ws:List (List Nat)} {cl:List (List Int)}
theorem Eng.rowAt (h:Eng n F S np nc D val trail ws cl) {l:Int} (hl:vr l≤n):∃R,ws[ixL l]?=some R:=
 bK (by have:=ixL_bnd hl;have:=h.wl;omega)
theorem of_ok (h:Eng n F S np nc D val trail ws cl) {l:Int} (h0:l≠0) (hl:vr l≤n) (hn:n≤65536) {tr:List Int} {hd:Int} {W:List (List Nat)×List (List Int)} {fl:Bool}:
  ∃r,iU (PEng.mk val tr hd W fl) l=some r∧((r=1∧l∈trail)∨(r= -1∧ -l∈trail)∨(r=0∧gv val l=some 0∧l∉trail∧ -l∉trail)):=by
 have hb:=oI.1 hl
 unfold iU
 have key:∀y,gv val l=some y→idx val (max l (0-l))=some y:=fun y hy=>kE (jP l) hy
 rw[gW ⟨by omega,by omega⟩,bsm]
 simp only
 rcases h.cases h0 hl with⟨h1,h2⟩|⟨h1,h2⟩|⟨h1,h2,h3⟩
 ·rw[key _ h1,bsm]
  exact⟨1,by simp[h0],Or.inl ⟨rfl,h2⟩⟩
 ·rw[key _ h1,bsm]
  have e1:¬(-l=0):=by omega
  have e2:¬(-l=l):=by omega
  exact⟨-1,by simp[e1,e2],Or.inr (Or.inl ⟨rfl,h2⟩)⟩
 rw[key _ h1,bsm]
 exact⟨0,by simp,Or.inr (Or.inr ⟨rfl,h1,h2,h3⟩)⟩
theorem hold_ok (h:Eng n F S np nc D val trail ws cl) {l:Int} (hl:vr l≤n) (hn:n≤65536) (hn0:0≤n) {hd:Int} {W:List (List Nat)×List (List Int)} {fl:Bool}:
  kT (PEng.mk val trail hd W fl) l=some (PEng.mk (val.set (vr l).toNat l) (trail++[l]) hd W fl):=by
 have hb:=oI.1 hl
 have ht:=h.trailLen hn0
 obtain⟨y,h1,_,_⟩:=h.vo.get hl
 unfold kT
 rw[gW ⟨by omega,by omega⟩,bsm]
 simp only
 rw[show idx val (max l (0-l))=some y from kE (jP l) h1,bsm,oV (by simp;omega),bsm]
 rfl
theorem seek_ok (h:Eng n F S np nc D val trail ws cl) (hn:n≤65536) {c:List Int} (hc:∀y∈c,y≠0∧vr y≤n) (hlen:2≤c.length) (hc4:c.length≤4294967296) {tr:List Int} {hd:Int} {W:List (List Nat)×List (List Int)} {fl:Bool}:
  ∃b:Nat,dC (fun s=>fQ W hd fl val tr c s) 2=some (b:Int)∧2≤b∧b≤c.length∧(∀j y,2≤j→j<b→c[j]?=some y→ -y∈trail)∧(∀y,c[b]?=some y→ -y∉trail):=by
 have key:∀(m k:Nat),k+m=c.length→2≤k→(∀j y,2≤j→j<k→c[j]?=some y→ -y∈trail)→
   ∃b:Nat,dC (fun s=>fQ W hd fl val tr c s) (k:Int)=some (b:Int)∧2≤b∧b≤c.length∧(∀j y,2≤j→j<b→c[j]?=some y→ -y∈trail)∧(∀y,c[b]?=some y→ -y∉trail):=by
  intro m
  induction m with
  |zero=>
   intro k hk h2 hi
   obtain rfl:k=c.length:=by omega
   refine⟨c.length,eF ?_,h2,Nat.le_refl _,hi,fun y hy=>by rw[List.getElem?_eq_none (Nat.le_refl _)] at hy;cases hy⟩
   simp only[fQ,rY,if_false,Bool.false_eq_true,bsm]
  |succ m ih=>
   intro k hk h2 hi
   have hlt:k<c.length:=by omega
   obtain⟨y,hy⟩:=bK hlt
   obtain⟨r,hr,hcase⟩:=of_ok h (hc y (bQ hy)).1 (hc y (bQ hy)).2 hn (tr:=tr) (hd:=hd) (W:=W) (fl:=fl)
   by_cases hneg: -y∈trail
   ·have er:r= -1:=by
     rcases hcase with⟨_,e⟩|⟨e,_⟩|⟨_,_,_,e⟩
     ·exact(h.opp e hneg).elim
     ·exact e
     exact absurd hneg e
    subst er
    obtain⟨b,hb,h3⟩:=ih (k+1) (by omega) (by omega) (fun j z hj2 hj hz=>by
     by_cases e:j=k
     ·subst e;rw[hy] at hz;exact Option.some.inj hz▸hneg
     exact hi j z hj2 (by omega) hz)
    refine⟨b,?_,h3⟩
    rw[gJ (s':=((k+1:Nat):Int)) ?_]
    ·exact hb
    simp only[fQ,ltB hlt,if_true,dA hy,bsm,hr,jA hlt (show c.length≤9223372036854775807 by omega)]
    rfl
   have er:¬r<0:=by
    rcases hcase with⟨e,_⟩|⟨_,e⟩|⟨e,_⟩
    ·omega
    ·exact absurd e hneg
    omega
   refine⟨k,eF ?_,h2,by omega,hi,fun z hz=>by rw[hy] at hz;exact Option.some.inj hz▸hneg⟩
   simp only[fQ,ltB hlt,if_true,dA hy,bsm,hr,er,decide_false,if_false,Bool.false_eq_true]
 have:=key (c.length-2) 2 (by omega) (Nat.le_refl _) (fun j y h1 h2=>by omega)
 simpa using this
end
end Go.Proofs.Ytpkhmndpeipfmaa

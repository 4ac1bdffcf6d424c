/- Short words for the steps of walks: some operations at once. Plain theorems over any program. -/
import Derived.Test.YtopnldfjcciieaaGreatKCo1
import Derived.Test.YtopnldfjcciieaaGreatKCo2
import Derived.Test.YtopnldfjcciieaaGreatKCo3
import Derived.Test.YtopnldfjcciieaaGreatKCo4
set_option linter.unusedVariables false
set_option linter.unusedSimpArgs false
namespace Go.Proofs.YtopnldfjcciieaaGreat
open Go.RowKit
abbrev Iv (n:Int):Value:= .int .i64 n
abbrev Pv (b o:Nat):Value:= .pointer (some ⟨b,o,none⟩)
abbrev N0:Value:= .slice none 0 0
abbrev WD:Type:=List (List Nat)×List (List Int)
theorem oj {α:Type} {a b:α} (h:some a=some b):a=b:=Option.some.inj h
def okd (o:Oper) (N:Nat):Option Nat:=match o.guard,o.dst with
 |none,some d=>bif Nat.blt d N then some d else none
 |_,_=>none
theorem okd_ {o:Oper} {N d:Nat} (h:okd o N=some d):o.guard=none∧o.dst=some d∧Nat.blt d N=true:=by
 unfold okd at h
 split at h
 ·rename_i d' h1 h2
  cases hb:Nat.blt d' N with
  |false=>rw[hb] at h;cases h
  |true=>rw[hb] at h;cases h;exact⟨h1,h2,hb⟩
 cases h
def siv (E:Ent):Op→Option Value
 | .move x=>evo E x
 | .assign x=>evo E x
 | .nilCheck x=>match evo E x with|some (.pointer (some p))=>some (.pointer (some p))|_=>none
 | .unOp .not _ x=>match evo E x with|some (.bool b)=>some (.bool (!b))|_=>none
 | .binOp .lss _ x y _=>match evo E x,evo E y with|some (.int k m),some (.int k' n)=>if k=k' then some (.bool (decide (m<n))) else none|_,_=>none
 | .binOp .leq _ x y _=>match evo E x,evo E y with|some (.int k m),some (.int k' n)=>if k=k' then some (.bool (decide (m≤n))) else none|_,_=>none
 | .binOp .gtr _ x y _=>match evo E x,evo E y with|some (.int k m),some (.int k' n)=>if k=k' then some (.bool (decide (n<m))) else none|_,_=>none
 | .binOp .geq _ x y _=>match evo E x,evo E y with|some (.int k m),some (.int k' n)=>if k=k' then some (.bool (decide (n≤m))) else none|_,_=>none
 | .binOp .eql _ x y _=>match evo E x,evo E y with|some (.int k m),some (.int k' n)=>if k=k' then some (.bool (decide (m=n))) else none|_,_=>none
 | .binOp .neq _ x y _=>match evo E x,evo E y with|some (.int k m),some (.int k' n)=>if k=k' then some (.bool (!decide (m=n))) else none|_,_=>none
 | .extract x i=>match evo E x with|some (.tuple vs)=>vs[i]?|_=>none
 |_=>none
section
variable {P:Program} {C:World→Prop} {Rn:Option Nat} {ops:Array Oper} {Q:Exit→Act→World→Prop} {rest l:List Oper} {o:Oper} {a:Act} {w:World} {Df:List Deferred} {N:Nat} {E E':Ent} {d:Nat} {v:Value}
theorem siv_ (S:EnvD Df N E a) (h:siv E o.op=some v):Ex P C a o v:=by
 generalize R:o.op=op at h
 unfold siv at h
 split at h
 ·exact iJ R S h
 ·exact ex_asn R S h
 ·split at h
  ·rename_i e;cases h;exact ex_nil R S e
  cases h
 ·split at h
  ·rename_i e;cases h;exact ex_not R S e
  cases h
 ·split at h
  ·rename_i e1 e2
   split at h
   ·rename_i e;subst e;cases h;exact ex_lss R S e1 e2
   cases h
  cases h
 ·split at h
  ·rename_i e1 e2
   split at h
   ·rename_i e;subst e;cases h;exact ex_leq R S e1 e2
   cases h
  cases h
 ·split at h
  ·rename_i e1 e2
   split at h
   ·rename_i e;subst e;cases h;exact ex_gtr R S e1 e2
   cases h
  cases h
 ·split at h
  ·rename_i e1 e2
   split at h
   ·rename_i e;subst e;cases h;exact ex_geq R S e1 e2
   cases h
  cases h
 ·split at h
  ·rename_i e1 e2
   split at h
   ·rename_i e;subst e;cases h;exact ex_eql R S e1 e2
   cases h
  cases h
 ·split at h
  ·rename_i e1 e2
   split at h
   ·rename_i e;subst e;cases h;exact ex_neq R S e1 e2
   cases h
  cases h
 ·split at h
  ·rename_i e;exact ex_extract R S e h
  cases h
 cases h
def stp (N:Nat):Nat→List Oper→Ent→Option (List Oper×Ent)
 |0,l,E=>some (l,E)
 |n+1,o::l,E=>match okd o N,siv E o.op with|some d,some v=>stp N n l ((d,v)::E)|_,_=>none
 |_+1,[],_=>none
theorem stp_ {n:Nat} {o:Oper} (h:stp N (n+1) (o::l) E=some (rest,E')):∃d v,okd o N=some d∧siv E o.op=some v∧stp N n l ((d,v)::E)=some (rest,E'):=by
 unfold stp at h
 split at h
 ·rename_i d v h1 h2;exact⟨d,v,h1,h2,h⟩
 cases h
theorem S (R:EnvD Df N E a) (n:Nat) (h:stp N n l E=some (rest,E')) (K:∀a,EnvD Df N E' a→wpL Rn P ops Q rest a w):wpL Rn P ops Q l a w:=by
 induction n generalizing l E a with
 |zero=>unfold stp at h;cases h;exact K a R
 |succ n ih=>
  cases l with
  |nil=>simp[stp] at h
  |cons o l=>
   obtain⟨d,v,h1,h2,h3⟩:=stp_ h
   obtain⟨g1,g2,g3⟩:=okd_ h1
   exact s_val (C:=fun _=>True) (wk0 g1) g2 g3 R trivial (siv_ R h2) fun a' hE'=>ih hE' h3
theorem Sq {Q:Act→Prop} (R:EnvD Df N E a) (n:Nat) (h:stp N n l E=some (rest,E')) (K:∀a,EnvD Df N E' a→wpQuiet P ops C Q rest a):wpQuiet P ops C Q l a:=by
 induction n generalizing l E a with
 |zero=>unfold stp at h;cases h;exact K a R
 |succ n ih=>
  cases l with
  |nil=>simp[stp] at h
  |cons o l=>
   obtain⟨d,v,h1,h2,h3⟩:=stp_ h
   obtain⟨g1,g2,g3⟩:=okd_ h1
   exact q_val (wk0 g1) g2 g3 R (siv_ R h2) fun a' hE'=>ih hE' h3
theorem V (S:EnvD Df N E a) (hC:C w) (hk:okd o N=some d) (R:Ex P C a o v) (K:∀a,EnvD Df N ((d,v)::E) a→wpL Rn P ops Q rest a w):wpL Rn P ops Q (o::rest) a w:=
 s_val (wk0 (okd_ hk).1) (okd_ hk).2.1 (okd_ hk).2.2 S hC R K
theorem Vq {Q:Act→Prop} (S:EnvD Df N E a) (hk:okd o N=some d) (R:Ex P C a o v) (K:∀a,EnvD Df N ((d,v)::E) a→wpQuiet P ops C Q rest a):wpQuiet P ops C Q (o::rest) a:=
 q_val (wk0 (okd_ hk).1) (okd_ hk).2.1 (okd_ hk).2.2 S R K
theorem pk1 (R:EnvD Df N E a) {b:Bool} (hb:b=true) (hk:okd o N=some d) {c x y:Operand} (T:o.op= .pick c x y) (e:evo E c=some (.bool b)) (S:evo E x=some v) (K:∀a,EnvD Df N ((d,v)::E) a→wpL Rn P ops Q rest a w):wpL Rn P ops Q (o::rest) a w:=
 V (C:=fun _=>True) R trivial hk (jG T R e hb S) K
theorem pk0 (R:EnvD Df N E a) {b:Bool} (hb:b=false) (hk:okd o N=some d) {c x y:Operand} (T:o.op= .pick c x y) (e:evo E c=some (.bool b)) (S:evo E y=some v) (K:∀a,EnvD Df N ((d,v)::E) a→wpL Rn P ops Q rest a w):wpL Rn P ops Q (o::rest) a w:=
 V (C:=fun _=>True) R trivial hk (iR T R e hb S) K
def gok (ops:Array Oper) (o:Oper) (N:Nat) (E:Ent):Option (Nat×Bool×Bool):=match o.guard,o.dst with
 |some (j,b),some d=>bif Nat.blt d N then(match (ops[j]?).bind (·.dst) with|some e=>(match lk E e with|some (.bool c)=>some (d,c,b)|_=>none)|none=>none) else none
 |_,_=>none
theorem gok_ {b c:Bool} (h:gok ops o N E=some (d,c,b)):∃j e,o.guard=some (j,b)∧o.dst=some d∧Nat.blt d N=true∧(ops[j]?).bind (·.dst)=some e∧lk E e=some (.bool c):=by
 unfold gok at h
 split at h
 ·rename_i j b' d' h1 h2
  cases hb:Nat.blt d' N with
  |false=>rw[hb] at h;cases h
  |true=>
   rw[hb] at h
   simp only[cond_true] at h
   split at h
   ·rename_i e he
    split at h
    ·rename_i c' R;cases h;exact⟨j,e,h1,h2,hb,he,R⟩
    cases h
   cases h
 cases h
theorem G (R:EnvD Df N E a) (hC:C w) {b c:Bool} (T:c=b) (hk:gok ops o N E=some (d,c,b)) (S:Ex P C a o v) (K:∀a,EnvD Df N ((d,v)::E) a→wpL Rn P ops Q rest a w):wpL Rn P ops Q (o::rest) a w:=by
 obtain⟨j,e,h1,h2,h3,h4,h5⟩:=gok_ hk
 exact s_val (wk1 R h1 h4 h5 T) h2 h3 R hC S K
theorem Gs (R:EnvD Df N E a) {b c:Bool} (T:c=b) (hk:gok ops o N E=some (d,c,b)) (S:siv E o.op=some v) (K:∀a,EnvD Df N ((d,v)::E) a→wpL Rn P ops Q rest a w):wpL Rn P ops Q (o::rest) a w:=
 G (C:=fun _=>True) R trivial T hk (siv_ R S) K
theorem Gk (R:EnvD Df N E a) {b c:Bool} (S:c= !b) (hk:gok ops o N E=some (d,c,b)) (K:∀a,EnvD Df N ((d,undef)::E) a→wpL Rn P ops Q rest a w):wpL Rn P ops Q (o::rest) a w:=by
 obtain⟨j,e,h1,h2,h3,h4,h5⟩:=gok_ hk
 exact oL (wk2 R h1 h4 h5 S) h2 h3 R K
theorem Gq {Q:Act→Prop} (R:EnvD Df N E a) {b c:Bool} (T:c=b) (hk:gok ops o N E=some (d,c,b)) (S:Ex P C a o v) (K:∀a,EnvD Df N ((d,v)::E) a→wpQuiet P ops C Q rest a):wpQuiet P ops C Q (o::rest) a:=by
 obtain⟨j,e,h1,h2,h3,h4,h5⟩:=gok_ hk
 exact q_val (wk1 R h1 h4 h5 T) h2 h3 R S K
theorem Gkq {Q:Act→Prop} (R:EnvD Df N E a) {b c:Bool} (S:c= !b) (hk:gok ops o N E=some (d,c,b)) (K:∀a,EnvD Df N ((d,undef)::E) a→wpQuiet P ops C Q rest a):wpQuiet P ops C Q (o::rest) a:=by
 obtain⟨j,e,h1,h2,h3,h4,h5⟩:=gok_ hk
 exact q_skip (wk2 R h1 h4 h5 S) h2 h3 R K
theorem Cl (S:EnvD Df N E a) (hk:okd o N=some d) {f:FuncId} {xs:List Operand} {ts:Array TypeId} (b:o.op= .call {callee:= .value (.func f),args:=xs.toArray,argTypes:=ts})
  (he:∀args w,(callFunc f args).run P w= .ok (.enter f args) w) {vs:List Value} {R:Value→World→Prop} (c:Calls P f vs.toArray w (Ret R)) (T:evA E xs vs) (K:∀v a w,R v w→EnvD Df N ((d,v)::E) a→wpL Rn P ops Q rest a w):wpL Rn P ops Q (o::rest) a w:=
 s_call (wk0 (okd_ hk).1) (okd_ hk).2.1 (okd_ hk).2.2 S b vs T he c Ret.ret fun v a w e S=>K v a w (Ret.of e) S
theorem Cg (S:EnvD Df N E a) {b c:Bool} (hcc:c=b) (hk:gok ops o N E=some (d,c,b)) {f:FuncId} {xs:List Operand} {ts:Array TypeId} (g:o.op= .call {callee:= .value (.func f),args:=xs.toArray,argTypes:=ts})
  (he:∀args w,(callFunc f args).run P w= .ok (.enter f args) w) {vs:List Value} {R:Value→World→Prop} (h:Calls P f vs.toArray w (Ret R)) (T:evA E xs vs) (K:∀v a w,R v w→EnvD Df N ((d,v)::E) a→wpL Rn P ops Q rest a w):wpL Rn P ops Q (o::rest) a w:=by
 obtain⟨j,e,h1,h2,h3,h4,h5⟩:=gok_ hk
 exact s_call (wk1 S h1 h4 h5 hcc) h2 h3 S g vs T he h Ret.ret fun v a w i S=>K v a w (Ret.of i) S
variable {Z:World} {ρ:PH} {L:List bP} {A:bP}
theorem xf (T:EnvD Df N E a) {t:TypeId} {f n:Nat} (ht:nY P t f n) {x:Operand} (S:o.op= .fieldAddr t x f) {b k:Nat} (R:evo E x=some (.pointer (some ⟨b,k,none⟩))):Ex P C a o (.pointer (some ⟨b,k+n,none⟩)):=dE S T R (ht _ _)
theorem xl (g:EnvD Df N E a) {t:TypeId} (ht:VarTy P t false 1) (i:Nat) {b:Nat} {cs:Array Value} {T:TypeId} {fz:Nat×Nat} (e:L[i]?=some (Pt b (.cells cs T fz))) {x:Operand} (f:o.op= .load t x) {j:Nat} (R:evo E x=some (.pointer (some ⟨b,j,none⟩))) (hu:cs[j]?=some v):Ex P (Hp Z ρ L) a o v:=
 aK f g R fun w S=>bF ht (Hp.c i e j hu w S)
variable {J:Act→World→Prop} {fuel:Nat} {listed:Array Bool} {F:Facts}
def vck (ops:Array Oper) (listed:Array Bool) (F:Facts) (G:List Nat) (i:Nat):Bool:=Region.noSelect ops&&Region.free .any ops listed i&&(Region.ready .any ops listed).contains i&&(waits .any ops G i&&alive G listed&&U2 F i)
theorem X4 {G:List Nat} {i:Nat} (h:vck ops listed F G i=true):Region.noSelect ops=true∧Region.free .any ops listed i=true∧(Region.ready .any ops listed).contains i=true∧(waits .any ops G i&&alive G listed&&U2 F i)=true:=by
 unfold vck at h
 rw[Bool.and_eq_true,Bool.and_eq_true,Bool.and_eq_true] at h
 exact⟨h.1.1.1,h.1.1.2,h.1.2,h.2⟩
theorem T (i n:Nat) (b:EnvD Df N E a) (S:invV F listed w) {G:List Nat} (hn:F[n]?=some (G,At1 Z ρ A)) (hi:ops[i]?=some o) (hk:okd o N=some d) (hv:vck ops listed F G i=true) (R:∀L,Ex P (Hp Z ρ (A::L)) a o v)
  (K:∀a,EnvD Df N ((d,v)::E) a→invV F (listed.setIfInBounds i true) w→mF P .any ops (QJ J) F fuel (listed.setIfInBounds i true) a w):mF P .any ops (QJ J) F (fuel+1) listed a w:=
 v_take1 i n (wk0 (okd_ hk).1) hi (okd_ hk).2.1 (okd_ hk).2.2 b (X4 hv).1 (X4 hv).2.1 (X4 hv).2.2.1 hn (X4 hv).2.2.2 S R K
theorem T0 (i:Nat) (T:EnvD Df N E a) (S:invV F listed w) (hn:F[0]?=some ([],At0 Z ρ)) (hi:ops[i]?=some o) (hk:okd o N=some d) (hv:vck ops listed F [] i=true) (R:∀L,Ex P (Hp Z ρ L) a o v)
  (K:∀a,EnvD Df N ((d,v)::E) a→invV F (listed.setIfInBounds i true) w→mF P .any ops (QJ J) F fuel (listed.setIfInBounds i true) a w):mF P .any ops (QJ J) F (fuel+1) listed a w:=
 v_take0 i (wk0 (okd_ hk).1) hi (okd_ hk).2.1 (okd_ hk).2.2 T (X4 hv).1 (X4 hv).2.1 (X4 hv).2.2.1 hn (X4 hv).2.2.2 S R K
theorem Tg (i n:Nat) (R:EnvD Df N E a) {b c:Bool} (T:c=b) (f:invV F listed w) {G:List Nat} (hn:F[n]?=some (G,At1 Z ρ A)) (hi:ops[i]?=some o) (hk:gok ops o N E=some (d,c,b)) (hv:vck ops listed F G i=true) (S:∀L,Ex P (Hp Z ρ (A::L)) a o v)
  (K:∀a,EnvD Df N ((d,v)::E) a→invV F (listed.setIfInBounds i true) w→mF P .any ops (QJ J) F fuel (listed.setIfInBounds i true) a w):mF P .any ops (QJ J) F (fuel+1) listed a w:=by
 obtain⟨j,e,h1,h2,h3,h4,h5⟩:=gok_ hk
 exact v_take1 i n (wk1 R h1 h4 h5 T) hi h2 h3 R (X4 hv).1 (X4 hv).2.1 (X4 hv).2.2.1 hn (X4 hv).2.2.2 f S K
theorem Tg0 (i:Nat) (R:EnvD Df N E a) {b c:Bool} (T:c=b) (f:invV F listed w) (hn:F[0]?=some ([],At0 Z ρ)) (hi:ops[i]?=some o) (hk:gok ops o N E=some (d,c,b)) (hv:vck ops listed F [] i=true) (S:∀L,Ex P (Hp Z ρ L) a o v)
  (K:∀a,EnvD Df N ((d,v)::E) a→invV F (listed.setIfInBounds i true) w→mF P .any ops (QJ J) F fuel (listed.setIfInBounds i true) a w):mF P .any ops (QJ J) F (fuel+1) listed a w:=by
 obtain⟨j,e,h1,h2,h3,h4,h5⟩:=gok_ hk
 exact v_take0 i (wk1 R h1 h4 h5 T) hi h2 h3 R (X4 hv).1 (X4 hv).2.1 (X4 hv).2.2.1 hn (X4 hv).2.2.2 f S K
theorem Tk (i:Nat) (R:EnvD Df N E a) {b c:Bool} (S:c= !b) (T:invV F listed w) (hn:F[0]?=some ([],At0 Z ρ)) (hi:ops[i]?=some o) (hk:gok ops o N E=some (d,c,b)) (hv:vck ops listed F [] i=true)
  (K:∀a,EnvD Df N ((d,undef)::E) a→invV F (listed.setIfInBounds i true) w→mF P .any ops (QJ J) F fuel (listed.setIfInBounds i true) a w):mF P .any ops (QJ J) F (fuel+1) listed a w:=by
 obtain⟨j,e,h1,h2,h3,h4,h5⟩:=gok_ hk
 have h6:=(X4 hv).2.2.2
 rw[Bool.and_eq_true] at h6
 exact v_skip i (wk2 R h1 h4 h5 S) hi h2 h3 R (X4 hv).1 (X4 hv).2.1 (X4 hv).2.2.1 hn h6.2 T K
def up:List Nat→Nat→Nat
 | [],f=>f
 |_::is,f=>up is f+1
def lst:List Nat→Array Bool→Array Bool
 | [],l=>l
 |i::is,l=>lst is (l.setIfInBounds i true)
def vcks (ops:Array Oper) (F:Facts):List Nat→Array Bool→Bool
 | [],_=>true
 |i::is,l=>vck ops l F [] i&&vcks ops F is (l.setIfInBounds i true)
def stv (ops:Array Oper) (N:Nat):List Nat→Ent→Option Ent
 | [],E=>some E
 |i::is,E=>match ops[i]? with|some o=>(match okd o N,siv E o.op with|some d,some v=>stv ops N is ((d,v)::E)|_,_=>none)|none=>none
theorem Ts (is:List Nat) (R:EnvD Df N E a) (S:invV F listed w) (hn:F[0]?=some ([],At0 Z ρ)) (h:stv ops N is E=some E') (hv:vcks ops F is listed=true)
  (K:∀a,EnvD Df N E' a→invV F (lst is listed) w→mF P .any ops (QJ J) F fuel (lst is listed) a w):mF P .any ops (QJ J) F (up is fuel) listed a w:=by
 induction is generalizing listed E a with
 |nil=>unfold stv at h;cases h;exact K a R S
 |cons i is ih=>
  unfold stv at h
  unfold vcks at hv
  rw[Bool.and_eq_true] at hv
  split at h
  ·rename_i o T
   split at h
   ·rename_i d v h1 h2
    exact T0 i R S hn T h1 hv.1 (fun L=>siv_ R h2) fun a' hE' hS'=>ih hE' hS' h hv.2 K
   cases h
  cases h
theorem W1 (i:Nat) (hr:Region.ready .any ops listed=[i]) (hi:ops[i]?=some o) (h:wpL none P ops (fun e a w=>match e with| .normal=>invV F (listed.setIfInBounds i true) w∧mF P .any ops (QJ J) F fuel (listed.setIfInBounds i true) a w|e=>QJ J e a w) [o] a w):mF P .any ops (QJ J) F (fuel+1) listed a w:=
 dY [i] hr O (uE.2 ⟨bW hi h,fun _ h=>absurd h (by simp)⟩)
theorem gp (i:Nat) (R:Hp Z ρ L w) (h:L[i]?=some A) {p:Prop}:p→At1 Z ρ A w:=fun _=>⟨_,R.get i h⟩
theorem gp0 (R:Hp Z ρ L w) {p:Prop}:p→At0 Z ρ w:=fun _=>⟨_,R⟩
end
section
variable {Z:World} {ρ:PH} {L:List bP} {A B C D E F G H I J K M N O U V W X Y:bP} {w:World}
theorem r0 (h:Hp Z ρ (L) w):Hp Z ρ (L) w:=h
theorem r1 (h:Hp Z ρ (A::L) w):Hp Z ρ (A::L) w:=h
theorem r2 (h:Hp Z ρ (A::B::L) w):Hp Z ρ (A::B::L) w:=h
theorem r3 (h:Hp Z ρ (A::B::C::L) w):Hp Z ρ (A::B::C::L) w:=h
theorem r4 (h:Hp Z ρ (A::B::C::D::L) w):Hp Z ρ (A::B::C::D::L) w:=h
theorem r5 (h:Hp Z ρ (A::B::C::D::E::L) w):Hp Z ρ (A::B::C::D::E::L) w:=h
theorem r6 (h:Hp Z ρ (A::B::C::D::E::F::L) w):Hp Z ρ (A::B::C::D::E::F::L) w:=h
theorem r7 (h:Hp Z ρ (A::B::C::D::E::F::G::L) w):Hp Z ρ (A::B::C::D::E::F::G::L) w:=h
theorem r8 (h:Hp Z ρ (A::B::C::D::E::F::G::H::L) w):Hp Z ρ (A::B::C::D::E::F::G::H::L) w:=h
theorem r9 (h:Hp Z ρ (A::B::C::D::E::F::G::H::I::L) w):Hp Z ρ (A::B::C::D::E::F::G::H::I::L) w:=h
theorem r10 (h:Hp Z ρ (A::B::C::D::E::F::G::H::I::J::L) w):Hp Z ρ (A::B::C::D::E::F::G::H::I::J::L) w:=h
theorem r11 (h:Hp Z ρ (A::B::C::D::E::F::G::H::I::J::K::L) w):Hp Z ρ (A::B::C::D::E::F::G::H::I::J::K::L) w:=h
theorem r12 (h:Hp Z ρ (A::B::C::D::E::F::G::H::I::J::K::M::L) w):Hp Z ρ (A::B::C::D::E::F::G::H::I::J::K::M::L) w:=h
theorem r13 (h:Hp Z ρ (A::B::C::D::E::F::G::H::I::J::K::M::N::L) w):Hp Z ρ (A::B::C::D::E::F::G::H::I::J::K::M::N::L) w:=h
theorem r14 (h:Hp Z ρ (A::B::C::D::E::F::G::H::I::J::K::M::N::O::L) w):Hp Z ρ (A::B::C::D::E::F::G::H::I::J::K::M::N::O::L) w:=h
theorem r15 (h:Hp Z ρ (A::B::C::D::E::F::G::H::I::J::K::M::N::O::U::L) w):Hp Z ρ (A::B::C::D::E::F::G::H::I::J::K::M::N::O::U::L) w:=h
theorem r16 (h:Hp Z ρ (A::B::C::D::E::F::G::H::I::J::K::M::N::O::U::V::L) w):Hp Z ρ (A::B::C::D::E::F::G::H::I::J::K::M::N::O::U::V::L) w:=h
theorem r17 (h:Hp Z ρ (A::B::C::D::E::F::G::H::I::J::K::M::N::O::U::V::W::L) w):Hp Z ρ (A::B::C::D::E::F::G::H::I::J::K::M::N::O::U::V::W::L) w:=h
theorem r18 (h:Hp Z ρ (A::B::C::D::E::F::G::H::I::J::K::M::N::O::U::V::W::X::L) w):Hp Z ρ (A::B::C::D::E::F::G::H::I::J::K::M::N::O::U::V::W::X::L) w:=h
theorem r19 (h:Hp Z ρ (A::B::C::D::E::F::G::H::I::J::K::M::N::O::U::V::W::X::Y::L) w):Hp Z ρ (A::B::C::D::E::F::G::H::I::J::K::M::N::O::U::V::W::X::Y::L) w:=h
end
end Go.Proofs.YtopnldfjcciieaaGreat

/- The code goes as its model: assessor/assessorlaw28.SolverDecides. (Printed by wip/sp/gen.py.) -/
import Derived.Test.YtpkhmndpeipfmaaKDeT
import Derived.Test.YtpkhmndpeipfmaaKDe6
import Derived.Test.YtpkhmndpeipfmaaKDe20
import Derived.Test.YtpkhmndpeipfmaaKDe3
import Derived.Test.YtpkhmndpeipfmaaKDe2
import Derived.Test.YtpkhmndpeipfmaaKDe4
import Derived.Lib.ItoaNum
import Derived.Test.YtpkhmndpeipfmaaKDe5
set_option linter.unusedVariables false
set_option linter.unusedSimpArgs false
namespace Go.Proofs.Ytpkhmndpeipfmaa
open Go.RowKit
set_option maxRecDepth 100000 in
set_option maxHeartbeats 4000000 in
theorem c_assessorlaw28_SolverDecides {Z:World} {ρ:PH} {L:List bW} {w:World} (p0:Formula) (aG:Value) (bI:bT ρ aG p0.clauses) (p1:(List Int)) (vp1:Value) (hp1:bT ρ vp1 p1) (hp:Hp Z ρ (L) w) (r:Bool) (hm:kE p0 p1=some r):
  Calls Try.prog 4 #[(.agg #[(.int .i64 p0.vars),aG]),vp1] w (Ret fun v w'=>v=(.bool r)∧Hp Z ρ (L) w'):=by
 refine enter (N:=54) Try.func4 rfl rfl [(0,(.agg #[(.int .i64 p0.vars),aG])),(1,vp1)] rfl (bM ⟨rfl,rfl,trivial⟩) fun a hE=>?_
 unfold kE at hm
 refine aH (aB ?_)
 refine rC (wk0 rfl) rfl rfl hE hp rfl (v:=(.agg #[(.int .i64 p0.vars),aG])) rfl ?_
 intro a w b1 hE hp
 have hp:=r1 hp
 refine S hE 1 rfl fun a hE=>aC (aH ?_)
 refine aH (aB ?_)
 obtain⟨x1,ex1,hm⟩:=bnd hm
 refine s_call (wk0 rfl) rfl rfl hE rfl [] trivial ent10 (J7 hp x1 ex1) Ret.ret ?_
 intro v a w hR hE
 obtain⟨rfl,hp⟩:=Ret.of hR
 have hp:=r1 hp
 refine S hE 1 rfl fun a hE=>aC ?_
 refine dO hE rfl (fun hc1=>?_) (fun hc1=>?_)
 ·replace hm:=(it hc1).symm.trans hm
  refine aH (aB ?_)
  refine S hE 1 rfl fun a hE=>aC (dE ?_)
  obtain rfl:=Option.some.inj hm
  exact iM hE rfl rfl ⟨_,rfl,rfl,(hp.drop)⟩
 replace hm:=(ie hc1).symm.trans hm
 refine bQ (aH ?_)
 refine aH (aB ?_)
 refine V hE hp rfl (bC rfl hE rfl (fun w hw=>iK (cs:=[(.int .i64 p0.vars),aG]) iQ (Hp.cN 0 rfl 0 _ (bZ rfl) w hw))) fun a hE=>?_
 obtain⟨x2,ex2,hm⟩:=bnd hm
 refine s_call (wk0 rfl) rfl rfl hE rfl [(.agg #[(.int .i64 p0.vars),aG]),(.int .i64 10),(.int .i64 40)] ⟨rfl,rfl,rfl,trivial⟩ ent11 (J9 p0 aG bI 10 40 hp x2 ex2) Ret.ret ?_
 intro v a w hR hE
 obtain⟨rfl,hp⟩:=Ret.of hR
 have hp:=r1 hp
 refine S hE 2 rfl fun a hE=>?_
 obtain⟨m1,hg1,hm⟩:=bnd hm
 refine kT [_,_,_,_,_] (fun a w=>Env 54 [(19,(.bool m1)),(1,vp1),(2,(.pointer (some ⟨b1,0,none⟩)))] a∧Hp Z ρ (Pt b1 (.cells #[(.int .i64 p0.vars),aG] 24 (0,0))::L) w) ?_ ?_
 ·rcases Bool.eq_false_or_eq_true (!x2) with hc2|hc2
  ·
   replace hg1:=(it hc2).symm.trans hg1
   refine Gk hE hc2 rfl fun a hE=>Gk hE hc2 rfl fun a hE=>Gk hE hc2 rfl fun a hE=>Gk hE hc2 rfl fun a hE=>pk1 hE hc2 rfl rfl rfl rfl fun a hE=>?_
   obtain rfl:=Option.some.inj hg1
   exact aC ⟨hE.cut ⟨rfl,rfl,rfl,trivial⟩,hp⟩
  replace hg1:=(ie hc2).symm.trans hg1
  refine G hE hp hc2 rfl (bC rfl hE rfl (fun w hw=>iK (cs:=[(.int .i64 p0.vars),aG]) iQ (Hp.cN 0 rfl 0 _ (bZ rfl) w hw))) fun a hE=>Gs hE hc2 rfl rfl fun a hE=>?_
  obtain⟨x3,ex3,hg1⟩:=bnd hg1
  refine s_call (wk1 hE rfl rfl rfl hc2) rfl rfl hE rfl [(.agg #[(.int .i64 p0.vars),aG]),vp1,(.int .i64 0)] ⟨rfl,rfl,rfl,trivial⟩ ent13 (O3 p0 aG bI p1 vp1 hp1 0 hp x3 ex3) Ret.ret ?_
  intro v a w hR hE
  obtain⟨rfl,hp⟩:=Ret.of hR
  have hp:=r1 hp
  refine Gs hE hc2 rfl rfl fun a hE=>pk0 hE hc2 rfl rfl rfl rfl fun a hE=>?_
  obtain rfl:=Option.some.inj hg1
  exact aC ⟨hE.cut ⟨rfl,rfl,rfl,trivial⟩,hp⟩
 rintro a w ⟨hE,hp⟩
 refine S hE 1 rfl fun a hE=>?_
 refine kT [_,_,_,_] (fun a w=>Env 54 [(24,(.bool (m1||(decide (10<(p1.length:Int)))))),(1,vp1),(2,(.pointer (some ⟨b1,0,none⟩)))] a∧Hp Z ρ (Pt b1 (.cells #[(.int .i64 p0.vars),aG] 24 (0,0))::L) w) ?_ ?_
 ·rcases Bool.eq_false_or_eq_true m1 with hc3|hc3
  ·
   refine Gk hE hc3 rfl fun a hE=>Gk hE hc3 rfl fun a hE=>Gk hE hc3 rfl fun a hE=>pk1 hE hc3 rfl rfl rfl rfl fun a hE=>?_
   have hE:=hE.eqv (v':=(.bool (m1||(decide (10<(p1.length:Int)))))) (by rw[hc3];rfl)
   exact aC ⟨hE.cut ⟨rfl,rfl,rfl,trivial⟩,hp⟩
  refine Gs hE hc3 rfl rfl fun a hE=>G hE hp hc3 rfl (dK rfl hE rfl (bT.len hp1 aZ)) fun a hE=>Gs hE hc3 rfl rfl fun a hE=>pk0 hE hc3 rfl rfl rfl rfl fun a hE=>?_
  have hE:=hE.eqv (v':=(.bool (m1||(decide (10<(p1.length:Int)))))) (by rw[hc3];rfl)
  exact aC ⟨hE.cut ⟨rfl,rfl,rfl,trivial⟩,hp⟩
 rintro a w ⟨hE,hp⟩
 refine aC ?_
 refine dO hE rfl (fun hc4=>?_) (fun hc4=>?_)
 ·replace hm:=(it hc4).symm.trans hm
  refine aH (aB ?_)
  refine S hE 1 rfl fun a hE=>aC (dE ?_)
  obtain rfl:=Option.some.inj hm
  exact iM hE rfl rfl ⟨_,rfl,rfl,(hp.drop)⟩
 replace hm:=(ie hc4).symm.trans hm
 refine bQ (aH ?_)
 refine aB (V hE hp rfl (bC rfl hE rfl (fun w hw=>iK (cs:=[(.int .i64 p0.vars),aG]) iQ (Hp.cN 0 rfl 0 _ (bZ rfl) w hw))) fun a hE=>?_)
 refine S hE 1 rfl fun a hE=>?_
 obtain⟨x4,ex4,hm⟩:=bnd hm
 refine s_call (wk0 rfl) rfl rfl hE rfl [(.agg #[(.int .i64 p0.vars),aG]),vp1,(.int .i64 65536)] ⟨rfl,rfl,rfl,trivial⟩ ent12 (xR p0 aG bI p1 vp1 hp1 65536 hp x4 ex4) Ret.ret ?_
 intro v a w hR hE
 obtain⟨zT,zU,usr4_proof,rfl,hp⟩:=Ret.of hR
 have hp:=r3 hp
 refine S hE 3 rfl fun a hE=>?_
 refine rD (wk0 rfl) rfl rfl hE hp rfl [(.int .i64 0),(.slice none 0 0),(.slice none 0 0),(.int .i64 0)] (fun w=>by simp[Instr.alloc,go_sem]<;>rfl) ?_
 intro a w b2 hE hp
 have hp:=r4 hp
 refine dR (wk0 rfl) rfl hE hp rfl rfl rfl 0 rfl fB.size_ rfl (bY ⟨rfl,(aA.one hp 1 rfl),(bV.one hp 2 rfl),rfl,trivial⟩) [(.int .i64 x4.1.kind),zT,zU,(.int .i64 x4.1.conflicts)] rfl ?_
 intro w hp
 have hp:=r4 hp
 refine S hE 1 rfl fun a hE=>aC (aH ?_)
 refine aB (V hE hp rfl (bC rfl hE rfl (fun w hw=>iK (cs:=[(.int .i64 p0.vars),aG]) iQ (Hp.cN 3 rfl 0 _ (bZ rfl) w hw))) fun a hE=>?_)
 refine S hE 1 rfl fun a hE=>?_
 obtain⟨x5,ex5,hm⟩:=bnd hm
 refine s_call (wk0 rfl) rfl rfl hE rfl [(.agg #[(.int .i64 p0.vars),aG]),vp1,(.slice none 0 0)] ⟨rfl,rfl,rfl,trivial⟩ ent16 (O1 p0 aG bI p1 vp1 hp1 [] (.slice none 0 0) (bT.nil _) hp x5 ex5) Ret.ret ?_
 intro v a w hR hE
 obtain⟨vr6,rfl,hp⟩:=Ret.of hR
 have hp:=r5 hp
 refine S hE 5 rfl fun a hE=>aC (aH ?_)
 refine aB (S hE 3 rfl fun a hE=>?_)
 refine kT [_,_,_,_,_,_] (fun a w=>Env 54 [(45,(.bool ((decide (x4.2=0))&&((decide (x4.1.kind=0))==x5.2)))),(5,(.pointer (some ⟨b2,0,none⟩))),(8,(.bool x5.2))] a∧Hp Z ρ (aA 3 vr6 x5.1::Pt b2 (.cells #[(.int .i64 x4.1.kind),zT,zU,(.int .i64 x4.1.conflicts)] 29 (0,0))::aA 3 zT x4.1.model::bV 25 3 zU usr4_proof (x4.1.proof:(List (List Int)))::Pt b1 (.cells #[(.int .i64 p0.vars),aG] 24 (0,0))::L) w) ?_ ?_
 ·rcases Bool.eq_false_or_eq_true (decide (x4.2=0)) with hc5|hc5
  ·
   refine G hE hp hc5 rfl (xf hE uY rfl rfl) fun a hE=>G hE hp hc5 rfl (xl hE bG 1 rfl rfl rfl rfl) fun a hE=>Gs hE hc5 rfl rfl fun a hE=>Gs hE hc5 rfl rfl fun a hE=>G hE hp hc5 rfl (v:=(.bool ((decide (x4.1.kind=0))==x5.2))) (ex_beql bty4 rfl hE rfl rfl) fun a hE=>pk1 hE hc5 rfl rfl rfl rfl fun a hE=>?_
   have hE:=hE.eqv (v':=(.bool ((decide (x4.2=0))&&((decide (x4.1.kind=0))==x5.2)))) (by rw[hc5];rfl)
   exact aC ⟨hE.cut ⟨rfl,rfl,rfl,trivial⟩,hp⟩
  refine Gk hE hc5 rfl fun a hE=>Gk hE hc5 rfl fun a hE=>Gk hE hc5 rfl fun a hE=>Gk hE hc5 rfl fun a hE=>Gk hE hc5 rfl fun a hE=>pk0 hE hc5 rfl rfl rfl rfl fun a hE=>?_
  have hE:=hE.eqv (v':=(.bool ((decide (x4.2=0))&&((decide (x4.1.kind=0))==x5.2)))) (by rw[hc5];rfl)
  exact aC ⟨hE.cut ⟨rfl,rfl,rfl,trivial⟩,hp⟩
 rintro a w ⟨hE,hp⟩
 refine S hE 1 rfl fun a hE=>?_
 refine kT [_,_,_,_,_,_,_] (fun a w=>Env 54 [(53,(.bool (((decide (x4.2=0))&&((decide (x4.1.kind=0))==x5.2))&&((decide (x4.1.kind=1))==(!x5.2)))))] a∧Hp Z ρ (aA 3 vr6 x5.1::Pt b2 (.cells #[(.int .i64 x4.1.kind),zT,zU,(.int .i64 x4.1.conflicts)] 29 (0,0))::aA 3 zT x4.1.model::bV 25 3 zU usr4_proof (x4.1.proof:(List (List Int)))::Pt b1 (.cells #[(.int .i64 p0.vars),aG] 24 (0,0))::L) w) ?_ ?_
 ·rcases Bool.eq_false_or_eq_true ((decide (x4.2=0))&&((decide (x4.1.kind=0))==x5.2)) with hc6|hc6
  ·
   refine G hE hp hc6 rfl (xf hE uY rfl rfl) fun a hE=>G hE hp hc6 rfl (xl hE bG 1 rfl rfl rfl rfl) fun a hE=>Gs hE hc6 rfl rfl fun a hE=>Gs hE hc6 rfl rfl fun a hE=>Gs hE hc6 rfl rfl fun a hE=>G hE hp hc6 rfl (v:=(.bool ((decide (x4.1.kind=1))==(!x5.2)))) (ex_beql bty4 rfl hE rfl rfl) fun a hE=>pk1 hE hc6 rfl rfl rfl rfl fun a hE=>?_
   have hE:=hE.eqv (v':=(.bool (((decide (x4.2=0))&&((decide (x4.1.kind=0))==x5.2))&&((decide (x4.1.kind=1))==(!x5.2))))) (by rw[hc6];rfl)
   exact aC ⟨hE.cut ⟨rfl,trivial⟩,hp⟩
  refine Gk hE hc6 rfl fun a hE=>Gk hE hc6 rfl fun a hE=>Gk hE hc6 rfl fun a hE=>Gk hE hc6 rfl fun a hE=>Gk hE hc6 rfl fun a hE=>Gk hE hc6 rfl fun a hE=>pk0 hE hc6 rfl rfl rfl rfl fun a hE=>?_
  have hE:=hE.eqv (v':=(.bool (((decide (x4.2=0))&&((decide (x4.1.kind=0))==x5.2))&&((decide (x4.1.kind=1))==(!x5.2))))) (by rw[hc6];rfl)
  exact aC ⟨hE.cut ⟨rfl,trivial⟩,hp⟩
 rintro a w ⟨hE,hp⟩
 refine S hE 1 rfl fun a hE=>aC (dE ?_)
 obtain rfl:=Option.some.inj hm
 exact iM hE rfl rfl ⟨_,rfl,rfl,(((((((((hp.get 4 rfl).drop).get 3 rfl).drop).get 2 rfl).drop).get 1 rfl).drop).drop)⟩
open Vl (vl)
section
variable {β:Type}
end
def MapU {β:Type} [Vl β] (b:Nat) (l:List (Int×β)):bW:=fun h=>∃l',pY b l' h∧l'.Perm l
section
variable {Rn:Option Nat} {P:Program} {ops:Array Oper} {Q:Exit→Act→World→Prop} {rest:List Oper} {o:Oper} {a:Act} {w:World} {Df:List Deferred} {N:Nat} {E:Ent} {d:Nat} {Z:World} {ρ:PH} {L:List bW}
variable {β:Type} [Vl β] {b:Nat} {l:List (Int×β)}
theorem MapU.of (h:Hp Z ρ (pY b l::L) w):Hp Z ρ (MapU b l::L) w:=h.imp fun _ k=>⟨l,k,List.Perm.refl _⟩
theorem MapU.shut {l':List (Int×β)} (h:Hp Z ρ (pY b l'::L) w) (hp:l'.Perm l):Hp Z ρ (MapU b l::L) w:=h.imp fun _ k=>⟨l',k,hp⟩
theorem MapU.open_ (h:Hp Z ρ (MapU b l::L) w):∃l',Hp Z ρ (pY b l'::L) w∧l'.Perm l∧(l'.map (·.1)).Nodup:=by
 obtain⟨l',h1⟩:=Hp.ex (A:=fun l' k=>pY b l' k∧l'.Perm l) h
 obtain⟨h2,hp⟩:=Hp.fact (A:=pY b l') h1
 obtain⟨es,clock,_,e⟩:=h2.map
 exact⟨l',h2,hp,e.keys⟩
end
theorem loop_at {σ β:Type} {body:σ→Option (Step σ β)} {b:β} (S:Nat→σ):∀(n:Nat),(∀k,k<n→body (S k)=some (.next (S (k+1))))→body (S n)=some (.done b)→dC body (S 0)=some b
 |0,_,h=>dW h
 |n+1,h1,h2=>by
  rw[fQ (h1 0 (by omega))]
  exact loop_at (fun k=>S (k+1)) n (fun k hk=>h1 (k+1) (by omega)) h2
theorem loop_from {σ β:Type} {body:σ→Option (Step σ β)} {b:β} {s:σ} (S:Nat→σ) (n:Nat) (h0:s=S 0) (h1:∀k,k<n→body (S k)=some (.next (S (k+1)))) (h2:body (S n)=some (.done b)):dC body s=some b:=by
 rw[h0];exact loop_at S n h1 h2
theorem iO {n:Int} (h: -9223372036854775808≤n∧n≤9223372036854775807):inK .i64 n=some n:=inK_ok n h.1 h.2
theorem dA {α:Type} {l:List α} {k:Nat} {a:α} (h:l[k]?=some a):idx l (k:Int)=some a:=by
 unfold idx;rw[if_pos (by omega)];simpa using h
theorem jR {α:Type} {l:List α} {i:Int} {a:α} (h0:0≤i) (h:l[i.toNat]?=some a):idx l i=some a:=by
 unfold idx;rw[if_pos h0,h]
theorem bJ {α:Type} {l:List α} {k:Nat} (h:k<l.length):∃a,l[k]?=some a:=⟨_,List.getElem?_eq_getElem h⟩
theorem oM {α:Type} {l m:List α} (h:l.length+m.length≤4294967296):app l m=some (l++m):=by unfold app;rw[if_pos h]
theorem wI {α:Type} {l:List α} {i j:Int} (h0:0≤i) (h1:i≤j) (h2:j≤l.length):sub l i j=some ((l.take j.toNat).drop i.toNat):=by unfold sub;rw[if_pos ⟨h0,h1,h2⟩]
theorem remK_pos {m n:Int} (hm:0≤m) (hn:0<n):remK m n=some (m % n):=by
 unfold remK
 rw[if_pos (by omega),Int.tmod_eq_emod_of_nonneg hm]
theorem quoK_pos {m n:Int} (hm:0≤m) (hn:0<n) (h:m≤9223372036854775807):quoK .i64 m n=some (m / n):=by
 unfold quoK
 have h1:m.tdiv n=m / n:=Int.tdiv_eq_ediv_of_nonneg hm
 have h2:0≤m / n:=Int.ediv_nonneg hm (by omega)
 have h3:m / n≤m:=Int.ediv_le_self n hm
 rw[h1,if_pos ⟨by omega,by rw[IntKind.wrap_i64];omega⟩]
theorem mkc_ok {α:Type} {n c:Int} {z:α} (h:0≤n∧n≤c∧c≤4294967296):mkc n c z=some (List.replicate n.toNat z):=by unfold mkc;rw[if_pos h]
theorem I64.r {n:Int} (h:(Lit.int .i64 n).wf=true): -9223372036854775808≤n∧n≤9223372036854775807:=by
 simp[Lit.wf,IntKind.min,IntKind.max,IntKind.signed,IntKind.bits] at h
 exact⟨by omega,by omega⟩
theorem U8.r {n:Int} (h:(Lit.int .u8 n).wf=true):0≤n∧n≤255:=by
 simp[Lit.wf,IntKind.min,IntKind.max,IntKind.signed,IntKind.bits] at h
 omega
theorem first_or {α:Type} (p:α→Bool):∀(l:List α),(∃k a,l[k]?=some a∧p a=true∧(∀j b,j<k→l[j]?=some b→p b=false)∧l.any p=true∧l.findIdx p=k)∨((∀a∈l,p a=false)∧l.any p=false∧l.findIdx p=l.length)
 | []=>Or.inr ⟨by simp,rfl,rfl⟩
 |x::l=>by
  cases hx:p x with
  |true=>exact Or.inl ⟨0,x,rfl,hx,fun j b hj=>by omega,by simp[hx],by simp[List.findIdx_cons,hx]⟩
  |false=>
   rcases first_or p l with⟨k,a,h1,h2,h3,h4,h5⟩|⟨h1,h2,h3⟩
   ·refine Or.inl ⟨k+1,a,by simpa using h1,h2,fun j b hj hb=>?_,by simp[hx,h4],by simp[List.findIdx_cons,hx,h5]⟩
    cases j with
    |zero=>simp at hb;subst hb;exact hx
    |succ j=>exact h3 j b (by omega) (by simpa using hb)
   refine Or.inr ⟨fun a ha=>?_,by simp[hx,h2],by simp[List.findIdx_cons,hx,h3]⟩
   rcases List.mem_cons.1 ha with rfl|ha
   ·exact hx
   exact h1 a ha
theorem scan_loop {α β:Type} {body:Int→Option (Step Int β)} (l:List α) (p:α→Bool) (hit:Nat→α→β) (miss:β)
  (h1:∀(k:Nat) a,l[k]?=some a→body k=some (if p a=true then .done (hit k a) else .next ((k+1:Nat):Int))) (h2:body (l.length:Int)=some (.done miss)):
  (∃k a,l[k]?=some a∧p a=true∧(∀j b,j<k→l[j]?=some b→p b=false)∧l.any p=true∧l.findIdx p=k∧dC body 0=some (hit k a))∨((∀a∈l,p a=false)∧l.any p=false∧l.findIdx p=l.length∧dC body 0=some miss):=by
 rcases first_or p l with⟨k,a,a1,a2,a3,a4,a5⟩|⟨a1,a2,a3⟩
 ·refine Or.inl ⟨k,a,a1,a2,a3,a4,a5,loop_from (fun j=>(j:Int)) k rfl (fun j hj=>?_) ?_⟩
  ·obtain⟨b,hb⟩:=bJ (show j<l.length by have:=(List.getElem?_eq_some_iff.1 a1).1;omega)
   rw[h1 j b hb,a3 j b hj hb];rfl
  rw[h1 k a a1,a2];rfl
 refine Or.inr ⟨a1,a2,a3,loop_from (fun j=>(j:Int)) l.length rfl (fun j hj=>?_) h2⟩
 obtain⟨b,hb⟩:=bJ hj
 rw[h1 j b hb,a1 b (List.mem_of_getElem? hb)];rfl
theorem any_loop {α β:Type} {body:Int→Option (Step Int β)} (l:List α) (p:α→Bool) (hit miss:β)
  (h1:∀(k:Nat) a,l[k]?=some a→body k=some (if p a=true then .done hit else .next ((k+1:Nat):Int))) (h2:body (l.length:Int)=some (.done miss)):dC body 0=some (if l.any p=true then hit else miss):=by
 rcases scan_loop l p (fun _ _=>hit) miss h1 h2 with⟨k,a,_,_,_,h,_,e⟩|⟨_,h,_,e⟩
 ·rw[e,h];rfl
 rw[e,h];rfl
theorem same_loop {α β:Type} [DecidableEq α] {body:Int→Option (Step Int β)} {a b:List α} (hl:a.length=b.length) (hit miss:β)
  (h1:∀(k:Nat) x y,a[k]?=some x→b[k]?=some y→body k=some (if x=y then .next ((k+1:Nat):Int) else .done hit)) (h2:body (a.length:Int)=some (.done miss)):dC body 0=some (if a=b then miss else hit):=by
 have hzl:(a.zip b).length=a.length:=by rw[List.length_zip];omega
 have hz:(a.zip b).any (fun p=>decide (p.1≠p.2))=decide (a≠b):=by
  clear h1 h2 hzl
  induction a generalizing b with
  |nil=>cases b with
   |nil=>simp
   |cons y b=>simp at hl
  |cons x a ih=>cases b with
   |nil=>simp at hl
   |cons y b=>
    simp only[List.length_cons,Nat.add_right_cancel_iff] at hl
    simp only[List.zip_cons_cons,List.any_cons,ih hl,ne_eq,List.cons.injEq]
    by_cases hx:x=y<;>by_cases hb:a=b<;>simp[hx,hb]
 have:=any_loop (body:=body) (a.zip b) (fun p=>decide (p.1≠p.2)) hit miss (fun k p hp=>by
  obtain⟨x,y⟩:=p
  have hk:=(List.getElem?_eq_some_iff.1 hp).1
  rw[hzl] at hk
  obtain⟨x',hx⟩:=bJ hk
  obtain⟨y',hy⟩:=bJ (show k<b.length by omega)
  rw[List.getElem?_zip_eq_some] at hp
  rw[h1 k x y hp.1 hp.2]
  by_cases h:x=y<;>simp[h]) (by rw[hzl];exact h2)
 rw[this,hz]
 by_cases h:a=b<;>simp[h]
theorem xQ {α β γ:Type} {body:Int→Option (Step Int β)} {f:β→Option γ} {r:Option γ} (l:List α) (p:α→Bool) (hit miss:β)
  (h1:∀(k:Nat) a,l[k]?=some a→body k=some (if p a=true then .done hit else .next ((k+1:Nat):Int))) (h2:body (l.length:Int)=some (.done miss)) (hf:f (if l.any p=true then hit else miss)=r):(dC body 0).bind f=r:=by
 rw[any_loop l p hit miss h1 h2];exact hf
theorem bind_same {α β γ:Type} [DecidableEq α] {body:Int→Option (Step Int β)} {f:β→Option γ} {r:Option γ} {a b:List α} (hl:a.length=b.length) (hit miss:β)
  (h1:∀(k:Nat) x y,a[k]?=some x→b[k]?=some y→body k=some (if x=y then .next ((k+1:Nat):Int) else .done hit)) (h2:body (a.length:Int)=some (.done miss)) (hf:f (if a=b then miss else hit)=r):(dC body 0).bind f=r:=by
 rw[same_loop hl hit miss h1 h2];exact hf
theorem xB {α:Type} {l:List α} {k:Nat} {a:α} (h:l[k]?=some a):l.drop k=a::l.drop (k+1):=by
 obtain⟨h1,h2⟩:=List.getElem?_eq_some_iff.1 h
 rw[←h2];exact List.drop_eq_getElem_cons h1
theorem dZ {α:Type} {l:List α} {k:Nat} {a:α} (h:l[k]?=some a):l.take (k+1)=l.take k++[a]:=by
 obtain⟨h1,h2⟩:=List.getElem?_eq_some_iff.1 h
 rw[←h2];exact List.take_succ_eq_append_getElem h1
theorem rising_ext {α:Type} {r:α→α→Prop} (irr:∀a,¬r a a) (tr:∀a b c,r a b→r b c→r a c):∀{l m:List α},l.Pairwise r→m.Pairwise r→(∀x,x∈l↔x∈m)→l=m
 | [],[],_,_,_=>rfl
 | [],b::m,_,_,h=>by have:=(h b).2 (List.mem_cons_self ..);simp at this
 |a::l,[],_,_,h=>by have:=(h a).1 (List.mem_cons_self ..);simp at this
 |a::l,b::m,hl,hm,h=>by
  obtain⟨l1,l2⟩:=List.pairwise_cons.1 hl
  obtain⟨m1,m2⟩:=List.pairwise_cons.1 hm
  have e:a=b:=by
   rcases List.mem_cons.1 ((h a).1 (List.mem_cons_self ..)) with e|h1
   ·exact e
   rcases List.mem_cons.1 ((h b).2 (List.mem_cons_self ..)) with e|h2
   ·exact e.symm
   exact absurd (tr _ _ _ (m1 a h1) (l1 b h2)) (irr b)
  subst e
  congr 1
  refine rising_ext irr tr l2 m2 fun x=>?_
  constructor
  ·intro hx
   rcases List.mem_cons.1 ((h x).1 (List.mem_cons_of_mem _ hx)) with e|h1
   ·subst e;exact absurd (l1 x hx) (irr x)
   exact h1
  intro hx
  rcases List.mem_cons.1 ((h x).2 (List.mem_cons_of_mem _ hx)) with e|h1
  ·subst e;exact absurd (m1 x hx) (irr x)
  exact h1
theorem mget_mput {κ β:Type} [DecidableEq κ] (l:List (κ×β)) (k x:κ) (v:β):mO (uN l k v) x=if x=k then some v else mO l x:=by
 induction l with
 |nil=>by_cases h:k=x<;>simp[uN,mO,h,eq_comm]
 |cons p l ih=>
  unfold uN
  by_cases h:p.1=k
  ·rw[if_pos h]
   by_cases hx:x=k
   ·subst hx;simp[mO]
   have h1:¬k=x:=fun e=>hx e.symm
   have h2:¬p.1=x:=fun e=>hx (e.symm.trans h)
   simp[mO,List.find?_cons,hx,h1,h2]
  rw[if_neg h]
  by_cases hx:p.1=x
  ·have h3:¬x=k:=fun e=>h (hx.trans e)
   simp[mO,List.find?_cons,hx,h3]
  unfold mO at ih⊢
  rw[List.find?_cons_of_neg (by simpa using hx),List.find?_cons_of_neg (by simpa using hx)]
  exact ih
def yR {α τ β:Type} (f:α→τ→Step τ β) (g:τ→β):List α→τ→β
 | [],t=>g t
 |a::l,t=>match f a t with
  | .next t'=>yR f g l t'
  | .done b=>b
theorem loopL {α τ S β:Type} {body:S→Option (Step S β)} {s0:S} (l:List α) (E:Nat→τ→S) (f:α→τ→Step τ β) (g:τ→β) (I:Nat→τ→Prop) {t0:τ} (hs0:s0=E 0 t0) (h0:I 0 t0)
  (hs:∀k a t,l[k]?=some a→I k t→body (E k t)=some (match f a t with| .next t'=> .next (E (k+1) t')| .done b=> .done b)∧(∀t',f a t= .next t'→I (k+1) t'))
  (he:∀t,I l.length t→body (E l.length t)=some (.done (g t))):dC body s0=some (yR f g l t0):=by
 have key:∀(m k:Nat) (t:τ),k+m=l.length→I k t→dC body (E k t)=some (yR f g (l.drop k) t):=by
  intro m
  induction m with
  |zero=>
   intro k t hk hi
   have hk:k=l.length:=by omega
   subst hk
   rw[dW (he t hi),List.drop_length];rfl
  |succ m ih=>
   intro k t hk hi
   obtain⟨a,ha⟩:=bJ (show k<l.length by omega)
   obtain⟨h1,h2⟩:=hs k a t ha hi
   rw[xB ha]
   unfold yR
   cases hf:f a t with
   |next t'=>
    rw[hf] at h1
    rw[fQ h1]
    exact ih (k+1) t' (by omega) (h2 t' hf)
   |done b=>
    rw[hf] at h1
    exact dW h1
 rw[hs0]
 simpa using key l.length 0 t0 (by omega) h0
theorem uV {τ S β:Type} {body:S→Option (Step S β)} {s0:S} (n:Nat) (E:Nat→τ→S) (I:Nat→τ→Prop) (Post:β→Prop) {t0:τ} (hs0:s0=E 0 t0) (h0:I 0 t0)
  (hs:∀k t,k<n→I k t→(∃t',body (E k t)=some (.next (E (k+1) t'))∧I (k+1) t')∨(∃b,body (E k t)=some (.done b)∧Post b))
  (he:∀t,I n t→∃b,body (E n t)=some (.done b)∧Post b):∃b,dC body s0=some b∧Post b:=by
 have key:∀(m k:Nat) (t:τ),k+m=n→I k t→∃b,dC body (E k t)=some b∧Post b:=by
  intro m
  induction m with
  |zero=>
   intro k t hk hi
   obtain rfl:k=n:=by omega
   obtain⟨b,h1,h2⟩:=he t hi
   exact⟨b,dW h1,h2⟩
  |succ m ih=>
   intro k t hk hi
   rcases hs k t (by omega) hi with⟨t',h1,h2⟩|⟨b,h1,h2⟩
   ·obtain⟨b,h3,h4⟩:=ih (k+1) t' (by omega) h2
    exact⟨b,by rw[fQ h1];exact h3,h4⟩
   exact⟨b,dW h1,h2⟩
 rw[hs0]
 exact key n 0 t0 (by omega) h0
theorem bsm {α β:Type} (a:α) (f:α→Option β):(some a).bind f=f a:=Eq.trans (congrArg (fun x=>Option.bind x f) (Eq.refl (some a))) rfl
theorem dB {α:Type} {l:List α} {k:Nat} {a:α} (h:l[k]?=some a):k<l.length:=(List.getElem?_eq_some_iff.1 h).1
theorem bK {α:Type} {l:List α} {k:Nat} {a:α} (h:l[k]?=some a):a∈l:=List.mem_of_getElem? h
theorem jD {k:Nat} {n:Nat} (h:k<n) (hn:n≤9223372036854775807):inK .i64 ((k:Int)+1)=some ((k+1:Nat):Int):=by
 rw[iO ⟨by omega,by omega⟩];rfl
theorem oG {n m:Int} (e:n=m) (h: -9223372036854775808≤m∧m≤9223372036854775807):inK .i64 n=some m:=by rw[e];exact iO h
theorem ltB {k n:Nat} (h:k<n):(decide ((k:Int)<(n:Int)))=true:=by simpa using h
theorem rX {n:Nat}:¬(decide ((n:Int)<(n:Int)))=true:=by simp
theorem jC (l:Int):0≤vr l:=by unfold vr;omega
theorem kU (l:Int):vr (-l)=vr l:=by unfold vr;omega
theorem zV (l:Int):l=vr l∨l= -vr l:=by unfold vr;omega
theorem oL {l:Int}:vr l=0↔l=0:=by unfold vr;omega
theorem vr_eq {l m:Int}:vr l=vr m↔l=m∨l= -m:=by unfold vr;omega
theorem nS {l v:Int}:vr l≤v↔ -v≤l∧l≤v:=by unfold vr;omega
def clF (v:Int):Int→List Int→Bool
 |_,[]=>true
 |last,l::r=>decide (-v≤l)&&decide (l≤v)&&decide (last<vr l)&&clF v (vr l) r
theorem var_ok {l:Int} (h: -9223372036854775807≤l∧l≤9223372036854775807):qC l=some (vr l):=by
 unfold qC;rw[iO (by omega)];rfl
theorem rvar_ok {l:Int} (h: -9223372036854775807≤l∧l≤9223372036854775807):fM l=some (vr l):=by
 unfold fM
 by_cases h0:l<0
 ·rw[if_pos (by simpa using h0),iO (by omega)]
  simp only[bsm];congr 1;unfold vr;omega
 rw[if_neg (by simpa using h0)];congr 1;unfold vr;omega
def stCl (v l last:Int):Step Int (Out Unit Bool):=if((decide (l< -v))||(decide (v<l))||(decide (vr l≤last)))=true then Step.done (Out.ret false) else Step.next (vr l)
theorem cnf_normal {c:List Int} {v:Int} (hv:0≤v∧v≤1099511627776) (hc:c.length≤9223372036854775807):uM c v=some (clF v 0 c):=by
 unfold uM
 have h:=loopL (body:=fun s:Int×Int=>qB c v s.1 s.2) (s0:=((0:Int),(0:Int))) c (fun k t=>(t,(k:Int)))
  (stCl v) (fun _=>Out.brk ()) (fun _ _=>True) (t0:=(0:Int)) rfl trivial ?_ ?_
 ·rw[h]
  simp only[bsm]
  generalize (0:Int)=t
  clear h
  induction c generalizing t with
  |nil=>simp[yR,clF]
  |cons l r ih=>
   have ih:=ih (by simp only[List.length_cons] at hc;omega)
   unfold yR stCl clF
   by_cases hb:((decide (l< -v))||(decide (v<l))||(decide (vr l≤t)))=true
   ·rw[if_pos hb]
    simp only[Bool.or_eq_true,decide_eq_true_eq] at hb
    have:(decide (-v≤l)&&decide (l≤v)&&decide (t<vr l))=false:=by
     simp only[Bool.and_eq_false_iff,decide_eq_false_iff_not];omega
    simp[this]
   rw[if_neg hb]
   simp only[Bool.or_eq_true,decide_eq_true_eq,not_or] at hb
   have:(decide (-v≤l)&&decide (l≤v)&&decide (t<vr l))=true:=by
    simp only[Bool.and_eq_true,decide_eq_true_eq];omega
   rw[this,Bool.true_and]
   exact ih (vr l)
 ·intro k a t hk _
  refine⟨?_,fun _ _=>trivial⟩
  simp only[qB,stCl]
  rw[if_pos (ltB (dB hk)),dA hk]
  simp only[bsm]
  rw[iO (by omega)]
  simp only[bsm,Int.zero_sub]
  by_cases h1:(decide (a< -v)||decide (v<a))=true
  ·simp[h1]
  rw[if_neg h1]
  simp only[Bool.or_eq_true,decide_eq_true_eq,not_or] at h1
  rw[var_ok (by omega)]
  have h1':(decide (a< -v)||decide (v<a))=false:=by simp;omega
  simp only[bsm,h1',Bool.false_or]
  by_cases h2:vr a≤t
  ·simp[h2]
  simp[h2,jD (dB hk) hc]
 intro t _
 simp only[qB]
 rw[if_neg rX]
theorem in1:inK .i64 1=some 1:=iO ⟨by decide,by decide⟩
theorem runL_clF {c:List Int} {v t:Int} (ht:0≤t):(match yR (stCl v) (fun _=>(Out.brk ():Out Unit Bool)) c t with| .brk _=>true| .ret r=>r)=clF v t c:=by
 induction c generalizing t with
 |nil=>simp[yR,clF]
 |cons l r ih=>
  unfold yR stCl clF
  by_cases hb:((decide (l< -v))||(decide (v<l))||(decide (vr l≤t)))=true
  ·rw[if_pos hb]
   simp only[Bool.or_eq_true,decide_eq_true_eq] at hb
   have:(decide (-v≤l)&&decide (l≤v)&&decide (t<vr l))=false:=by
    simp only[Bool.and_eq_false_iff,decide_eq_false_iff_not];omega
   simp[this]
  rw[if_neg hb]
  simp only[Bool.or_eq_true,decide_eq_true_eq,not_or] at hb
  have:(decide (-v≤l)&&decide (l≤v)&&decide (t<vr l))=true:=by
   simp only[Bool.and_eq_true,decide_eq_true_eq];omega
  rw[this,Bool.true_and]
  exact ih (jC l)
theorem aH0 {c:List Int} {v:Int} (hv:0≤v∧v≤1099511627776) (hc:c.length≤9223372036854775807):iT c v=some (clF v 0 c):=by
 unfold iT
 have h:=loopL (body:=fun s:Int=>iP c v s) (s0:=(0:Int)) c (fun k t=>(k:Int))
  (stCl v) (fun _=>Out.brk ())
  (fun k t=>(k=0∧t=0)∨(0<k∧∃b,c[k-1]?=some b∧t=vr b∧ -v≤b∧b≤v)) (t0:=(0:Int)) rfl (Or.inl ⟨rfl,rfl⟩) ?_ ?_
 ·rw[h]
  simp only[bsm]
  rw[←runL_clF (c:=c) (v:=v) (t:=0) (Int.le_refl 0)]
  generalize yR (stCl v) (fun _=>Out.brk ()) c 0=o
  cases o<;>rfl
 ·intro k a t hk hI
  refine⟨?_,fun t' ht'=>?_⟩
  ·simp only[iP,stCl]
   rw[if_pos (ltB (dB hk)),dA hk]
   simp only[bsm]
   rw[iO (show -9223372036854775808≤0-v∧0-v≤9223372036854775807 by omega)]
   have ht:0≤t:=by
    rcases hI with⟨_,rfl⟩|⟨_,b,_,rfl,_⟩
    ·omega
    exact jC b
   by_cases h0:a=0
   ·have:vr a≤t:=by rw[oL.2 h0];exact ht
    simp[h0]
    rw[h0] at this;simp[this]
   by_cases h1:a< -v
   ·simp[h0,h1]
   by_cases h2:v<a
   ·simp[h0,h1,h2]
   have h3:(decide (a< -v)||decide (v<a))=false:=by simp;omega
   rcases hI with⟨rfl,rfl⟩|⟨hk0,b,hb,rfl,hb1,hb2⟩
   ·have:¬vr a≤0:=fun h=>h0 (oL.1 (by have:=jC a;omega))
    simp[h0,h1,h2,this,in1]
   have e1:inK .i64 ((k:Int)-1)=some ((k-1:Nat):Int):=by
    rw[iO ⟨by omega,by have:=dB hk;omega⟩];congr 1;omega
   rw[rvar_ok (by omega)]
   simp only[bsm]
   simp[h0,h1,h2,show 0<k from hk0,e1,dA hb,rvar_ok (show -9223372036854775807≤b∧b≤9223372036854775807 by omega),jD (dB hk) hc]
   by_cases h4:vr a≤vr b
   ·simp[h4]
   simp[h4]
  refine Or.inr ⟨by omega,a,by simpa using hk,?_⟩
  unfold stCl at ht'
  by_cases hb:((decide (a< -v))||(decide (v<a))||(decide (vr a≤t)))=true
  ·rw[if_pos hb] at ht';cases ht'
  rw[if_neg hb] at ht'
  simp only[Bool.or_eq_true,decide_eq_true_eq,not_or] at hb
  exact⟨(Step.next.inj ht').symm,by omega,by omega⟩
 intro t _
 simp only[iP]
 rw[if_neg rX]
def lH (f:Formula):Bool:=decide (0≤f.vars)&&decide (f.vars≤65536)&&decide (f.clauses.length≤262144)&&f.clauses.all (clF f.vars 0)
def FLen (cs:List (List Int)):Prop:=cs.length≤9223372036854775807∧∀c∈cs,c.length≤9223372036854775807
theorem tV {α:Type} (p:α→Bool) (l:List α):(if l.any (fun a=> !p a)=true then(Out.ret false:Out Unit Bool) else Out.brk ())=(if l.all p=true then Out.brk () else Out.ret false):=by
 have:l.any (fun a=> !p a)= !l.all p:=by simp[List.all_eq_not_any_not]
 rw[this];cases l.all p<;>rfl
theorem validB_pre (f:Formula) (hp:¬(((decide (f.vars<0))||(decide (65536<f.vars)))||(decide (262144<(f.clauses.length:Int))))=true):lH f=f.clauses.all (clF f.vars 0):=by
 simp only[Bool.or_eq_true,decide_eq_true_eq,not_or] at hp
 unfold lH
 have:(decide (0≤f.vars)&&decide (f.vars≤65536)&&decide (f.clauses.length≤262144))=true:=by simp only[Bool.and_eq_true,decide_eq_true_eq];omega
 rw[this,Bool.true_and]
theorem validB_no (f:Formula) (hp:(((decide (f.vars<0))||(decide (65536<f.vars)))||(decide (262144<(f.clauses.length:Int))))=true):lH f=false:=by
 simp only[Bool.or_eq_true,decide_eq_true_eq] at hp
 unfold lH
 have:(decide (0≤f.vars)&&decide (f.vars≤65536)&&decide (f.clauses.length≤262144))=false:=by
  simp only[Bool.and_eq_false_iff,decide_eq_false_iff_not];omega
 rw[this,Bool.false_and]
theorem cnf_valid {f:Formula} (hl:FLen f.clauses):tZ f=some (lH f):=by
 unfold tZ
 by_cases hp:(((decide (f.vars<0))||(decide (65536<f.vars)))||(decide (262144<(f.clauses.length:Int))))=true
 ·rw[if_pos hp,validB_no f hp]
 rw[if_neg hp,validB_pre f hp]
 have hp':=hp
 simp only[Bool.or_eq_true,decide_eq_true_eq,not_or] at hp'
 refine xQ f.clauses (fun c=> !clF f.vars 0 c) (Out.ret false) (Out.brk ()) ?_ ?_ ?_
 ·intro k a hk
  simp only[sV]
  rw[if_pos (ltB (dB hk)),dA hk]
  simp only[bsm]
  rw[cnf_normal ⟨by omega,by omega⟩ (hl.2 a (bK hk)),jD (dB hk) hl.1]
  cases clF f.vars 0 a<;>rfl
 ·simp only[sV]
  rw[if_neg rX]
 rw[tV]
 cases f.clauses.all (clF f.vars 0)<;>rfl
theorem ref_valid {f:Formula} (hl:FLen f.clauses):kG f=some (lH f):=by
 unfold kG
 by_cases hp:(((decide (f.vars<0))||(decide (65536<f.vars)))||(decide (262144<(f.clauses.length:Int))))=true
 ·rw[if_pos hp,validB_no f hp]
 rw[if_neg hp,validB_pre f hp]
 have hp':=hp
 simp only[Bool.or_eq_true,decide_eq_true_eq,not_or] at hp'
 refine xQ f.clauses (fun c=> !clF f.vars 0 c) (Out.ret false) (Out.brk ()) ?_ ?_ ?_
 ·intro k a hk
  simp only[lV]
  rw[if_pos (ltB (dB hk)),dA hk]
  simp only[bsm]
  rw[aH0 ⟨by omega,by omega⟩ (hl.2 a (bK hk)),jD (dB hk) hl.1]
  cases clF f.vars 0 a<;>rfl
 ·simp only[lV]
  rw[if_neg rX]
 rw[tV]
 cases f.clauses.all (clF f.vars 0)<;>rfl
theorem lists_equal (a b:List Int) (ha:a.length≤9223372036854775807):kY a b=some (decide (a=b)):=by
 unfold kY
 by_cases hl:a.length=b.length
 ·rw[if_neg (by simp[hl])]
  refine bind_same hl (Out.ret false) (Out.brk ()) ?_ ?_ ?_
  ·intro k x y hx hy
   simp only[lC]
   rw[if_pos (ltB (dB hx)),dA hx,dA hy]
   simp only[bsm]
   rw[jD (dB hx) ha]
   by_cases h:x=y<;>simp[h]
  ·simp only[lC]
   rw[if_neg rX]
  by_cases h:a=b<;>simp[h]
 rw[if_pos (by simp;omega)]
 have:a≠b:=fun e=>hl (by rw[e])
 simp[this]
theorem Formula.ext_ {f g:Formula} (h1:f.vars=g.vars) (h2:f.clauses=g.clauses):f=g:=by
 obtain⟨a,b⟩:=f;obtain⟨c,d⟩:=g;simp at h1 h2;rw[h1,h2]
instance:DecidableEq Formula:=fun f g=>if h:f.vars=g.vars∧f.clauses=g.clauses then isTrue (Formula.ext_ h.1 h.2) else isFalse (fun e=>h (by rw[e];exact⟨rfl,rfl⟩))
def smallB (f:Formula) (v n:Int):Bool:=f.clauses.all (fun c=>decide (c.length≤30))&&decide (f.vars≤v)&&decide ((f.clauses.length:Int)≤n)
theorem small_eq (f:Formula) (v n:Int) (hl:f.clauses.length≤9223372036854775807):lZ f v n=some (smallB f v n):=by
 unfold lZ smallB
 refine xQ f.clauses (fun c=> !decide (c.length≤30)) (Out.ret false) (Out.brk ()) ?_ ?_ ?_
 ·intro k a hk
  simp only[lU]
  rw[if_pos (ltB (dB hk)),dA hk]
  simp only[bsm]
  rw[jD (dB hk) hl]
  by_cases h:a.length≤30
  ·rw[if_neg (by simp;omega)];simp[h]
  rw[if_pos (by simp;omega)];simp[h]
 ·simp only[lU]
  rw[if_neg rX]
 rw[tV]
 cases f.clauses.all (fun c=>decide (c.length≤30))<;>rfl
def mdF:Int→List Int→Bool
 |_,[]=>true
 |i,l::r=>(decide (l=i)||decide (l= -i))&&mdF (i+1) r
def yS (m c:List Int):Bool:=c.any fun l=>decide (m[(vr l-1).toNat]?=some l)
def holdsB (f:Formula) (m:List Int):Bool:=lH f&&decide ((m.length:Int)=f.vars)&&mdF 1 m&&f.clauses.all (yS m)
theorem clF_mem {v:Int}:∀{t:Int} {c:List Int},0≤t→clF v t c=true→∀l∈c,-v≤l∧l≤v∧t<vr l
 |_,[],_,_,l,h=>by simp at h
 |t,x::c,ht,h,l,hl=>by
  unfold clF at h
  simp only[Bool.and_eq_true,decide_eq_true_eq] at h
  rcases List.mem_cons.1 hl with rfl|hl
  ·exact⟨h.1.1.1,h.1.1.2,h.1.2⟩
  have:=clF_mem (jC x) h.2 l hl
  exact⟨this.1,this.2.1,by omega⟩
theorem idx_vr {α:Type} {m:List α} {l:Int} (h0:0<vr l) (h:vr l≤m.length):∃x,m[(vr l-1).toNat]?=some x∧idx m (vr l-1)=some x:=by
 obtain⟨x,hx⟩:=bJ (show(vr l-1).toNat<m.length by omega)
 exact⟨x,hx,jR (by omega) hx⟩
theorem mdF_loop {m:List Int} {t:Int} (ht:0≤t) (hm:t+m.length≤9223372036854775800):yR (fun(a t:Int)=>if(!decide (a=t+1)&& !decide (a= -t-1))=true then Step.done (Out.ret false:Out Unit Bool) else Step.next (t+1)) (fun _=>Out.brk ()) m t=if mdF (t+1) m=true then Out.brk () else Out.ret false:=by
 induction m generalizing t with
 |nil=>rfl
 |cons a m ih=>
  unfold yR mdF
  by_cases h1:a=t+1
  ·simp only[h1,decide_true,Bool.not_true,Bool.false_and,Bool.false_eq_true,if_false,Bool.true_or,Bool.true_and]
   exact ih (by omega) (by simp only[List.length_cons] at hm;omega)
  by_cases h2:a= -t-1
  ·have h3:a= -(t+1):=by omega
   have e:decide (a= -(t+1))=true:=by simpa using h3
   simp only[e,h2,decide_true,Bool.not_true,Bool.and_false,Bool.false_eq_true,if_false,Bool.or_true,Bool.true_and]
   simp only[←h2,e,Bool.or_true,Bool.true_and]
   exact ih (by omega) (by simp only[List.length_cons] at hm;omega)
  have h3:¬a= -(t+1):=by omega
  simp[h1,h2,h3]
theorem oC {f:Formula} (h:lH f=true):0≤f.vars∧f.vars≤65536∧f.clauses.length≤262144∧∀c∈f.clauses,clF f.vars 0 c=true:=by
 unfold lH at h
 simp only[Bool.and_eq_true,decide_eq_true_eq,List.all_eq_true] at h
 exact⟨h.1.1.1,h.1.1.2,h.1.2,h.2⟩
theorem valid_lit {f:Formula} (h:lH f=true) {c:List Int} (hc:c∈f.clauses) {l:Int} (hl:l∈c): -f.vars≤l∧l≤f.vars∧0<vr l∧vr l≤f.vars:=by
 have:=clF_mem (Int.le_refl 0) ((oC h).2.2.2 c hc) l hl
 exact⟨this.1,this.2.1,this.2.2,nS.2 ⟨this.1,this.2.1⟩⟩
theorem ref_isModel {m:List Int} {n:Int} (hn:0≤n∧n≤65536):kW n m=some (decide ((m.length:Int)=n)&&mdF 1 m):=by
 unfold kW
 by_cases hm:(m.length:Int)=n
 ·rw[if_neg (by simp[hm])]
  rw[loopL (body:=fun s=>iZ m s) (s0:=(0:Int)) m (fun k t=>(k:Int)) (fun(a t:Int)=>if(!decide (a=t+1)&& !decide (a= -t-1))=true then Step.done (Out.ret false:Out Unit Bool) else Step.next (t+1)) (fun _=>Out.brk ()) (fun k t=>t=(k:Int)) (t0:=0) rfl rfl ?_ ?_,mdF_loop (by omega) (by omega)]
  ·simp only[bsm,hm,decide_true,Bool.true_and,Int.zero_add]
   cases mdF 1 m<;>rfl
  ·rintro k a t hk rfl
   refine⟨?_,fun t' ht'=>?_⟩
   ·have:=dB hk
    have e1:inK .i64 ((k:Int)+1)=some ((k:Int)+1):=iO ⟨by omega,by omega⟩
    have e2:inK .i64 (0-((k:Int)+1))=some (-(k:Int)-1):=by
     rw[iO ⟨by omega,by omega⟩];congr 1;omega
    simp only[iZ,ltB (dB hk),if_true,dA hk,bsm,e1,e2]
    by_cases h1:a=(k:Int)+1<;>by_cases h2:a= -(k:Int)-1<;>simp[h1,h2]
   split at ht'
   ·cases ht'
   exact(Step.next.inj ht').symm
  rintro t rfl
  simp only[iZ]
  rw[if_neg rX]
 rw[if_pos (by simp[hm])];simp[hm]
theorem foldl_or {α:Type} (p:α→Bool):∀(l:List α) (b:Bool),yR (fun a t=>Step.next (t||p a)) (fun t=>t) l b=(b||l.any p)
 | [],b=>by simp[yR]
 |a::l,b=>by
  unfold yR
  show yR _ _ l (b||p a)=_
  rw[foldl_or p l,List.any_cons,Bool.or_assoc]
theorem ref_holds {f:Formula} {m:List Int} (hl:FLen f.clauses):lY f m=some (holdsB f m):=by
 unfold lY holdsB
 rw[ref_valid hl]
 simp only[bsm]
 by_cases hv:lH f=true
 ·have hb:=oC hv
  rw[if_neg (by simp[hv]),ref_isModel ⟨hb.1,hb.2.1⟩]
  simp only[bsm,hv,Bool.true_and]
  by_cases hm:(decide ((m.length:Int)=f.vars)&&mdF 1 m)=true
  ·rw[hm,if_neg (by simp),Bool.true_and]
   have hm':(m.length:Int)=f.vars:=by simp only[Bool.and_eq_true,decide_eq_true_eq] at hm;exact hm.1
   refine xQ f.clauses (fun c=> !yS m c) (Out.ret false) (Out.brk ()) ?_ ?_ ?_
   ·intro k c hk
    simp only[lT]
    rw[if_pos (ltB (dB hk))]
    have hcl:=hl.2 c (bK hk)
    rw[loopL (body:=fun s:Bool×Int=>jW f m (k:Int) s.1 s.2) (s0:=(false,(0:Int))) c (fun j t=>(t,(j:Int))) (fun l t=>Step.next (t||decide (m[(vr l-1).toNat]?=some l))) (fun t=>t) (fun _ _=>True) rfl trivial ?_ ?_,foldl_or]
    ·simp only[bsm,Bool.false_or]
     rw[jD (dB hk) hl.1]
     show(if(!yS m c)=true then _ else _)=_
     cases yS m c<;>rfl
    ·intro j l t hj _
     refine⟨?_,fun _ _=>trivial⟩
     simp only[jW]
     rw[dA hk]
     simp only[bsm]
     rw[if_pos (ltB (dB hj)),dA hj]
     simp only[bsm]
     rw[jD (dB hj) hcl]
     cases t with
     |true=>simp
     |false=>
      have hb2:=valid_lit hv (bK hk) (bK hj)
      rw[rvar_ok (by omega)]
      simp only[bsm,Bool.false_eq_true,if_false]
      rw[iO (by omega)]
      simp only[bsm]
      obtain⟨y,h1,h2⟩:=idx_vr (m:=m) hb2.2.2.1 (by omega)
      rw[h2,h1]
      simp
    intro t _
    simp only[jW]
    rw[dA hk]
    simp only[bsm]
    rw[if_neg rX]
   ·simp only[lT]
    rw[if_neg rX]
   rw[tV]
   cases f.clauses.all (yS m)<;>rfl
  have:(decide ((m.length:Int)=f.vars)&&mdF 1 m)=false:=by simpa using hm
  rw[this];simp
 rw[if_pos (by simp[hv])];simp[hv]
inductive UP (F:List (List Int)) (S:List Int):Int→Prop
 |start {l:Int}:l∈S→UP F S l
 |unit {c:List Int} {x:Int}:c∈F→x∈c→(∀y∈c,y≠x→UP F S (-y))→UP F S x
def Fails (F:List (List Int)) (S:List Int):Prop:=(∃l,UP F S l∧UP F S (-l))∨∃c∈F,∀y∈c,UP F S (-y)
structure Lits (n:Int) (F:List (List Int)) (S:List Int):Prop where
 nn:0≤n∧n≤65536
 cl:∀c∈F,∀y∈c,y≠0∧vr y≤n
 st:∀y∈S,y≠0∧vr y≤n
 nd:∀c∈F,c.Nodup
theorem UP.lit {n:Int} {F:List (List Int)} {S:List Int} (h:Lits n F S) {l:Int} (hl:UP F S l):l≠0∧vr l≤n:=by
 cases hl with
 |start hs=>exact h.st _ hs
 |unit hc hx _=>exact h.cl _ hc _ hx
def gv (val:List Int) (l:Int):Option Int:=val[(vr l).toNat]?
theorem uH (val:List Int) (l:Int):gv val (-l)=gv val l:=by unfold gv;rw[kU]
structure ValOk (n:Int) (F:List (List Int)) (S:List Int) (val:List Int):Prop where
 len:(val.length:Int)=n+1
 own:∀(v:Nat) x,val[v]?=some x→x=0∨(x≠0∧vr x=v)
 sound:∀(v:Nat) x,val[v]?=some x→x≠0→UP F S x
theorem ValOk.get {n:Int} {F:List (List Int)} {S:List Int} {val:List Int} (h:ValOk n F S val) {l:Int} (hl:vr l≤n):∃x,gv val l=some x∧idx val (vr l)=some x∧(x=0∨x=l∨x= -l):=by
 have h0:=jC l
 obtain⟨x,hx⟩:=bJ (show(vr l).toNat<val.length by have:=h.len;omega)
 refine⟨x,hx,jR h0 hx,?_⟩
 rcases h.own _ x hx with h1|⟨_,h1⟩
 ·exact Or.inl h1
 exact Or.inr (vr_eq.1 (by omega))
theorem ValOk.up {n:Int} {F:List (List Int)} {S:List Int} {val:List Int} (h:ValOk n F S val) {l:Int} (h0:l≠0) (hl:gv val l=some l):UP F S l:=h.sound _ l hl h0
theorem ValOk.set {n:Int} {F:List (List Int)} {S:List Int} {val:List Int} (h:ValOk n F S val) {l:Int} (h0:l≠0) (hl:vr l≤n) (hu:UP F S l):ValOk n F S (val.set (vr l).toNat l):=by
 have hv:=jC l
 refine⟨by rw[List.length_set];exact h.len,fun v x hx=>?_,fun v x hx hx0=>?_⟩
 ·rw[List.getElem?_set] at hx
  split at hx
  ·rename_i e
   split at hx
   ·obtain rfl:=Option.some.inj hx
    exact Or.inr ⟨h0,by omega⟩
   cases hx
  exact h.own v x hx
 rw[List.getElem?_set] at hx
 split at hx
 ·split at hx
  ·obtain rfl:=Option.some.inj hx;exact hu
  cases hx
 exact h.sound v x hx hx0
theorem gv_set {n:Int} {val:List Int} {l m:Int} (hlen:(val.length:Int)=n+1) (hl:vr l≤n):gv (val.set (vr l).toNat l) m=if vr m=vr l then some l else gv val m:=by
 unfold gv
 have h1:=jC l
 have h2:=jC m
 rw[List.getElem?_set]
 by_cases e:vr m=vr l
 ·rw[if_pos (by omega),if_pos (by omega),if_pos e]
 rw[if_neg (by omega),if_neg e]
def Good (val c:List Int):Prop:=(∃y∈c,gv val y=some y)∨∃y∈c,∃z∈c,y≠z∧gv val y=some 0∧gv val z=some 0
theorem V9 {n:Int} {F:List (List Int)} {S:List Int} {val:List Int} (hL:Lits n F S) (h:ValOk n F S val) (hs:∀l∈S,gv val l=some l) (hg:∀c∈F,Good val c):∀{l},UP F S l→gv val l=some l:=by
 intro l hl
 induction hl with
 |start hm=>exact hs _ hm
 | @unit c x hc hx hy ih=>
  rcases hg c hc with⟨y,hyc,h1⟩|⟨y,hyc,z,hzc,hyz,h1,h2⟩
  ·by_cases e:y=x
   ·rw[←e];exact h1
   have:=ih y hyc e
   rw[uH,h1] at this
   have:=Option.some.inj this
   exact absurd (show y=0 by omega) (hL.cl c hc y hyc).1
  by_cases e:y=x
  ·have:=ih z hzc (by rw[←e];exact fun e'=>hyz e'.symm)
   rw[uH,h2] at this
   have:=Option.some.inj this
   exact absurd (show z=0 by omega) (hL.cl c hc z hzc).1
  have:=ih y hyc e
  rw[uH,h1] at this
  have:=Option.some.inj this
  exact absurd (show y=0 by omega) (hL.cl c hc y hyc).1
theorem closed_ok {n:Int} {F:List (List Int)} {S:List Int} {val:List Int} (hL:Lits n F S) (h:ValOk n F S val) (hs:∀l∈S,gv val l=some l) (hg:∀c∈F,Good val c):¬Fails F S:=by
 rintro(⟨l,h1,h2⟩|⟨c,hc,hy⟩)
 ·have e1:=V9 hL h hs hg h1
  have e2:=V9 hL h hs hg h2
  rw[uH,e1] at e2
  have:=Option.some.inj e2
  exact(h1.lit hL).1 (by omega)
 rcases hg c hc with⟨y,hyc,h1⟩|⟨y,hyc,z,hzc,hyz,h1,h2⟩
 ·have:=V9 hL h hs hg (hy y hyc)
  rw[uH,h1] at this
  have:=Option.some.inj this
  exact(hL.cl c hc y hyc).1 (by omega)
 have:=V9 hL h hs hg (hy y hyc)
 rw[uH,h1] at this
 have:=Option.some.inj this
 exact(hL.cl c hc y hyc).1 (by omega)
def sOk (v x:Int):Bool:=decide (x≠0)&&decide (-v≤x)&&decide (x≤v)
theorem clF_one (v x:Int):clF v 0 [x]=sOk v x:=by
 unfold clF clF sOk
 rw[Bool.eq_iff_iff]
 simp only[Bool.and_eq_true,decide_eq_true_eq,Bool.and_true]
 have:=jC x
 have:= @oL x
 constructor
 ·rintro⟨⟨a,b⟩,c⟩;exact⟨⟨fun e=>by rw[e] at c;simp[vr] at c,a⟩,b⟩
 rintro⟨⟨a,b⟩,c⟩;exact⟨⟨b,c⟩,by omega⟩
def ixL (l:Int):Nat:=(if l<0 then -2*l+1 else 2*l).toNat
theorem rW {l m:Int} (h:ixL l=ixL m):l=m:=by
 unfold ixL at h;split at h<;>split at h<;>omega
def Pair (c:List Int) (w o:Int):Prop:=(c[0]?=some w∧c[1]?=some o)∨(c[1]?=some w∧c[0]?=some o)
theorem Pair.comm {c:List Int} {w o:Int} (h:Pair c w o):Pair c o w:=by
 rcases h with⟨a,b⟩|⟨a,b⟩
 ·exact Or.inr ⟨b,a⟩
 exact Or.inl ⟨b,a⟩
theorem Pair.mem {c:List Int} {w o:Int} (h:Pair c w o):w∈c∧o∈c:=by
 rcases h with⟨a,b⟩|⟨a,b⟩
 ·exact⟨bK a,bK b⟩
 exact⟨bK a,bK b⟩
theorem nI {α:Type}:∀{c:List α},c.Nodup→∀{i j:Nat} {a:α},c[i]?=some a→c[j]?=some a→i=j
 | [],_,i,j,a,h,_=>by simp at h
 |x::c,hn,0,0,a,_,_=>rfl
 |x::c,hn,0,j+1,a,h1,h2=>by
  simp only[List.getElem?_cons_zero,Option.some.injEq] at h1
  rw[List.getElem?_cons_succ] at h2
  exact absurd (h1▸bK h2) (List.nodup_cons.1 hn).1
 |x::c,hn,i+1,0,a,h1,h2=>by
  simp only[List.getElem?_cons_zero,Option.some.injEq] at h2
  rw[List.getElem?_cons_succ] at h1
  exact absurd (h2▸bK h1) (List.nodup_cons.1 hn).1
 |x::c,hn,i+1,j+1,a,h1,h2=>by
  rw[List.getElem?_cons_succ] at h1 h2
  rw[nI (List.nodup_cons.1 hn).2 h1 h2]
theorem Pair.ne {c:List Int} {w o:Int} (hn:c.Nodup) (h:Pair c w o):w≠o:=by
 rintro rfl
 rcases h with⟨a,b⟩|⟨a,b⟩
 ·have:=nI hn a b;omega
 have:=nI hn a b;omega
theorem Pair.other {c:List Int} {l o w p:Int} (h:Pair c l o) (h':Pair c w p):(w=l∧p=o)∨(w=o∧p=l):=by
 rcases h with⟨a,b⟩|⟨a,b⟩<;>rcases h' with⟨a',b'⟩|⟨a',b'⟩
 ·exact Or.inl ⟨Option.some.inj (a'.symm.trans a),Option.some.inj (b'.symm.trans b)⟩
 ·exact Or.inr ⟨Option.some.inj (a'.symm.trans b),Option.some.inj (b'.symm.trans a)⟩
 ·exact Or.inr ⟨Option.some.inj (a'.symm.trans b),Option.some.inj (b'.symm.trans a)⟩
 exact Or.inl ⟨Option.some.inj (a'.symm.trans a),Option.some.inj (b'.symm.trans b)⟩
theorem UP.mono {F G:List (List Int)} {S T:List Int} (hF:∀c∈F,c∈G) (hS:∀x∈S,x∈T):∀{x},UP F S x→UP G T x:=by
 intro x h
 induction h with
 |start h=>exact .start (hS _ h)
 |unit hc hx _ ih=>exact .unit (hF _ hc) hx ih
structure Eng (n:Int) (F:List (List Int)) (S:List Int) (np nc:Nat) (D:Nat→Int→Prop) (val trail:List Int) (ws:List (List Nat)) (cl:List (List Int)):Prop where
 vo:ValOk n F S val
 tr:∀x,x∈trail↔x≠0∧gv val x=some x
 nd:trail.Nodup
 nn:np≤nc∧nc≤trail.length
 bs:∀x∈trail.take nc,UP F [] x
 wl:(ws.length:Int)=2*n+2
 ok:∀(id:Nat) c,cl[id]?=some c→2≤c.length∧c.Nodup∧∀y∈c,y≠0∧vr y≤n
 src:∀(id:Nat) c,cl[id]?=some c→∃o∈F,(∀y∈c,y∈o)∧∀y∈o,y∉c→ -y∈trail.take nc
 cov:∀o∈F,(∃y∈o,y∈trail.take nc)∨∃(id:Nat) (c:List Int),cl[id]?=some c∧∀y∈c,y∈o
 row:∀(r:Nat) ids,ws[r]?=some ids→ids.Nodup∧∀id,id∈ids↔∃c w o,cl[id]?=some c∧Pair c w o∧ixL w=r
 base:∀(id:Nat) c w o,cl[id]?=some c→Pair c w o→ -w∈trail.take np→o∈trail.take np
 pr:∀(id:Nat) c w o,cl[id]?=some c→Pair c w o→D id w→o∈trail
section
variable {n:Int} {F:List (List Int)} {S:List Int} {np nc:Nat} {D:Nat→Int→Prop} {val trail:List Int} {ws:List (List Nat)} {cl:List (List Int)}
theorem Eng.less (h:Eng n F S np nc D val trail ws cl) {D':Nat→Int→Prop} (hD:∀id w,D' id w→D id w):Eng n F S np nc D' val trail ws cl:=
 {h with pr:=fun id c w o h1 h2 h3=>h.pr id c w o h1 h2 (hD _ _ h3) }
theorem Eng.up (h:Eng n F S np nc D val trail ws cl) {x:Int} (hx:x∈trail):UP F S x:=h.vo.up ((h.tr x).1 hx).1 ((h.tr x).1 hx).2
theorem Eng.opp (h:Eng n F S np nc D val trail ws cl) {x:Int} (hx:x∈trail) (hn: -x∈trail):False:=by
 have h1:=(h.tr x).1 hx
 have h2:=(h.tr (-x)).1 hn
 rw[uH,h1.2] at h2
 have:=Option.some.inj h2.2
 exact h1.1 (by omega)
theorem Eng.cases (h:Eng n F S np nc D val trail ws cl) {x:Int} (h0:x≠0) (hx:vr x≤n):(gv val x=some x∧x∈trail)∨(gv val x=some (-x)∧ -x∈trail)∨(gv val x=some 0∧x∉trail∧ -x∉trail):=by
 obtain⟨y,h1,_,h2⟩:=h.vo.get hx
 rcases h2 with rfl|rfl|rfl
 ·refine Or.inr (Or.inr ⟨h1,fun hm=>?_,fun hm=>?_⟩)
  ·have:=((h.tr x).1 hm).2;rw[h1] at this;exact h0 (Option.some.inj this).symm
  have:=((h.tr (-x)).1 hm).2;rw[uH,h1] at this;have:=Option.some.inj this;omega
 ·exact Or.inl ⟨h1,(h.tr _).2 ⟨h0,h1⟩⟩
 exact Or.inr (Or.inl ⟨h1,(h.tr _).2 ⟨by omega,by rw[uH];exact h1⟩⟩)
theorem Eng.done (h:Eng n F S np nc D val trail ws cl) {id:Nat} {c:List Int} {l o:Int} (hc:cl[id]?=some c) (hp:Pair c l o) (ho:o∈trail):Eng n F S np nc (fun i w=>D i w∨(i=id∧w=l)) val trail ws cl:=by
 refine{h with pr:=fun i c' w p h1 h2 h3=>?_}
 rcases h3 with h3|⟨rfl,rfl⟩
 ·exact h.pr i c' w p h1 h2 h3
 obtain rfl:=Option.some.inj (hc.symm.trans h1)
 rcases hp.other h2 with⟨_,rfl⟩|⟨e,_⟩
 ·exact ho
 exact absurd e (hp.ne (h.ok _ _ hc).2.1)
structure Same (c c':List Int):Prop where
 len:c'.length=c.length
 nd:c'.Nodup
 mem:∀y,y∈c'↔y∈c
theorem dS {α:Type} {l:List α} {i j:Nat} {a b:α} (h:(l.set i a)[j]?=some b):(j=i∧b=a)∨(j≠i∧l[j]?=some b):=by
 rw[List.getElem?_set] at h
 split at h
 ·rename_i e
  split at h
  ·exact Or.inl ⟨e.symm,(Option.some.inj h).symm⟩
  cases h
 rename_i e
 exact Or.inr ⟨fun e'=>e e'.symm,h⟩
theorem cZ {α:Type} {l:List α} {i j:Nat} {a:α} (h:j≠i):(l.set i a)[j]?=l[j]?:=by
 rw[List.getElem?_set,if_neg (fun e=>h e.symm)]
theorem dG {α:Type} {l:List α} {i:Nat} {a b:α} (h:l[i]?=some b):(l.set i a)[i]?=some a:=by
 rw[List.getElem?_set,if_pos rfl,if_pos (List.getElem?_eq_some_iff.1 h).1]
theorem Eng.turn (h:Eng n F S np nc D val trail ws cl) {id:Nat} {c c':List Int} (hc:cl[id]?=some c) (hs:Same c c') (hp:∀w o,Pair c' w o↔Pair c w o):Eng n F S np nc D val trail ws (cl.set id c'):=by
 have back:∀(i:Nat) d,(cl.set id c')[i]?=some d→∃d0,cl[i]?=some d0∧(∀y,y∈d↔y∈d0)∧∀w o,Pair d w o↔Pair d0 w o:=fun i d hd=>by
  rcases dS hd with⟨rfl,rfl⟩|⟨_,hd⟩
  ·exact⟨c,hc,hs.mem,hp⟩
  exact⟨d,hd,fun _=>Iff.rfl,fun _ _=>Iff.rfl⟩
 have forth:∀(i:Nat) d,cl[i]?=some d→∃d',(cl.set id c')[i]?=some d'∧(∀y,y∈d'↔y∈d)∧∀w o,Pair d' w o↔Pair d w o:=fun i d hd=>by
  by_cases e:i=id
  ·subst e
   obtain rfl:=Option.some.inj (hc.symm.trans hd)
   exact⟨c',dG hc,hs.mem,hp⟩
  exact⟨d,by rw[cZ e];exact hd,fun _=>Iff.rfl,fun _ _=>Iff.rfl⟩
 refine{h with ok:=fun i d hd=>?_,src:=fun i d hd=>?_,cov:=fun o ho=>?_,row:=fun r ids hr=>?_,base:=fun i d w o hd hw hb=>?_,pr:=fun i d w o hd hw hb=>?_}
 ·rcases dS hd with⟨rfl,rfl⟩|⟨_,hd⟩
  ·have:=h.ok _ _ hc
   exact⟨by rw[hs.len];exact this.1,hs.nd,fun y hy=>this.2.2 y ((hs.mem y).1 hy)⟩
  exact h.ok _ _ hd
 ·obtain⟨d0,h1,h2,_⟩:=back i d hd
  obtain⟨o,ho,h3,h4⟩:=h.src i d0 h1
  exact⟨o,ho,fun y hy=>h3 y ((h2 y).1 hy),fun y hy hn=>h4 y hy fun hm=>hn ((h2 y).2 hm)⟩
 ·rcases h.cov o ho with h1|⟨i,d,h1,h2⟩
  ·exact Or.inl h1
  obtain⟨d',h3,h4,_⟩:=forth i d h1
  exact Or.inr ⟨i,d',h3,fun y hy=>h2 y ((h4 y).1 hy)⟩
 ·obtain⟨h1,h2⟩:=h.row r ids hr
  refine⟨h1,fun i=>(h2 i).trans ⟨?_,?_⟩⟩
  ·rintro⟨d,w,o,h3,h4,h5⟩
   obtain⟨d',h6,_,h7⟩:=forth i d h3
   exact⟨d',w,o,h6,(h7 w o).2 h4,h5⟩
  rintro⟨d,w,o,h3,h4,h5⟩
  obtain⟨d0,h6,_,h7⟩:=back i d h3
  exact⟨d0,w,o,h6,(h7 w o).1 h4,h5⟩
 ·obtain⟨d0,h1,_,h2⟩:=back i d hd
  exact h.base i d0 w o h1 ((h2 w o).1 hw) hb
 obtain⟨d0,h1,_,h2⟩:=back i d hd
 exact h.pr i d0 w o h1 ((h2 w o).1 hw) hb
theorem Eng.hold (h:Eng n F S np nc D val trail ws cl) {x:Int} (h0:x≠0) (hx:vr x≤n) (hz:gv val x=some 0) (hu:UP F S x):Eng n F S np nc D (val.set (vr x).toNat x) (trail++[x]) ws cl:=by
 have hnx:x∉trail:=fun hm=>by have:=((h.tr x).1 hm).2;rw[hz] at this;exact h0 (Option.some.inj this).symm
 have hnn: -x∉trail:=fun hm=>by have:=((h.tr (-x)).1 hm).2;rw[uH,hz] at this;have:=Option.some.inj this;omega
 have ht:∀k,k≤trail.length→(trail++[x]).take k=trail.take k:=fun k hk=>List.take_append_of_le_length hk
 have e1:=ht np (Nat.le_trans h.nn.1 h.nn.2)
 have e2:=ht nc h.nn.2
 refine{vo:=h.vo.set h0 hx hu,tr:=fun y=>?_,nd:=?_,nn:=⟨h.nn.1,by rw[List.length_append];have:=h.nn.2;omega⟩,bs:=by rw[e2];exact h.bs,wl:=h.wl,ok:=h.ok,src:=by rw[e2];exact h.src,cov:=by rw[e2];exact h.cov,row:=h.row,base:=by rw[e1];exact h.base,pr:=fun id c w o a b d=>List.mem_append_left _ (h.pr id c w o a b d) }
 ·rw[gv_set h.vo.len hx,List.mem_append,List.mem_singleton]
  by_cases e:vr y=vr x
  ·rw[if_pos e]
   rcases vr_eq.1 e with rfl|rfl
   ·exact⟨fun _=>⟨h0,rfl⟩,fun _=>Or.inr rfl⟩
   constructor
   ·rintro(hm|hm)
    ·exact absurd hm hnn
    omega
   rintro⟨_,hm⟩
   have:=Option.some.inj hm;omega
  rw[if_neg e]
  refine⟨fun hm=>(h.tr y).1 (hm.resolve_right fun e'=>e (by rw[e'])),fun hm=>Or.inl ((h.tr y).2 hm)⟩
 rw[List.nodup_append]
 exact⟨h.nd,by simp,fun a ha b hb=>by rw[List.mem_singleton] at hb;subst hb;exact fun e=>hnx (e▸ha)⟩
theorem Eng.unit (h:Eng n F S np nc D val trail ws cl) {id:Nat} {c:List Int} {x:Int} (hc:cl[id]?=some c) (hx:x∈c) (hall:∀y∈c,y≠x→ -y∈trail):UP F S x:=by
 obtain⟨o,ho,h1,h2⟩:=h.src id c hc
 refine .unit ho (h1 x hx) fun y hy hne=>h.up ?_
 by_cases hm:y∈c
 ·exact hall y hm hne
 exact List.mem_of_mem_take (h2 y hy hm)
theorem Eng.fail (h:Eng n F S np nc D val trail ws cl) {id:Nat} {c:List Int} (hc:cl[id]?=some c) (hall:∀y∈c,-y∈trail):Fails F S:=by
 obtain⟨o,ho,h1,h2⟩:=h.src id c hc
 refine Or.inr ⟨o,ho,fun y hy=>h.up ?_⟩
 by_cases hm:y∈c
 ·exact hall y hm
 exact List.mem_of_mem_take (h2 y hy hm)
theorem Eng.move (h:Eng n F S np nc D val trail ws cl) {id:Nat} {c c':List Int} {l o y:Int} {V1 V2 R:List Nat} (hc:cl[id]?=some c) (hs:Same c c') (hp:Pair c l o) (hp':Pair c' y o) (hyl:y≠l) (hyo:y≠o)
  (hl: -l∈trail) (hy: -y∉trail) (ho:o∉trail) (hD:∀i w,D i w→ -w∈trail) (hr:ws[ixL l]?=some (V1++id::V2)) (hR:ws[ixL y]?=some R):
  Eng n F S np nc D val trail ((ws.set (ixL y) (R++[id])).set (ixL l) (V1++V2)) (cl.set id c'):=by
 have hlo:=hp.ne (h.ok _ _ hc).2.1
 have hix:ixL y≠ixL l:=fun e=>hyl (rW e)
 refine{vo:=h.vo,tr:=h.tr,nd:=h.nd,nn:=h.nn,bs:=h.bs,wl:=by rw[List.length_set,List.length_set];exact h.wl,ok:=fun i d hd=>?_,src:=fun i d hd=>?_,cov:=fun q hq=>?_,row:=fun r ids hrr=>?_,base:=fun i d w p hd hw hb=>?_,pr:=fun i d w p hd hw hb=>?_}
 ·rcases dS hd with⟨rfl,rfl⟩|⟨_,hd⟩
  ·have:=h.ok _ _ hc
   exact⟨by rw[hs.len];exact this.1,hs.nd,fun y hy=>this.2.2 y ((hs.mem y).1 hy)⟩
  exact h.ok _ _ hd
 ·rcases dS hd with⟨rfl,rfl⟩|⟨_,hd⟩
  ·obtain⟨q,hq,h3,h4⟩:=h.src _ c hc
   exact⟨q,hq,fun z hz=>h3 z ((hs.mem z).1 hz),fun z hz hn=>h4 z hz fun hm=>hn ((hs.mem z).2 hm)⟩
  exact h.src _ _ hd
 ·rcases h.cov q hq with h1|⟨i,d,h1,h2⟩
  ·exact Or.inl h1
  by_cases e:i=id
  ·subst e
   obtain rfl:=Option.some.inj (hc.symm.trans h1)
   exact Or.inr ⟨i,c',dG hc,fun z hz=>h2 z ((hs.mem z).1 hz)⟩
  exact Or.inr ⟨i,d,by rw[cZ e];exact h1,h2⟩
 ·
  have oth:∀i r',i≠id→((∃c w o,(cl.set id c')[i]?=some c∧Pair c w o∧ixL w=r')↔∃c w o,cl[i]?=some c∧Pair c w o∧ixL w=r'):=fun i r' e=>by rw[cZ e]
  have own:∀r',(∃d w p,(cl.set id c')[id]?=some d∧Pair d w p∧ixL w=r')↔(r'=ixL y∨r'=ixL o):=fun r'=>by
   rw[dG hc]
   constructor
   ·rintro⟨d,w,p,h1,h2,h3⟩
    obtain rfl:=Option.some.inj h1
    rcases hp'.other h2 with⟨rfl,_⟩|⟨rfl,_⟩
    ·exact Or.inl h3.symm
    exact Or.inr h3.symm
   rintro(rfl|rfl)
   ·exact⟨c',y,o,rfl,hp',rfl⟩
   exact⟨c',o,y,rfl,hp'.comm,rfl⟩
  have was:∀r',(∃d w p,cl[id]?=some d∧Pair d w p∧ixL w=r')↔(r'=ixL l∨r'=ixL o):=fun r'=>by
   constructor
   ·rintro⟨d,w,p,h1,h2,h3⟩
    obtain rfl:=Option.some.inj (hc.symm.trans h1)
    rcases hp.other h2 with⟨rfl,_⟩|⟨rfl,_⟩
    ·exact Or.inl h3.symm
    exact Or.inr h3.symm
   rintro(rfl|rfl)
   ·exact⟨c,l,o,hc,hp,rfl⟩
   exact⟨c,o,l,hc,hp.comm,rfl⟩
  rcases dS hrr with⟨rfl,rfl⟩|⟨hne,hrr⟩
  ·obtain⟨h1,h2⟩:=h.row _ _ hr
   have hn:id∉V1++V2:=by
    intro hm
    rw[List.nodup_append] at h1
    obtain⟨a1,a2,a3⟩:=h1
    rw[List.nodup_cons] at a2
    rcases List.mem_append.1 hm with hm|hm
    ·exact a3 id hm id (List.mem_cons_self ..) rfl
    exact a2.1 hm
   refine⟨h1.sublist ((List.sublist_cons_self _ _).append_left _),fun i=>?_⟩
   by_cases e:i=id
   ·subst e
    rw[own]
    refine⟨fun hm=>absurd hm hn,fun hm=>?_⟩
    rcases hm with hm|hm
    ·exact absurd hm.symm hix
    exact absurd (rW hm) hlo
   rw[oth i _ e,←h2 i]
   simp[e]
  rcases dS hrr with⟨rfl,rfl⟩|⟨hne2,hrr⟩
  ·obtain⟨h1,h2⟩:=h.row _ _ hR
   have hn:id∉R:=fun hm=>by
    rcases(was _).1 ((h2 id).1 hm) with e|e
    ·exact hix e
    exact hyo (rW e)
   refine⟨?_,fun i=>?_⟩
   ·rw[List.nodup_append]
    exact⟨h1,by simp,fun a ha b hb=>by rw[List.mem_singleton] at hb;subst hb;exact fun e=>hn (e▸ha)⟩
   by_cases e:i=id
   ·subst e
    rw[own]
    exact⟨fun _=>Or.inl rfl,fun _=>by simp⟩
   rw[oth i _ e,←h2 i]
   simp[e]
  obtain⟨h1,h2⟩:=h.row _ _ hrr
  refine⟨h1,fun i=>?_⟩
  by_cases e:i=id
  ·subst e
   rw[own,h2 i,was]
   exact⟨fun hm=>Or.inr (hm.resolve_left hne),fun hm=>Or.inr (hm.resolve_left hne2)⟩
  rw[oth i _ e,←h2 i]
 ·rcases dS hd with⟨rfl,rfl⟩|⟨_,hd⟩
  ·rcases hp'.other hw with⟨rfl,_⟩|⟨rfl,_⟩
   ·exact absurd (List.mem_of_mem_take hb) hy
   have:=h.base _ _ _ _ hc hp.comm hb
   exact(h.opp (List.mem_of_mem_take this) hl).elim
  exact h.base _ _ _ _ hd hw hb
 rcases dS hd with⟨rfl,rfl⟩|⟨_,hd⟩
 ·rcases hp'.other hw with⟨rfl,_⟩|⟨rfl,rfl⟩
  ·exact absurd (hD _ _ hb) hy
  have:=h.pr _ _ _ _ hc hp.comm hb
  exact(h.opp this hl).elim
 exact h.pr _ _ _ _ hd hw hb
theorem Eng.closed (h:Eng n F S np nc D val trail ws cl) (hD:∀id w,-w∈trail→D id w):∀o∈F,Good val o:=by
 intro o ho
 rcases h.cov o ho with⟨y,hy,hm⟩|⟨id,c,hc,hsub⟩
 ·exact Or.inl ⟨y,hy,((h.tr y).1 (List.mem_of_mem_take hm)).2⟩
 obtain⟨h1,h2,h3⟩:=h.ok id c hc
 obtain⟨a,ha⟩:=bJ (show 0<c.length by omega)
 obtain⟨b,hb⟩:=bJ (show 1<c.length by omega)
 have hp:Pair c a b:=Or.inl ⟨ha,hb⟩
 have hA:=h3 a (bK ha)
 have hB:=h3 b (bK hb)
 have good:∀y∈c,y∈trail→Good val o:=fun y hy hm=>Or.inl ⟨y,hsub y hy,((h.tr y).1 hm).2⟩
 rcases h.cases hA.1 hA.2 with⟨_,hm⟩|⟨_,hm⟩|⟨ea,_,_⟩
 ·exact good a (bK ha) hm
 ·exact good b (bK hb) (h.pr id c a b hc hp (hD id a hm))
 rcases h.cases hB.1 hB.2 with⟨_,hm⟩|⟨_,hm⟩|⟨eb,_,_⟩
 ·exact good b (bK hb) hm
 ·exact good a (bK ha) (h.pr id c b a hc hp.comm (hD id b hm))
 exact Or.inr ⟨a,hsub a (bK ha),b,hsub b (bK hb),hp.ne h2,ea,eb⟩
theorem Eng.rebase (h:Eng n F [] np nc D val trail ws cl) (hD:∀id w,-w∈trail→D id w):Eng n F [] trail.length trail.length (fun _ w=> -w∈trail) val trail ws cl:=by
 have e:trail.take trail.length=trail:=List.take_length
 refine{vo:=h.vo,tr:=h.tr,nd:=h.nd,nn:=⟨Nat.le_refl _,Nat.le_refl _⟩,bs:=fun x hx=>h.up (by rw[e] at hx;exact hx),wl:=h.wl,ok:=h.ok,src:=fun id c hc=>?_,cov:=fun o ho=>?_,row:=h.row,base:=fun id c w o hc hp hb=>?_,pr:=fun id c w o hc hp hb=>h.pr id c w o hc hp (hD id w hb) }
 ·obtain⟨o,ho,h1,h2⟩:=h.src id c hc
  exact⟨o,ho,h1,fun y hy hn=>by rw[e];exact List.mem_of_mem_take (h2 y hy hn)⟩
 ·rcases h.cov o ho with⟨y,hy,hm⟩|h1
  ·exact Or.inl ⟨y,hy,by rw[e];exact List.mem_of_mem_take hm⟩
  exact Or.inr h1
 rw[e] at hb⊢
 exact h.pr id c w o hc hp (hD id w hb)
theorem Eng.reset (h:Eng n F S np np D val trail ws cl) {val':List Int} (hl:val'.length=val.length) (hv:∀(v:Nat),(∃x∈trail.drop np,(vr x).toNat=v)→val'[v]?=some 0∨val.length≤v) (hk:∀(v:Nat),(∀x∈trail.drop np,(vr x).toNat≠v)→val'[v]?=val[v]?) (T:List Int):
  Eng n F T np np (fun _ w=> -w∈trail.take np) val' (trail.take np) ws cl:=by
 have e:(trail.take np).take np=trail.take np:=by rw[List.take_take,Nat.min_self]
 have hdis:∀x,x∈trail.take np→x∉trail.drop np:=fun x h1 h2=>by
  have hn:=h.nd
  rw[←List.take_append_drop np trail,List.nodup_append] at hn
  exact hn.2.2 x h1 x h2 rfl
 have sp:∀x,x∈trail→x∈trail.take np∨x∈trail.drop np:=fun x hx=>by
  rw[←List.take_append_drop np trail] at hx;exact List.mem_append.1 hx
 have stay:∀(v:Nat) x,val'[v]?=some x→x≠0→val[v]?=some x∧∀z∈trail.drop np,(vr z).toNat≠v:=fun v x hx h0=>by
  by_cases hz:∃z∈trail.drop np,(vr z).toNat=v
  ·rcases hv v hz with e1|e1
   ·rw[e1] at hx;exact absurd (Option.some.inj hx).symm h0
   have:=dB hx;omega
  have hz':∀z∈trail.drop np,(vr z).toNat≠v:=fun z h1 h2=>hz ⟨z,h1,h2⟩
  rw[hk v hz'] at hx
  exact⟨hx,hz'⟩
 have tr':∀x,x∈trail.take np↔x≠0∧gv val' x=some x:=fun x=>by
  constructor
  ·intro hx
   have h1:=(h.tr x).1 (List.mem_of_mem_take hx)
   refine⟨h1.1,?_⟩
   have:∀z∈trail.drop np,(vr z).toNat≠(vr x).toNat:=fun z hz e1=>by
    have a:=jC z
    have b:=jC x
    rcases vr_eq.1 (show vr z=vr x by omega) with rfl|rfl
    ·exact hdis _ hx hz
    exact h.opp (List.mem_of_mem_take hx) (List.mem_of_mem_drop hz)
   unfold gv
   rw[hk _ this]
   exact h1.2
  rintro⟨h0,hx⟩
  obtain⟨h1,h2⟩:=stay _ x hx h0
  have hm:=(h.tr x).2 ⟨h0,h1⟩
  rcases sp x hm with hm|hm
  ·exact hm
  exact absurd rfl (h2 x hm)
 refine{vo:=⟨by have:=h.vo.len;omega,fun v x hx=>?_,fun v x hx h0=>?_⟩,tr:=tr',nd:=h.nd.sublist (List.take_sublist _ _),nn:=⟨Nat.le_refl _,by rw[List.length_take];have:=h.nn.2;omega⟩,bs:=by rw[e];exact h.bs,wl:=h.wl,ok:=h.ok,src:=by rw[e];exact h.src,cov:=by rw[e];exact h.cov,row:=h.row,base:=by rw[e];exact h.base,pr:=fun id c w o hc hp hb=>h.base id c w o hc hp hb}
 ·by_cases h0:x=0
  ·exact Or.inl h0
  exact h.vo.own v x (stay v x hx h0).1
 have h1:=stay v x hx h0
 have h2:gv val x=some x:=by
  rcases h.vo.own v x h1.1 with e1|⟨_,e1⟩
  ·exact absurd e1 h0
  unfold gv;rw[e1];simpa using h1.1
 have hm:=(h.tr x).2 ⟨h0,h2⟩
 rcases sp x hm with hm|hm
 ·exact(h.bs x hm).mono (fun _ h=>h) (by simp)
 have:(vr x).toNat=v:=by
  rcases h.vo.own v x h1.1 with e1|⟨_,e1⟩
  ·exact absurd e1 h0
  omega
 exact absurd this (h1.2 x hm)
end
end Go.Proofs.Ytpkhmndpeipfmaa

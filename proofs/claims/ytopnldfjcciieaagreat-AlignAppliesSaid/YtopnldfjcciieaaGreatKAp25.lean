/- The code goes as its model: assessor/assessorlaw38.AlignApplies. (Printed by wip/sp/gen.py.) -/
import Derived.Test.YtopnldfjcciieaaGreatKApT
import Derived.Test.YtopnldfjcciieaaGreatKAp4
import Derived.Test.YtopnldfjcciieaaGreatKAp5
import Derived.Test.YtopnldfjcciieaaGreatKAp24
import Derived.Test.YtopnldfjcciieaaGreatKAp2
import Derived.Test.YtopnldfjcciieaaGreatKAp3
import Derived.Test.YtopnldfjcciieaaGreatKAp7
set_option linter.unusedVariables false
set_option linter.unusedSimpArgs false
set_option maxRecDepth 100000
set_option maxHeartbeats 4000000
namespace Go.Proofs.YtopnldfjcciieaaGreat
open Go.RowKit
theorem c_assessorlaw38_AlignApplies {Z:World} {ρ:PH} {L:List bI} {w:World} (p0:(List Node)) (vp0:Value) (hp0:aH ρ vp0 p0) (p1:(List Chg)) (vp1:Value) (hp1:aH ρ vp1 p1) (hp:Hp Z ρ (L) w) (r:Bool) (hm:lF p0 p1=some r):
  Calls Tryz.prog 8 #[vp0,vp1] w (Ret fun v w'=>v=(.bool r)∧Hp Z ρ (L) w'):=by
 refine enter (N:=64) Tryz.func8 rfl rfl [(0,vp0),(1,vp1)] rfl (aY ⟨rfl,rfl,trivial⟩) fun a hE=>?_
 unfold lF at hm
 refine aF (aA ?_)
 refine S hE 1 rfl fun a hE=>aB (aF ?_)
 refine aF (aA ?_)
 obtain⟨x1,ex1,hm⟩:=bnd hm
 refine Cl hE rfl rfl ent10 (aB1 hp x1 ex1) trivial fun v a w hR hE=>?_
 obtain⟨rfl,hp⟩:=hR
 have hp:=r0 hp
 refine S hE 1 rfl fun a hE=>aB ?_
 refine dG hE rfl (fun hc1=>?_) (fun hc1=>?_)
 ·replace hm:=(it hc1).symm.trans hm
  refine aF (aA ?_)
  refine S hE 1 rfl fun a hE=>aB (dB ?_)
  obtain rfl:=oj hm
  exact gW hE rfl rfl ⟨_,rfl,rfl,hp⟩
 replace hm:=(ie hc1).symm.trans hm
 refine aZ (aF ?_)
 refine aF (aA ?_)
 refine S hE 1 rfl fun a hE=>V hE hp rfl (bW rfl hE rfl (aH.len hp0 eH)) fun a hE=>S hE 2 rfl fun a hE=>?_
 refine iC [_,_,_,_] (fun a w=>Env 64 [(22,(.bool ((decide (4<(p0.length:Int)))||(decide (10<(p1.length:Int)))))),(0,vp0),(1,vp1)] a∧Hp Z ρ (L) w) ?_ ?_
 ·rcases Bool.eq_false_or_eq_true (decide (4<(p0.length:Int))) with hc2|hc2
  ·
   refine Gk hE hc2 rfl fun a hE=>Gk hE hc2 rfl fun a hE=>Gk hE hc2 rfl fun a hE=>pk1 hE hc2 rfl rfl rfl rfl fun a hE=>?_
   have hE:=hE.eqv (v':=(.bool ((decide (4<(p0.length:Int)))||(decide (10<(p1.length:Int)))))) (by rw[hc2];rfl)
   exact aB ⟨hE.cut ⟨rfl,rfl,rfl,trivial⟩,hp⟩
  refine Gs hE hc2 rfl rfl fun a hE=>G hE hp hc2 rfl (bW rfl hE rfl (aH.len hp1 rU)) fun a hE=>Gs hE hc2 rfl rfl fun a hE=>pk0 hE hc2 rfl rfl rfl rfl fun a hE=>?_
  have hE:=hE.eqv (v':=(.bool ((decide (4<(p0.length:Int)))||(decide (10<(p1.length:Int)))))) (by rw[hc2];rfl)
  exact aB ⟨hE.cut ⟨rfl,rfl,rfl,trivial⟩,hp⟩
 rintro a w ⟨hE,hp⟩
 refine aB ?_
 refine dG hE rfl (fun hc3=>?_) (fun hc3=>?_)
 ·replace hm:=(it hc3).symm.trans hm
  refine aF (aA ?_)
  refine S hE 1 rfl fun a hE=>aB (dB ?_)
  obtain rfl:=oj hm
  exact gW hE rfl rfl ⟨_,rfl,rfl,hp⟩
 replace hm:=(ie hc3).symm.trans hm
 refine aZ (aF ?_)
 refine aF (aA ?_)
 refine S hE 1 rfl fun a hE=>V hE hp rfl (bW rfl hE rfl (aH.len hp0 eH)) fun a hE=>S hE 1 rfl fun a hE=>aB ?_
 obtain⟨b1,hc4,hm⟩:=bnd hm
 refine dK (fun a w=>∃s:Unit,b1= .brk s∧(Env 64 [(0,vp0),(1,vp1)] a∧Hp Z ρ (L) w)) ?_ ?_
 ·refine eF hc4 (fun s a w=>Env 64 [(0,vp0),(1,vp1),(23,vp0),(24,(Iv (p0.length:Int))),(25,(Iv s))] a∧Hp Z ρ (L) w) ?_ ?_
  ·exact⟨hE.cut ⟨rfl,rfl,rfl,rfl,rfl,trivial⟩,hp⟩
  rintro aO st a w ⟨hE,hp⟩ hl1
  unfold fU at hl1
  refine aF (aA ?_)
  refine S hE 1 rfl fun a hE=>aB (aF ?_)
  refine dG hE rfl (fun hc5=>?_) (fun hc5=>?_)
  ·replace hl1:=(it hc5).symm.trans hl1
   refine aZ (aF ?_)
   refine dO (aF ?_)
   refine aA ?_
   obtain⟨x2,ex2,hl1⟩:=bnd hl1
   obtain⟨b2,b2o,b2c,b2r,b2k,b2f⟩:=aH.at hp0 eH ex2
   obtain⟨jJ,rfl,wG⟩:=NodeAt.opens b2k
   have b2f:AtP ρ b2 b2o [(Iv x2.kind),(.string x2.text),(Iv x2.at_),(Iv x2.fin),jJ]:=b2f
   refine V hE hp rfl (aP rfl hE rfl rfl b2r) fun a hE=>V hE hp rfl (aJ rfl hE rfl (fun w hw=>aX (cs:=[(Iv x2.kind),(.string x2.text),(Iv x2.at_),(Iv x2.fin),jJ]) dF (fun j u hj=>cell_of hw.le (b2f j u hj)))) fun a hE=>?_
   refine dH (wk0 rfl) rfl rfl hE hp rfl [(Iv 0),(.string ByteArray.empty),(Iv 0),(Iv 0),N0] (fun w=>by simp[Instr.alloc,go_sem]<;>rfl) ?_
   intro a w b3 hE hp
   have hp:=r1 hp
   refine aV (wk0 rfl) rfl hE hp rfl rfl rfl 0 rfl dF.size_ rfl (aN ⟨rfl,rfl,rfl,rfl,(aH.one wG),trivial⟩) [(Iv x2.kind),(.string x2.text),(Iv x2.at_),(Iv x2.fin),jJ] rfl ?_
   intro w hp
   have hp:=r1 hp
   refine aB (aF ?_)
   refine aA (V hE hp rfl (aJ rfl hE rfl (fun w hw=>aX (cs:=[(Iv x2.kind),(.string x2.text),(Iv x2.at_),(Iv x2.fin),jJ]) dF (Hp.cN 0 rfl 0 _ (aT rfl) w hw))) fun a hE=>?_)
   obtain⟨x3,ex3,hl1⟩:=bnd hl1
   refine Cl hE rfl rfl ent31 (aE5 x2 jJ wG 12 hp x3 ex3) ⟨rfl,rfl,trivial⟩ fun v a w hR hE=>?_
   obtain⟨rfl,hp⟩:=hR
   have hp:=r1 hp
   refine S hE 1 rfl fun a hE=>aB ?_
   refine dG hE rfl (fun hc6=>?_) (fun hc6=>?_)
   ·replace hl1:=(it hc6).symm.trans hl1
    refine aF (aA ?_)
    refine S hE 1 rfl fun a hE=>aB ?_
    have hE:=hE.cut (E':=[(4,(.bool true))]) ⟨rfl,trivial⟩
    refine dB ?_
    refine⟨_,(oj hl1).symm,fun hb=>?_⟩
    subst hb
    obtain rfl:=oj hm
    exact gW hE rfl rfl ⟨_,rfl,rfl,(hp.drop)⟩
   replace hl1:=(ie hc6).symm.trans hl1
   refine aZ (aA ?_)
   obtain⟨x4,ex4,hl1⟩:=bnd hl1
   refine V hE hp rfl (bF rfl hE rfl rfl (aK ex4)) fun a hE=>S hE 1 rfl fun a hE=>aB ?_
   exact⟨_,(oj hl1).symm,hE.cut ⟨rfl,rfl,rfl,rfl,rfl,trivial⟩,(hp.drop)⟩
  replace hl1:=(ie hc5).symm.trans hl1
  refine dU ?_
  refine⟨_,(oj hl1).symm,fun hbb=>?_⟩
  exact⟨_,hbb.symm,hE.cut ⟨rfl,rfl,trivial⟩,hp⟩
 rintro a w ⟨b1s,rfl,hE,hp⟩
 dsimp only at hm
 refine aF (aF ?_)
 refine aA (S hE 1 rfl fun a hE=>?_)
 refine V hE hp rfl (bW rfl hE rfl (aH.len hp1 rU)) fun a hE=>S hE 1 rfl fun a hE=>aB ?_
 obtain⟨b4,hc7,hm⟩:=bnd hm
 refine dK (fun a w=>∃s:Unit,b4= .brk s∧(Env 64 [(0,vp0),(1,vp1)] a∧Hp Z ρ (L) w)) ?_ ?_
 ·refine eF hc7 (fun s a w=>Env 64 [(0,vp0),(1,vp1),(33,vp1),(34,(Iv (p1.length:Int))),(35,(Iv s))] a∧Hp Z ρ (L) w) ?_ ?_
  ·exact⟨hE.cut ⟨rfl,rfl,rfl,rfl,rfl,trivial⟩,hp⟩
  rintro bK st a w ⟨hE,hp⟩ hl2
  unfold jI at hl2
  refine aF (aA ?_)
  refine S hE 1 rfl fun a hE=>aB (aF ?_)
  refine dG hE rfl (fun hc8=>?_) (fun hc8=>?_)
  ·replace hl2:=(it hc8).symm.trans hl2
   refine aZ (aF ?_)
   refine dO (aF ?_)
   refine aA ?_
   obtain⟨x5,ex5,hl2⟩:=bnd hl2
   obtain⟨b5,b5o,b5c,b5r,b5k,b5f⟩:=aH.at hp1 rU ex5
   obtain rfl:b5c=Enc.enc x5:=b5k
   have b5f:AtP ρ b5 b5o [(Iv x5.op),(Iv x5.node),(Iv x5.index),(Iv x5.count),(Iv x5.kind),(.string x5.text)]:=b5f
   refine V hE hp rfl (aP rfl hE rfl rfl b5r) fun a hE=>V hE hp rfl (aJ rfl hE rfl (fun w hw=>aX (cs:=[(Iv x5.op),(Iv x5.node),(Iv x5.index),(Iv x5.count),(Iv x5.kind),(.string x5.text)]) pK (fun j u hj=>cell_of hw.le (b5f j u hj)))) fun a hE=>?_
   refine dH (wk0 rfl) rfl rfl hE hp rfl [(Iv 0),(Iv 0),(Iv 0),(Iv 0),(Iv 0),(.string ByteArray.empty)] (fun w=>by simp[Instr.alloc,go_sem]<;>rfl) ?_
   intro a w b6 hE hp
   have hp:=r1 hp
   refine aV (wk0 rfl) rfl hE hp rfl rfl rfl 0 rfl pK.size_ rfl (aN ⟨rfl,rfl,rfl,rfl,rfl,rfl,trivial⟩) [(Iv x5.op),(Iv x5.node),(Iv x5.index),(Iv x5.count),(Iv x5.kind),(.string x5.text)] rfl ?_
   intro w hp
   have hp:=r1 hp
   refine aB (aF ?_)
   refine aA (V hE hp rfl (xf hE aD5 rfl rfl) fun a hE=>?_)
   refine V hE hp rfl (xl hE yD 0 rfl rfl rfl rfl) fun a hE=>V hE hp rfl (v:=(Iv (x5.text.size:Int))) (ex_slen sty9 rfl hE rfl) fun a hE=>S hE 1 rfl fun a hE=>aB ?_
   have hE:=hE.cut (E':=[(0,vp0),(1,vp1),(33,vp1),(34,(Iv (p1.length:Int))),(35,(Iv bK)),(42,(.bool (decide (40<(x5.text.size:Int)))))]) ⟨rfl,rfl,rfl,rfl,rfl,rfl,trivial⟩
   refine dG hE rfl (fun hc9=>?_) (fun hc9=>?_)
   ·replace hl2:=(it hc9).symm.trans hl2
    refine aF (aA ?_)
    refine S hE 1 rfl fun a hE=>aB (dB ?_)
    refine⟨_,(oj hl2).symm,fun hb=>?_⟩
    subst hb
    obtain rfl:=oj hm
    exact gW hE rfl rfl ⟨_,rfl,rfl,(hp.drop)⟩
   replace hl2:=(ie hc9).symm.trans hl2
   refine aZ (aA ?_)
   obtain⟨x6,ex6,hl2⟩:=bnd hl2
   refine V hE hp rfl (bF rfl hE rfl rfl (aK ex6)) fun a hE=>S hE 1 rfl fun a hE=>aB ?_
   exact⟨_,(oj hl2).symm,hE.cut ⟨rfl,rfl,rfl,rfl,rfl,trivial⟩,(hp.drop)⟩
  replace hl2:=(ie hc8).symm.trans hl2
  refine dU ?_
  refine⟨_,(oj hl2).symm,fun hbb=>?_⟩
  exact⟨_,hbb.symm,hE.cut ⟨rfl,rfl,trivial⟩,hp⟩
 rintro a w ⟨b4s,rfl,hE,hp⟩
 dsimp only at hm
 refine aF (aA ?_)
 refine S hE 2 rfl fun a hE=>?_
 obtain⟨x7,ex7,hm⟩:=bnd hm
 refine Cl hE rfl rfl ent24 (c_Apply p0 vp0 hp0 p1 vp1 hp1 hp x7 ex7) ⟨rfl,rfl,trivial⟩ fun v a w hR hE=>?_
 obtain⟨ρ1,vr3,hle1,rfl,hr3,hp⟩:=hR
 have hp:=r0 hp
 refine S hE 5 rfl fun a hE=>aB (aF ?_)
 refine aA (S hE 2 rfl fun a hE=>?_)
 obtain⟨x8,ex8,hm⟩:=bnd hm
 refine Cl hE rfl rfl ent32 (aB4 p0 vp0 (aH.mono hp0 hle1) p1 vp1 (aH.mono hp1 hle1) hp x8 ex8) ⟨rfl,rfl,trivial⟩ fun v a w hR hE=>?_
 obtain⟨ρ2,vr5,hle2,rfl,hr5,hp⟩:=hR
 have hp:=r0 hp
 refine S hE 5 rfl fun a hE=>aB ?_
 have hE:=hE.cut (E':=[(9,vr3),(10,(Iv x7.2)),(11,vr5),(12,(Iv x8.2))]) ⟨rfl,rfl,rfl,rfl,trivial⟩
 refine aF (aA ?_)
 refine S hE 4 rfl fun a hE=>?_
 obtain⟨m1,hg1,hm⟩:=bnd hm
 refine iC [_,_,_,_] (fun a w=>Env 64 [(63,(.bool m1))] a∧Hp Z ρ2 (L) w) ?_ ?_
 ·rcases Bool.eq_false_or_eq_true (decide (x7.2=x8.2)) with hc10|hc10
  ·
   replace hg1:=(it hc10).symm.trans hg1
   refine Gs hE hc10 rfl rfl fun a hE=>Gs hE hc10 rfl rfl fun a hE=>?_
   obtain⟨x9,ex9,hg1⟩:=bnd hg1
   refine Cg hE hc10 rfl rfl ent25 (wE x7.1 vr3 (aH.mono hr3 hle2) x8.1 vr5 hr5 hp x9 ex9) ⟨rfl,rfl,trivial⟩ fun v a w hR hE=>?_
   obtain⟨rfl,hp⟩:=hR
   have hp:=r0 hp
   refine pk1 hE hc10 rfl rfl rfl rfl fun a hE=>?_
   obtain rfl:=oj hg1
   exact aB ⟨hE.cut ⟨rfl,trivial⟩,hp⟩
  replace hg1:=(ie hc10).symm.trans hg1
  refine Gk hE hc10 rfl fun a hE=>Gk hE hc10 rfl fun a hE=>Gk hE hc10 rfl fun a hE=>pk0 hE hc10 rfl rfl rfl rfl fun a hE=>?_
  obtain rfl:=oj hg1
  exact aB ⟨hE.cut ⟨rfl,trivial⟩,hp⟩
 rintro a w ⟨hE,hp⟩
 refine S hE 1 rfl fun a hE=>aB (dB ?_)
 obtain rfl:=oj hm
 exact gW hE rfl rfl ⟨_,rfl,rfl,((hp.less hle2).less hle1)⟩
theorem loop_at {σ β:Type} {body:σ→Option (Step σ β)} {b:β} (S:Nat→σ):∀(n:Nat),(∀k,k<n→body (S k)=some (.next (S (k+1))))→body (S n)=some (.done b)→eQ body (S 0)=some b
 |0,_,h=>pW h
 |n+1,h1,h2=>by
  rw[yO (h1 0 (by omega))]
  exact loop_at (fun k=>S (k+1)) n (fun k hk=>h1 (k+1) (by omega)) h2
theorem loop_from {σ β:Type} {body:σ→Option (Step σ β)} {b:β} {s:σ} (S:Nat→σ) (n:Nat) (h0:s=S 0) (h1:∀k,k<n→body (S k)=some (.next (S (k+1)))) (h2:body (S n)=some (.done b)):eQ body s=some b:=by
 rw[h0];exact loop_at S n h1 h2
theorem bind_loop {σ β γ:Type} {body:σ→Option (Step σ β)} {s:σ} {f:β→Option γ} {r:Option γ} (S:Nat→σ) (n:Nat) (b:β) (h0:s=S 0) (h1:∀k,k<n→body (S k)=some (.next (S (k+1)))) (h2:body (S n)=some (.done b)) (hf:f b=r):(eQ body s).bind f=r:=by
 rw[loop_from S n h0 h1 h2];exact hf
theorem inK_eq {n:Int} (h: -9223372036854775808≤n∧n≤9223372036854775807):inK .i64 n=some n:=inK_ok n h.1 h.2
theorem pV {k:Nat} (h:k≤4611686018427387904):inK .i64 ((k:Int)+1)=some ((k+1:Nat):Int):=by
 rw[inK_ok _ (by omega) (by omega)];rfl
theorem vO {α:Type} {l:List α} {k:Nat} {a:α} (h:l[k]?=some a):idx l (k:Int)=some a:=by
 unfold idx;rw[if_pos (by omega)];simpa using h
theorem oJ {α:Type} {l:List α} {k:Nat} (h:k<l.length):∃a,l[k]?=some a:=⟨_,List.getElem?_eq_getElem h⟩
theorem U3 {α:Type} {l m:List α} (h:l.length+m.length≤4294967296):app l m=some (l++m):=by unfold app;rw[if_pos h]
theorem sub_ok {α:Type} {l:List α} {i j:Int} (h0:0≤i) (h1:i≤j) (h2:j≤l.length):sub l i j=some ((l.take j.toNat).drop i.toNat):=by unfold sub;rw[if_pos ⟨h0,h1,h2⟩]
theorem I64.r {n:Int} (h:(Lit.int .i64 n).wf=true): -9223372036854775808≤n∧n≤9223372036854775807:=by
 simp[Lit.wf,IntKind.min,IntKind.max,IntKind.signed,IntKind.bits] at h
 exact⟨by omega,by omega⟩
theorem U8.r {n:Int} (h:(Lit.int .u8 n).wf=true):0≤n∧n≤255:=by
 simp[Lit.wf,IntKind.min,IntKind.max,IntKind.signed,IntKind.bits] at h
 omega
theorem first_or {α:Type} (p:α→Bool):∀(l:List α),(∃k a,l[k]?=some a∧p a=true∧(∀j b,j<k→l[j]?=some b→p b=false)∧l.any p=true∧l.findIdx p=k)∨((∀a∈l,p a=false)∧l.any p=false∧l.findIdx p=l.length)
 | []=>Or.inr ⟨by simp,rfl,rfl⟩
 |x::l=>by
  cases hx:p x with
  |true=>exact Or.inl ⟨0,x,rfl,hx,fun j b hj=>by omega,by simp[hx],by simp[List.findIdx_cons,hx]⟩
  |false=>
   rcases first_or p l with⟨k,a,h1,h2,h3,h4,h5⟩|⟨h1,h2,h3⟩
   ·refine Or.inl ⟨k+1,a,by simpa using h1,h2,fun j b hj hb=>?_,by simp[hx,h4],by simp[List.findIdx_cons,hx,h5]⟩
    cases j with
    |zero=>simp at hb;subst hb;exact hx
    |succ j=>exact h3 j b (by omega) (by simpa using hb)
   refine Or.inr ⟨fun a ha=>?_,by simp[hx,h2],by simp[List.findIdx_cons,hx,h3]⟩
   rcases List.mem_cons.1 ha with rfl|ha
   ·exact hx
   exact h1 a ha
theorem scan_loop {α β:Type} {body:Int→Option (Step Int β)} (l:List α) (p:α→Bool) (hit:Nat→α→β) (miss:β)
  (h1:∀(k:Nat) a,l[k]?=some a→body k=some (if p a=true then .done (hit k a) else .next ((k+1:Nat):Int))) (h2:body (l.length:Int)=some (.done miss)):
  (∃k a,l[k]?=some a∧p a=true∧(∀j b,j<k→l[j]?=some b→p b=false)∧l.any p=true∧l.findIdx p=k∧eQ body 0=some (hit k a))∨((∀a∈l,p a=false)∧l.any p=false∧l.findIdx p=l.length∧eQ body 0=some miss):=by
 rcases first_or p l with⟨k,a,a1,a2,a3,a4,a5⟩|⟨a1,a2,a3⟩
 ·refine Or.inl ⟨k,a,a1,a2,a3,a4,a5,loop_from (fun j=>(j:Int)) k rfl (fun j hj=>?_) ?_⟩
  ·obtain⟨b,hb⟩:=oJ (show j<l.length by have:=(List.getElem?_eq_some_iff.1 a1).1;omega)
   rw[h1 j b hb,a3 j b hj hb];rfl
  rw[h1 k a a1,a2];rfl
 refine Or.inr ⟨a1,a2,a3,loop_from (fun j=>(j:Int)) l.length rfl (fun j hj=>?_) h2⟩
 obtain⟨b,hb⟩:=oJ hj
 rw[h1 j b hb,a1 b (List.mem_of_getElem? hb)];rfl
theorem any_loop {α β:Type} {body:Int→Option (Step Int β)} (l:List α) (p:α→Bool) (hit miss:β)
  (h1:∀(k:Nat) a,l[k]?=some a→body k=some (if p a=true then .done hit else .next ((k+1:Nat):Int))) (h2:body (l.length:Int)=some (.done miss)):eQ body 0=some (if l.any p=true then hit else miss):=by
 rcases scan_loop l p (fun _ _=>hit) miss h1 h2 with⟨k,a,_,_,_,h,_,e⟩|⟨_,h,_,e⟩
 ·rw[e,h];rfl
 rw[e,h];rfl
theorem same_loop {α β:Type} [DecidableEq α] {body:Int→Option (Step Int β)} {a b:List α} (hl:a.length=b.length) (hit miss:β)
  (h1:∀(k:Nat) x y,a[k]?=some x→b[k]?=some y→body k=some (if x=y then .next ((k+1:Nat):Int) else .done hit)) (h2:body (a.length:Int)=some (.done miss)):eQ body 0=some (if a=b then miss else hit):=by
 have hzl:(a.zip b).length=a.length:=by rw[List.length_zip];omega
 have hz:(a.zip b).any (fun p=>decide (p.1≠p.2))=decide (a≠b):=by
  clear h1 h2 hzl
  induction a generalizing b with
  |nil=>cases b with
   |nil=>simp
   |cons y b=>simp at hl
  |cons x a ih=>cases b with
   |nil=>simp at hl
   |cons y b=>
    simp only[List.length_cons,Nat.add_right_cancel_iff] at hl
    simp only[List.zip_cons_cons,List.any_cons,ih hl,ne_eq,List.cons.injEq]
    by_cases hx:x=y<;>by_cases hb:a=b<;>simp[hx,hb]
 have:=any_loop (body:=body) (a.zip b) (fun p=>decide (p.1≠p.2)) hit miss (fun k p hp=>by
  obtain⟨x,y⟩:=p
  have hk:=(List.getElem?_eq_some_iff.1 hp).1
  rw[hzl] at hk
  obtain⟨x',hx⟩:=oJ hk
  obtain⟨y',hy⟩:=oJ (show k<b.length by omega)
  rw[List.getElem?_zip_eq_some] at hp
  rw[h1 k x y hp.1 hp.2]
  by_cases h:x=y<;>simp[h]) (by rw[hzl];exact h2)
 rw[this,hz]
 by_cases h:a=b<;>simp[h]
theorem bind_any {α β γ:Type} {body:Int→Option (Step Int β)} {f:β→Option γ} {r:Option γ} (l:List α) (p:α→Bool) (hit miss:β)
  (h1:∀(k:Nat) a,l[k]?=some a→body k=some (if p a=true then .done hit else .next ((k+1:Nat):Int))) (h2:body (l.length:Int)=some (.done miss)) (hf:f (if l.any p=true then hit else miss)=r):(eQ body 0).bind f=r:=by
 rw[any_loop l p hit miss h1 h2];exact hf
theorem drop_cons_of {α:Type} {l:List α} {k:Nat} {a:α} (h:l[k]?=some a):l.drop k=a::l.drop (k+1):=by
 obtain⟨h1,h2⟩:=List.getElem?_eq_some_iff.1 h
 rw[←h2];exact List.drop_eq_getElem_cons h1
theorem take_snoc_of {α:Type} {l:List α} {k:Nat} {a:α} (h:l[k]?=some a):l.take (k+1)=l.take k++[a]:=by
 obtain⟨h1,h2⟩:=List.getElem?_eq_some_iff.1 h
 rw[←h2];exact List.take_succ_eq_append_getElem h1
theorem bsm {α β:Type} (a:α) (f:α→Option β):(some a).bind f=f a:=rfl
mutual
def ndN:Node→Nat→Option Node
 |⟨_,_,_,_,kids⟩,k=>ndL kids k
def ndL:List Node→Nat→Option Node
 | [],_=>none
 |n::r,k=>if k=0 then some n else if k<iJ n then ndN n (k-1) else ndL r (k-iJ n)
end
mutual
def rpN (f:Node→List Node):Node→Nat→Node
 |⟨a,b,c,d,kids⟩,k=>⟨a,b,c,d,rpL f kids k⟩
def rpL (f:Node→List Node):List Node→Nat→List Node
 | [],_=>[]
 |n::r,k=>if k=0 then f n++r else if k<iJ n then rpN f n (k-1)::r else n::rpL f r (k-iJ n)
end
theorem aC6 (n:Node) (r:List Node) (k:Nat):ndL (n::r) k=if k=0 then some n else if k<iJ n then ndL n.kids (k-1) else ndL r (k-iJ n):=by
 obtain⟨a,b,c,d,kids⟩:=n
 rw[ndL,ndN]
theorem aC8 (f:Node→List Node) (n:Node) (r:List Node) (k:Nat):rpL f (n::r) k=if k=0 then f n++r else if k<iJ n then n.re (rpL f n.kids (k-1))::r else n::rpL f r (k-iJ n):=by
 obtain⟨a,b,c,d,kids⟩:=n
 rw[rpL,rpN];rfl
theorem ndL_nil (k:Nat):ndL [] k=none:=by rw[ndL]
theorem rpL_nil (f:Node→List Node) (k:Nat):rpL f [] k=[]:=by rw[rpL]
theorem I9:fD []=0:=by rw[fD]
theorem cntN_re (n:Node) (ks:List Node):iJ (n.re ks)=1+fD ks:=lD _
theorem Q7 (n:Node):0<iJ n:=by have:=lD n;omega
theorem tr_ind {P:List Node→Nat→Prop} (h0:∀k,P [] k) (h1:∀n r,P (n::r) 0) (h2:∀n r k,k<fD n.kids→P n.kids k→P (n::r) (k+1)) (h3:∀n r k,P r k→P (n::r) (iJ n+k)):∀ts k,P ts k:=by
 have go:∀(m:Nat) (ts:List Node) (k:Nat),SizeOf.sizeOf ts≤m→P ts k:=by
  intro m
  induction m with
  |zero=>intro ts k h;cases ts<;>simp at h
  |succ m ih=>
   intro ts k h
   cases ts with
   |nil=>exact h0 k
   |cons n r=>
    simp only[List.cons.sizeOf_spec] at h
    by_cases hk:k=0
    ·subst hk;exact h1 n r
    have hc:=lD n
    by_cases hl:k<iJ n
    ·have hs:SizeOf.sizeOf n.kids<SizeOf.sizeOf n:=by obtain⟨a,b,c,d,kids⟩:=n;simp;omega
     have:=h2 n r (k-1) (by omega) (ih n.kids (k-1) (by omega))
     rwa [show k-1+1=k by omega] at this
    have:=h3 n r (k-iJ n) (ih r _ (by omega))
    rwa [show iJ n+(k-iJ n)=k by omega] at this
 exact fun ts k=>go _ ts k (Nat.le_refl _)
theorem nd_in {n:Node} {r:List Node} {k:Nat} (h:k<fD n.kids):ndL (n::r) (k+1)=ndL n.kids k:=by
 have:=lD n
 rw[aC6,if_neg (by omega),if_pos (by omega),Nat.add_sub_cancel]
theorem nd_on {n:Node} {r:List Node} {k:Nat}:ndL (n::r) (iJ n+k)=ndL r k:=by
 have:=Q7 n
 rw[aC6,if_neg (by omega),if_neg (by omega),Nat.add_sub_cancel_left]
theorem rp_in {f:Node→List Node} {n:Node} {r:List Node} {k:Nat} (h:k<fD n.kids):rpL f (n::r) (k+1)=n.re (rpL f n.kids k)::r:=by
 have:=lD n
 rw[aC8,if_neg (by omega),if_pos (by omega),Nat.add_sub_cancel]
theorem rp_on {f:Node→List Node} {n:Node} {r:List Node} {k:Nat}:rpL f (n::r) (iJ n+k)=n::rpL f r k:=by
 have:=Q7 n
 rw[aC8,if_neg (by omega),if_neg (by omega),Nat.add_sub_cancel_left]
theorem nd_0 (n:Node) (r:List Node):ndL (n::r) 0=some n:=by rw[aC6,if_pos rfl]
theorem rp_0 (f:Node→List Node) (n:Node) (r:List Node):rpL f (n::r) 0=f n++r:=by rw[aC8,if_pos rfl]
theorem nd_some:∀ts k,k<fD ts→∃x,ndL ts k=some x:=by
 refine tr_ind (fun k h=>?_) (fun n r _=>⟨n,nd_0 n r⟩) (fun n r k hk ih _=>?_) (fun n r k ih h=>?_)
 ·rw[I9] at h;omega
 ·rw[nd_in hk];exact ih hk
 rw[nd_on];rw[gI] at h;exact ih (by omega)
theorem nd_none:∀ts k,fD ts≤k→ndL ts k=none∧∀f,rpL f ts k=ts:=by
 refine tr_ind (fun k h=>⟨ndL_nil k,fun f=>rpL_nil f k⟩) (fun n r h=>?_) (fun n r k hk ih h=>?_) (fun n r k ih h=>?_)
 ·rw[gI] at h;have:=Q7 n;omega
 ·rw[gI] at h;have:=lD n;omega
 rw[gI] at h
 obtain⟨h1,h2⟩:=ih (by omega)
 exact⟨by rw[nd_on,h1],fun f=>by rw[rp_on,h2]⟩
theorem nd_le:∀ts k x,ndL ts k=some x→k+iJ x≤fD ts:=by
 refine tr_ind (fun k x h=>?_) (fun n r x h=>?_) (fun n r k hk ih x h=>?_) (fun n r k ih x h=>?_)
 ·rw[ndL_nil] at h;cases h
 ·rw[nd_0] at h;cases h;rw[gI];omega
 ·rw[nd_in hk] at h;have:=ih x h;rw[gI,lD n];omega
 rw[nd_on] at h;have:=ih x h;rw[gI];omega
theorem rp_cnt (f:Node→List Node):∀ts k x,ndL ts k=some x→fD (rpL f ts k)+iJ x=fD ts+fD (f x):=by
 refine tr_ind (fun k x h=>?_) (fun n r x h=>?_) (fun n r k hk ih x h=>?_) (fun n r k ih x h=>?_)
 ·rw[ndL_nil] at h;cases h
 ·rw[nd_0] at h;cases h;rw[rp_0,xU,gI];omega
 ·rw[nd_in hk] at h;have:=ih x h;rw[rp_in hk,gI,gI,cntN_re,lD n];omega
 rw[nd_on] at h;have:=ih x h;rw[rp_on,gI,gI];omega
theorem rp_congr (f g:Node→List Node):∀ts k,(∀x,ndL ts k=some x→f x=g x)→rpL f ts k=rpL g ts k:=by
 refine tr_ind (fun k h=>?_) (fun n r h=>?_) (fun n r k hk ih h=>?_) (fun n r k ih h=>?_)
 ·rw[rpL_nil,rpL_nil]
 ·rw[rp_0,rp_0,h n (nd_0 n r)]
 ·rw[rp_in hk,rp_in hk,ih fun x hx=>h x (by rw[nd_in hk];exact hx)]
 rw[rp_on,rp_on,ih fun x hx=>h x (by rw[nd_on];exact hx)]
theorem nd_app:∀(A B:List Node) (k:Nat),ndL (A++B) k=if k<fD A then ndL A k else ndL B (k-fD A)
 | [],B,k=>by rw[I9,if_neg (by omega)];rfl
 |n::A,B,k=>by
  rw[List.cons_append,aC6,aC6,gI,nd_app A B]
  have:=Q7 n
  by_cases h0:k=0
  ·rw[if_pos h0,if_pos (by omega),if_pos h0]
  rw[if_neg h0,if_neg h0]
  by_cases h1:k<iJ n
  ·rw[if_pos h1,if_pos (by omega),if_pos h1]
  rw[if_neg h1,if_neg h1]
  by_cases h2:k<iJ n+fD A
  ·rw[if_pos (by omega),if_pos h2]
  rw[if_neg (by omega),if_neg h2,Nat.sub_sub]
theorem rp_app (f:Node→List Node):∀(A B:List Node) (k:Nat),rpL f (A++B) k=if k<fD A then rpL f A k++B else A++rpL f B (k-fD A)
 | [],B,k=>by rw[I9,if_neg (by omega)];rfl
 |n::A,B,k=>by
  rw[List.cons_append,aC8,aC8,gI,rp_app f A B]
  have:=Q7 n
  by_cases h0:k=0
  ·rw[if_pos h0,if_pos (by omega),if_pos h0];simp
  rw[if_neg h0,if_neg h0]
  by_cases h1:k<iJ n
  ·rw[if_pos h1,if_pos (by omega),if_pos h1];simp
  rw[if_neg h1,if_neg h1]
  by_cases h2:k<iJ n+fD A
  ·rw[if_pos (by omega),if_pos h2];simp
  rw[if_neg (by omega),if_neg h2,Nat.sub_sub];simp
theorem at_rp:∀ts k pre,(k<fD ts→∃t i p x,atL pre ts k=some (t,i,p)∧t[i]?=some x∧ndL ts k=some x∧∀ys,p (t.take i++ys++t.drop (i+1))=pre++rpL (fun _=>ys) ts k)∧(fD ts≤k→atL pre ts k=none):=by
 refine tr_ind (fun k pre=>⟨fun h=>?_,fun _=>atL_nil pre k⟩) (fun n r pre=>⟨fun _=>?_,fun h=>?_⟩) (fun n r k hk ih pre=>⟨fun _=>?_,fun h=>?_⟩) (fun n r k ih pre=>⟨fun h=>?_,fun h=>?_⟩)
 ·rw[I9] at h;omega
 ·exact⟨_,_,_,n,by rw[xP,if_pos rfl],by simp,nd_0 n r,fun ys=>by rw[rp_0,id];simp⟩
 ·rw[gI] at h;have:=Q7 n;omega
 ·obtain⟨t,i,p,x,h1,h2,h3,h4⟩:=(ih []).1 hk
  have:=lD n
  refine⟨t,i,_,x,by rw[xP,if_neg (by omega),if_pos (by omega),atN_eq,Nat.add_sub_cancel,h1];rfl,h2,by rw[nd_in hk,h3],fun ys=>?_⟩
  simp only
  rw[h4,rp_in hk];simp
 ·rw[gI] at h;have:=lD n;omega
 ·rw[gI] at h
  have:=Q7 n
  obtain⟨t,i,p,x,h1,h2,h3,h4⟩:=(ih (pre++[n])).1 (by omega)
  exact⟨t,i,p,x,by rw[xP,if_neg (by omega),if_neg (by omega),Nat.add_sub_cancel_left,h1],h2,by rw[nd_on,h3],fun ys=>by rw[h4,rp_on];simp⟩
 rw[gI] at h
 have:=Q7 n
 rw[xP,if_neg (by omega),if_neg (by omega),Nat.add_sub_cancel_left]
 exact(ih _).2 (by omega)
def chF (c:Chg) (n:Node):List Node:=
 if c.op=0 then [⟨c.kind,c.text,n.at_,n.fin,n.kids⟩] else if c.op=1 then n.kids else [n.re ((zH n.kids c).getD n.kids)]
def okN (c:Chg) (n:Node):Bool:=decide (c.op=0)||decide (c.op=1)||(zH n.kids c).isSome
def Z7 (ts:List Node) (c:Chg):Int×List Node:=
 if fieldsB c=true then
  if c.node< -1∨(c.node= -1∧c.op≠2) then(2,ts)
  else if c.node= -1 then(match zH ts c with
   |none=>(2,ts)
   |some ks=>(0,ks))
  else match ndL ts c.node.toNat with
   |none=>(2,ts)
   |some x=>if okN c x=true then(0,rpL (chF c) ts c.node.toNat) else(2,ts)
 else(1,ts)
theorem insK_cnt {l ks:List Node} {c:Chg} (h:zH l c=some ks):fD ks=fD l+1:=by
 unfold zH at h
 split at h
 ·cases h
 cases h
 rename_i hn
 rw[xU,gI,lD]
 simp only
 have h1:fD l=fD (l.take c.index.toNat)+(fD ((l.drop c.index.toNat).take c.count.toNat)+fD (l.drop (c.index.toNat+c.count.toNat))):=by
  conv=>lhs;rw[←List.take_append_drop c.index.toNat l,xU,←List.take_append_drop c.count.toNat (l.drop c.index.toNat),xU,List.drop_drop]
 rw[h1];omega
theorem chF_cnt (c:Chg) (n:Node):fD (chF c n)≤iJ n+1:=by
 have hn:=lD n
 unfold chF
 split
 ·rw[gI,I9,lD];simp only;omega
 split
 ·omega
 rw[gI,I9,cntN_re]
 cases h:zH n.kids c with
 |none=>rw[Option.getD_none];omega
 |some ks=>rw[Option.getD_some,insK_cnt h];omega
theorem take_set {t:List Node} {i:Nat} {x y:Node} (h:t[i]?=some x):t.set i y=t.take i++[y]++t.drop (i+1):=by
 have:=(List.getElem?_eq_some_iff.1 h).1
 rw[List.set_eq_take_append_cons_drop,if_pos this];simp
theorem change1_m (ts:List Node) (c:Chg) (h:fD ts≤1000000) (hc:(Lit.int .i64 c.node).wf=true):lN ts c=some (Z7 ts c):=by
 unfold lN Z7
 have hb:=I64.r hc
 by_cases hf:fieldsB c=true
 ·rw[if_pos hf,if_pos hf]
  by_cases h1:c.node< -1∨(c.node= -1∧c.op≠2)
  ·rw[if_pos h1,if_pos h1]
  rw[if_neg h1,if_neg h1]
  have hl:=nV ts
  have h012:c.op=0∨c.op=1∨c.op=2:=by
   unfold fieldsB at hf
   by_cases e0:c.op=0
   ·exact Or.inl e0
   by_cases e1:c.op=1
   ·exact Or.inr (Or.inl e1)
   rw[if_neg e0,if_neg e1] at hf;exact Or.inr (Or.inr (of_decide_eq_true hf))
  by_cases hm:c.node= -1
  ·have h2:c.op=2:=Classical.byContradiction fun e=>h1 (Or.inr ⟨hm,e⟩)
   rw[if_neg (by omega),if_neg (by omega),if_pos hm]
   unfold zM
   rw[if_pos hm]
   simp only[bsm]
   rw[if_pos (by omega)]
   cases zH ts c<;>rfl
  rw[if_neg hm]
  have hat:m_at ts c.node=some (atL [] ts c.node.toNat):=by
   unfold m_at;rw[if_pos ⟨by omega,by omega,by omega⟩]
  by_cases hk:c.node.toNat<fD ts
  ·obtain⟨t,i,p,x,a1,a2,a3,a4⟩:=(at_rp ts c.node.toNat []).1 hk
   obtain⟨p1,p2⟩:=atL_plug _ ts [] _ (Nat.le_refl _) a1
   rw[a3]
   simp only
   have hx:=nd_le _ _ _ a3
   have hxk:=lD x
   have hkl:=nV x.kids
   simp only[List.length_nil] at p2
   have e1:∀ys,chF c x=ys→p (t.take i++ys++t.drop (i+1))=rpL (chF c) ts c.node.toNat:=fun ys hy=>by
    rw[a4,List.nil_append]
    exact rp_congr _ _ _ _ fun z hz=>by rw[a3] at hz;cases hz;exact hy.symm
   rcases h012 with e|e|e
   ·rw[if_pos e,if_pos (by unfold okN;simp[e])]
    unfold G7
    rw[hat,a1]
    simp only[bsm]
    rw[a2,Option.map_some,take_set a2,e1 _ (by unfold chF;rw[if_pos e])]
   ·rw[if_neg (by omega),if_pos e,if_pos (by unfold okN;simp[e])]
    unfold X5
    rw[hat,a1]
    simp only[bsm]
    rw[a2,bsm,if_pos (by omega),e1 _ (by unfold chF;rw[if_neg (by omega),if_pos e])]
   rw[if_neg (by omega),if_neg (by omega)]
   unfold zM
   rw[if_neg hm,hat,a1]
   simp only[bsm]
   rw[a2,Option.map_some,bsm]
   simp only
   rw[if_pos (by omega)]
   unfold okN
   cases hi:zH x.kids c with
   |none=>rw[if_neg (by simp[e])]
   |some ks=>rw[if_pos (by simp)];simp only;rw[take_set a2,e1 _ (by unfold chF;rw[if_neg (by omega),if_neg (by omega),hi];rfl)]
  rw[(nd_none ts _ (by omega)).1]
  have hno:=(at_rp ts c.node.toNat []).2 (by omega)
  simp only
  rcases h012 with e|e|e
  ·rw[if_pos e];unfold G7;rw[hat,hno];rfl
  ·rw[if_neg (by omega),if_pos e];unfold X5;rw[hat,hno];rfl
  rw[if_neg (by omega),if_neg (by omega)];unfold zM;rw[if_neg hm,hat,hno];rfl
 rw[if_neg hf,if_neg hf]
theorem chg1_cnt (ts:List Node) (c:Chg):fD (Z7 ts c).2≤fD ts+1:=by
 unfold Z7
 split
 ·split
  ·simp
  split
  ·split
   ·simp
   rename_i h;simp only;rw[insK_cnt h];omega
  split
  ·simp
  rename_i x hx
  split
  ·have h1:=rp_cnt (chF c) _ _ _ hx
   have h2:=chF_cnt c x
   simp only;omega
  simp
 simp
theorem few_r:∀(f:Nat) (n:Node),SizeOf.sizeOf n<f→∀(left:Int),left≤1000→ -1≤left→∃r,jH f n left=some r∧ -1≤r∧r≤1000∧(0≤r→(iJ n:Int)+r=left):=by
 intro f
 induction f with
 |zero=>intro n h;omega
 |succ f ih=>
  intro n hsz left hl hl0
  have hcnt:=lD n
  unfold jH nS
  split
  ·exact⟨-1,rfl,by omega,by omega,fun h=>by omega⟩
  rename_i hc
  have hl1:1≤left:=by
   apply Classical.byContradiction
   intro hn
   apply hc
   rw[Bool.or_eq_true]
   exact Or.inl (decide_eq_true (by omega))
  rw[inK_eq (by omega)]
  simp only[Option.bind_some]
  obtain⟨r,hr,h1,h2,h3⟩:=loopM_inv (body:=fun s=>iV n (jH f) s.1 s.2) (fun s=>∃i:Nat,s.2=(i:Int)∧i≤n.kids.length∧ -1≤s.1∧s.1≤1000∧(0≤s.1→(fD (n.kids.take i):Int)+s.1=left-1)) (fun s=>n.kids.length-s.2.toNat)
   (fun r=> -1≤r∧r≤1000∧(0≤r→(iJ n:Int)+r=left))
   (by
    rintro⟨l,z⟩ ⟨i,e,hi,h1,h2,h3⟩
    simp only at e h1 h2 h3
    subst e
    by_cases hlt:i<n.kids.length∧0≤l
    ·left
     obtain⟨x,hx⟩:=oJ hlt.1
     obtain⟨r,hr,g1,g2,g3⟩:=ih x (by have:=node_sz hx;omega) l h2 h1
     have e1:=vM hx
     have e2:=nV (n.kids.take i)
     rw[List.length_take] at e2
     have e3:=h3 hlt.2
     refine⟨(r,((i+1:Nat):Int)),?_,⟨i+1,rfl,by omega,g1,g2,fun h=>?_⟩,by simp;omega⟩
     ·simp only[iV]
      rw[if_pos (by simp;omega),vO hx]
      simp only[Option.bind_some]
      rw[hr]
      simp only[Option.bind_some]
      rw[pV (by omega)]
      rfl
     have:=g3 h
     simp only
     rw[e1];omega
    right
    refine⟨l,?_,h1,h2,fun h=>?_⟩
    ·simp only[iV]
     rw[if_neg (by
      rw[Bool.and_eq_true,decide_eq_true_eq,decide_eq_true_eq]
      omega)]
    have h4:=h3 h
    rw[List.take_of_length_le (by omega)] at h4
    omega) (left-1,0) ⟨0,rfl,Nat.zero_le _,by simp only;omega,by simp only;omega,fun _=>by simp[fD]⟩
  rw[hr]
  exact⟨r,rfl,h1,h2,h3⟩
theorem Few_m (n:Node) (k:Int) (h:k≤1000) (h0:0≤k):∃b,pF n k=some b∧(b=true→(iJ n:Int)≤k):=by
 obtain⟨r,hr,h1,h2,h3⟩:=few_r (SizeOf.sizeOf n+1) n (by omega) k h (by omega)
 unfold pF vY
 rw[hr]
 refine⟨_,rfl,fun e=>?_⟩
 have:=h3 (by simpa using e)
 have:=of_decide_eq_true e
 omega
theorem Count_r:∀(f:Nat) (n:Node),SizeOf.sizeOf n<f→iJ n≤100000→jL f n=some (iJ n:Int):=by
 intro f
 induction f with
 |zero=>intro n h;omega
 |succ f ih=>
  intro n hsz hn
  have hcnt:=lD n
  have hlen:=nV n.kids
  unfold jL lX
  refine bind_loop (fun i=>(((1+fD (n.kids.take i):Nat):Int),(i:Int))) n.kids.length (((1+fD n.kids:Nat):Int)) (by simp[fD]) (fun i hi=>?_) ?_ ?_
  ·obtain⟨x,hx⟩:=oJ hi
   have e1:=vM hx
   have e2:=Z8 n.kids (i+1)
   simp only[kC]
   rw[if_pos (by simp;omega),vO hx]
   simp only[Option.bind_some]
   rw[ih x (by have:=node_sz hx;omega) (by omega)]
   simp only[Option.bind_some]
   rw[inK_eq (by omega)]
   simp only[Option.bind_some]
   rw[pV (by omega),e1]
   simp only[Option.bind_some,Option.some.injEq,Step.next.injEq,Prod.mk.injEq,and_true]
   omega
  ·simp only[kC]
   rw[if_neg (by simp),List.take_of_length_le (Nat.le_refl _)]
  rw[hcnt]
theorem Count_m (n:Node) (h:iJ n≤100000):qE n=some (iJ n:Int):=Count_r _ n (by omega) h
mutual
def stN:Node→Node
 |⟨a,b,_,_,kids⟩=>⟨a,b,0,0,stL kids⟩
def stL:List Node→List Node
 | []=>[]
 |n::r=>stN n::stL r
end
theorem stN_eq (n:Node):stN n=⟨n.kind,n.text,0,0,stL n.kids⟩:=by obtain⟨a,b,c,d,k⟩:=n;rw[stN]
theorem stL_map:∀l,stL l=l.map stN
 | []=>by rw[stL];rfl
 |n::l=>by rw[stL,stL_map l];rfl
theorem st_ext (a b:Node):stN a=stN b↔(a.kind=b.kind∧a.text=b.text)∧a.kids.map stN=b.kids.map stN:=by
 rw[stN_eq,stN_eq,stL_map,stL_map]
 simp[and_assoc]
theorem Same_r:∀(f:Nat) (a b:Node),SizeOf.sizeOf a<f→iJ a≤100000→∃r,iR f a b=some r∧(r=true↔stN a=stN b):=by
 intro f
 induction f with
 |zero=>intro n b h;omega
 |succ f ih=>
  intro a b hsz ha
  have hcnt:=lD a
  have hlen:=nV a.kids
  unfold iR nD qF
  simp only[Option.bind_some]
  by_cases hc:(a.kind=b.kind∧a.text=b.text)∧a.kids.length=b.kids.length
  ·rw[if_neg (by simp[hc])]
   obtain⟨o,ho,hp⟩:=loopM_inv (body:=fun s=>gY a b (iR f) s) (fun s=>∃i:Nat,s=(i:Int)∧i≤a.kids.length∧∀(j:Nat) x y,j<i→a.kids[j]?=some x→b.kids[j]?=some y→stN x=stN y) (fun s=>a.kids.length-s.toNat)
    (fun o:Out Unit Bool=>(o= .brk ()∧∀(j:Nat) x y,a.kids[j]?=some x→b.kids[j]?=some y→stN x=stN y)∨(o= .ret false∧∃(j:Nat) (x y:Node),a.kids[j]?=some x∧b.kids[j]?=some y∧stN x≠stN y))
    (by
     rintro s ⟨i,rfl,hi,hj⟩
     by_cases hlt:i<a.kids.length
     ·obtain⟨x,hx⟩:=oJ hlt
      obtain⟨y,hy⟩:=oJ (l:=b.kids) (k:=i) (by omega)
      have e1:=vM hx
      have e2:=Z8 a.kids (i+1)
      obtain⟨r,hr,hiff⟩:=ih x y (by have:=node_sz hx;omega) (by omega)
      cases r with
      |true=>
       left
       refine⟨((i+1:Nat):Int),?_,⟨i+1,rfl,by omega,fun j x' y' hj' hx' hy'=>?_⟩,by simp;omega⟩
       ·simp only[gY]
        rw[if_pos (by simp;omega),vO hx]
        simp only[Option.bind_some]
        rw[vO hy]
        simp only[Option.bind_some]
        rw[hr]
        simp only[Option.bind_some]
        rw[if_neg (by simp),pV (by omega)]
        rfl
       rcases Nat.lt_or_ge j i with h|h
       ·exact hj j x' y' h hx' hy'
       have:j=i:=by omega
       subst this
       rw[hx] at hx';rw[hy] at hy'
       rw[←oj hx',←oj hy'];exact hiff.1 rfl
      |false=>
       right
       refine⟨.ret false,?_,Or.inr ⟨rfl,i,x,y,hx,hy,fun e=>by have:=hiff.2 e;cases this⟩⟩
       simp only[gY]
       rw[if_pos (by simp;omega),vO hx]
       simp only[Option.bind_some]
       rw[vO hy]
       simp only[Option.bind_some]
       rw[hr]
       simp only[Option.bind_some]
       rw[if_pos (by simp)]
     right
     refine⟨.brk (),?_,Or.inl ⟨rfl,fun j x y hx hy=>hj j x y (by have:=(List.getElem?_eq_some_iff.1 hx).1;omega) hx hy⟩⟩
     simp only[gY]
     rw[if_neg (by simp;omega)]) 0 ⟨0,rfl,Nat.zero_le _,fun j x y h=>by omega⟩
   rw[ho]
   simp only[Option.bind_some]
   rcases hp with⟨rfl,hp⟩|⟨rfl,j,x,y,hx,hy,hne⟩
   ·refine⟨true,rfl,?_⟩
    simp only[true_iff]
    rw[st_ext]
    refine⟨hc.1,List.ext_getElem? fun j=>?_⟩
    rw[List.getElem?_map,List.getElem?_map]
    rcases Nat.lt_or_ge j a.kids.length with h|h
    ·obtain⟨x,hx⟩:=oJ h
     obtain⟨y,hy⟩:=oJ (l:=b.kids) (k:=j) (by omega)
     rw[hx,hy]
     simp[hp j x y hx hy]
    rw[List.getElem?_eq_none h,List.getElem?_eq_none (by omega)]
   refine⟨false,rfl,?_⟩
   constructor
   ·intro h;cases h
   intro e
   rw[st_ext] at e
   have:=congrArg (fun l=>l[j]?) e.2
   simp only[List.getElem?_map,hx,hy,Option.map_some,Option.some.injEq] at this
   exact absurd this hne
  refine⟨false,?_,?_⟩
  ·rw[if_pos]
   rw[Bool.or_eq_true,Bool.not_eq_true',Bool.not_eq_true',Bool.and_eq_false_iff,decide_eq_false_iff_not,decide_eq_false_iff_not,decide_eq_false_iff_not]
   have:= @Classical.not_and_iff_not_or_not
   by_cases h1:a.kind=b.kind
   ·by_cases h2:a.text=b.text
    ·right;intro e;exact hc ⟨⟨h1,h2⟩,by omega⟩
    left;right;exact h2
   left;left;exact h1
  constructor
  ·intro h;cases h
  intro e
  rw[st_ext] at e
  have h2:=congrArg List.length e.2
  rw[List.length_map,List.length_map] at h2
  exact absurd ⟨e.1,h2⟩ hc
open Classical in
theorem Same_m (a b:Node) (h:iJ a≤100000):qQ a b=some (decide (stN a=stN b)):=by
 obtain⟨r,hr,h2⟩:=Same_r (SizeOf.sizeOf a+1) a b (by omega) h
 unfold qQ
 rw[hr]
 congr 1
 cases r with
 |true=>exact(decide_eq_true (h2.1 rfl)).symm
 |false=>exact(decide_eq_false fun e=>by have:=h2.2 e;cases this).symm
open Classical in
theorem SameList_m (a b:List Node) (h:fD a≤100000):iG a b=some (decide (stL a=stL b)):=by
 have hl:=nV a
 unfold iG
 rw[stL_map,stL_map]
 by_cases he:a.length=b.length
 ·rw[if_neg (by simp;omega)]
  have:=same_loop (body:=fun s=>iW a b s) (a:=a.map stN) (b:=b.map stN) (by simp[he]) (.ret false) (.brk ()) (fun k x y hx hy=>by
   obtain⟨x,hx',rfl⟩:=List.getElem?_map ..▸hx |> Option.map_eq_some_iff.1
   obtain⟨y,hy',rfl⟩:=List.getElem?_map ..▸hy |> Option.map_eq_some_iff.1
   have hk:=(List.getElem?_eq_some_iff.1 hx').1
   have e1:=vM hx'
   have e2:=Z8 a (k+1)
   simp only[iW]
   rw[if_pos (by simp;omega),vO hx']
   simp only[Option.bind_some]
   rw[vO hy']
   simp only[Option.bind_some]
   rw[Same_m x y (by omega)]
   simp only[Option.bind_some]
   rw[pV (by omega)]
   by_cases hxy:stN x=stN y<;>simp[hxy]) (by
   simp only[iW]
   rw[if_neg (by simp)])
  rw[this]
  by_cases hab:a.map stN=b.map stN<;>simp[hab]
 rw[if_pos (by simp;omega),decide_eq_false fun e=>he (by simpa using congrArg List.length e)]
open Classical in
theorem SameList_refl (a:List Node) (h:fD a≤100000):iG a a=some true:=by rw[SameList_m a a h];simp
theorem awake_ok:qC=some true:=by kernel_rfl
theorem insert_m (l:List Node) (c:Chg) (hl:l.length≤1000000):kD l c=some (match zH l c with
  |none=>(l,false)
  |some ks=>(ks,true)):=by
 unfold kD zH
 by_cases h:c.index<0∨c.count<0∨(l.length:Int)<c.index
 ·rw[if_pos (by simp;omega),bsm,if_pos rfl,if_pos (by omega)]
 rw[if_neg (by simp;omega),inK_eq (by omega),bsm,bsm]
 by_cases h2:(l.length:Int)-c.index<c.count
 ·rw[if_pos (by simpa using h2),if_pos (by omega)]
 rw[if_neg (by simpa using h2),if_neg (by omega),inK_eq (by omega),bsm,sub_ok (by omega) (by omega) (by omega),bsm,U3 (by simp;omega),bsm,sub_ok (by omega) (by omega) (by omega),bsm,U3 (by simp;omega),bsm,U3 (by simp;omega),bsm,bsm,sub_ok (by omega) (by omega) (by omega),bsm,U3 (by simp;omega),bsm]
 congr 2
 have e:(c.index+c.count).toNat=c.index.toNat+c.count.toNat:=by omega
 simp[List.drop_take,e]
def chP (c:Chg) (l:List Node) (z:Nat):List Node×Bool:=
 if(z:Int)≤c.node then(rpL (chF c) l (c.node-z).toNat,(ndL l (c.node-z).toNat).all (okN c)) else(l,true)
theorem chP_cnt (c:Chg) (l:List Node) (z:Nat):fD (chP c l z).1≤fD l+1:=by
 unfold chP
 split
 ·cases h:ndL l (c.node-z).toNat with
  |none=>
   have:¬(c.node-z).toNat<fD l:=fun e=>by obtain⟨x,hx⟩:=nd_some _ _ e;rw[h] at hx;cases hx
   simp only;rw[(nd_none l _ (by omega)).2];omega
  |some x=>
   have h1:=rp_cnt (chF c) _ _ _ h
   have h2:=chF_cnt c x
   simp only;omega
 simp
theorem chP_snoc (c:Chg) (A:List Node) (n:Node) (z:Nat):chP c (A++[n]) z=
  if c.node=((z+fD A:Nat):Int) then((chP c A z).1++chF c n,(chP c A z).2&&okN c n)
  else if((z+fD A:Nat):Int)<c.node∧c.node<((z+fD A+iJ n:Nat):Int) then((chP c A z).1++[n.re (chP c n.kids (z+fD A+1)).1],(chP c A z).2&&(chP c n.kids (z+fD A+1)).2)
  else((chP c A z).1++[n],(chP c A z).2):=by
 unfold chP
 have hn:=lD n
 by_cases h0:(z:Int)≤c.node
 ·rw[if_pos h0,if_pos h0,rp_app,nd_app]
  by_cases h1:(c.node-z).toNat<fD A
  ·rw[if_pos h1,if_pos h1,if_neg (by omega),if_neg (by omega)]
  obtain⟨e1,e2⟩:=nd_none A (c.node-z).toNat (by omega)
  rw[if_neg h1,if_neg h1,e1,e2]
  by_cases h2:c.node=((z+fD A:Nat):Int)
  ·rw[if_pos h2,show(c.node-z).toNat-fD A=0 by omega,rp_0,nd_0];simp
  rw[if_neg h2]
  by_cases h3:((z+fD A:Nat):Int)<c.node∧c.node<((z+fD A+iJ n:Nat):Int)
  ·rw[if_pos h3,if_pos (by omega),show(c.node-z).toNat-fD A=(c.node-((z+fD A+1:Nat):Int)).toNat+1 by omega,rp_in (by omega),nd_in (by omega)];simp
  rw[if_neg h3,show(c.node-z).toNat-fD A=iJ n+((c.node-z).toNat-fD A-iJ n) by omega,rp_on,nd_on,rpL_nil,ndL_nil]
 rw[if_neg h0,if_neg h0,if_neg (by omega),if_neg (by omega)]
theorem change_r (c:Chg):∀(f:Nat) (l:List Node) (z:Nat),SizeOf.sizeOf l<f→fD l≤100000→z+fD l≤100000→jC f l (z:Int) c=some (chP c l z):=by
 intro f
 induction f with
 |zero=>intro l z h;omega
 |succ f ih=>
  intro l z hsz hl hz
  have hlen:=nV l
  unfold jC lT
  refine bind_loop (fun i=>(((z+fD (l.take i):Nat):Int),(chP c (l.take i) z).2,(i:Int),(chP c (l.take i) z).1)) l.length ((chP c l z).2,(chP c l z).1) (by unfold chP;simp[fD,ndL_nil,rpL_nil]) (fun i hi=>?_) ?_ rfl
  ·obtain⟨n,hn⟩:=oJ hi
   have e1:=vM hn
   have e2:=Z8 l (i+1)
   have e3:=chP_cnt c (l.take i) z
   have e4:=nV (chP c (l.take i) z).1
   have e5:=lD n
   have e6:=nV n.kids
   have hs:SizeOf.sizeOf n.kids<f:=by
    have h1:=List.sizeOf_lt_of_mem (List.mem_of_getElem? hn)
    have h2:SizeOf.sizeOf n.kids<SizeOf.sizeOf n:=by obtain⟨a,b,c,d,kids⟩:=n;simp;omega
    omega
   rw[take_snoc_of hn,chP_snoc,xU,gI,I9,Nat.add_zero,←Nat.add_assoc]
   generalize hq:z+fD (l.take i)=q at*
   simp only[jM]
   rw[if_pos (by simp;omega),vO hn,bsm,Count_m n (by omega),bsm]
   have hend:inK .i64 ((q:Int)+(iJ n:Int))=some ((q+iJ n:Nat):Int):=by rw[inK_eq (by omega)];congr 1
   by_cases h1:c.node=(q:Int)
   ·rw[if_pos h1]
    by_cases o0:c.op=0
    ·rw[if_pos (by simp[h1,o0]),U3 (by simp;omega),bsm,bsm,hend,bsm,pV (by omega),bsm]
     unfold chF okN;rw[if_pos o0];simp[o0]
    rw[if_neg (by simp[o0])]
    by_cases o1:c.op=1
    ·rw[if_pos (by simp[h1,o1]),U3 (by omega),bsm,bsm,hend,bsm,pV (by omega),bsm]
     unfold chF okN;rw[if_neg o0,if_pos o1];simp[o1]
    rw[if_neg (by simp[o1]),if_pos (by simp[h1]),insert_m n.kids c (by omega),bsm,U3 (by simp;omega),bsm,bsm,hend,bsm,pV (by omega),bsm]
    unfold chF okN;rw[if_neg o0,if_neg o1]
    cases zH n.kids c<;>simp[o0,o1,Node.re]
   rw[if_neg h1,if_neg (by simp[h1]),if_neg (by simp[h1]),if_neg (by simp[h1])]
   by_cases h2:(q:Int)<c.node∧c.node<((q+iJ n:Nat):Int)
   ·rw[if_pos h2,if_pos (by simpa using h2.1),hend,bsm,bsm,if_pos (by simpa using h2.2),pV (by omega),bsm,ih n.kids (q+1) hs (by omega) (by omega),bsm,U3 (by simp;omega),bsm,bsm]
    show(some ((q+iJ n:Nat):Int)).bind _=_
    rw[bsm,pV (by omega),bsm]
    rfl
   rw[if_neg h2]
   have:((if(decide ((q:Int)<c.node))=true then
     (inK .i64 ((q:Int)+(iJ n:Int))).bind fun x7=>some (decide (c.node<x7))
    else some false):Option Bool)=some false:=by
    split
    ·rename_i h
     rw[hend,bsm]
     congr 1
     exact decide_eq_false fun e=>h2 ⟨of_decide_eq_true h,e⟩
    rfl
   rw[this,bsm,if_neg (by simp),U3 (by simp;omega),bsm,bsm,hend,bsm,pV (by omega),bsm]
  simp only[jM]
  rw[if_neg (by simp),List.take_of_length_le (Nat.le_refl _)]
theorem count_m (l:List Node) (h:fD l≤100000):nJ l=some (fD l:Int):=by
 have hlen:=nV l
 unfold nJ
 refine bind_loop (fun i=>((fD (l.take i):Int),(i:Int))) l.length (fD l:Int) (by simp[fD]) (fun i hi=>?_) ?_ rfl
 ·obtain⟨n,hn⟩:=oJ hi
  have e1:=vM hn
  have e2:=Z8 l (i+1)
  simp only[nG]
  rw[if_pos (by simp;omega),vO hn,bsm,Count_m n (by omega),bsm,inK_eq (by omega),bsm,pV (by omega),bsm,e1]
  simp
 simp only[nG]
 rw[if_neg (by simp),List.take_of_length_le (Nat.le_refl _)]
theorem fields_ref (c:Chg):((((decide (c.op<0))||(decide (2<c.op)))||((!decide (c.op=2))&&((!decide (c.index=0))||(!decide (c.count=0)))))||((decide (c.op=1))&&((!decide (c.kind=0))||(!decide (c.text=(ByteArray.mk #[]))))))= !fieldsB c:=by
 unfold fieldsB
 by_cases o0:c.op=0
 ·simp[o0]
 by_cases o1:c.op=1
 ·simp[o1]
  rw[Bool.eq_iff_iff]
  simp only[ByteArray.empty,Bool.or_eq_true,Bool.not_eq_true',decide_eq_false_iff_not]
  show _↔_
  by_cases a1:c.index=0<;>by_cases a2:c.count=0<;>by_cases a3:c.kind=0<;>simp[a1,a2,a3]<;>rfl
 by_cases o2:c.op=2
 ·simp[o2]
 rw[if_neg o0,if_neg o1]
 simp[o0,o1,o2]
 omega
theorem apply_step (cs:List Chg) (c:Chg) (i:Nat) (ts:List Node) (hc:cs[i]?=some c) (hi:i≤100000) (h:fD ts≤100000):
  iP cs ts (i:Int)=some (if(Z7 ts c).1=0 then .next ((Z7 ts c).2,((i+1:Nat):Int)) else .done (.ret ([],(Z7 ts c).1))):=by
 have hk:=(List.getElem?_eq_some_iff.1 hc).1
 have hl:=nV ts
 simp only[iP]
 rw[if_pos (by simp;omega),vO hc,bsm,fields_ref]
 cases hf:fieldsB c with
 |false=>
  have e:Z7 ts c=(1,ts):=by unfold Z7;rw[hf];rfl
  rw[e,if_pos (by rfl),bsm];rfl
 |true=>
  rw[if_neg (by simp)]
  by_cases hm:c.node= -1
  ·by_cases h2:c.op=2
   ·have e:Z7 ts c=match zH ts c with
     |none=>(2,ts)
     |some ks=>(0,ks):=by unfold Z7;rw[hf,if_pos rfl,if_neg (by omega),if_pos hm]<;>rfl
    rw[e,if_pos (by simp[hm,h2]),insert_m ts c (by omega),bsm]
    cases zH ts c with
    |none=>rfl
    |some ks=>simp only;rw[if_neg (by simp),bsm];simp only;rw[pV (by omega),bsm];rfl
   have e:Z7 ts c=(2,ts):=by unfold Z7;rw[hf,if_pos rfl,if_pos (Or.inr ⟨hm,h2⟩)]
   rw[e,if_neg (by simp[h2]),if_pos (by simp;omega),bsm,if_pos rfl,bsm];rfl
  rw[if_neg (by simp[hm])]
  by_cases h1:c.node< -1
  ·have e:Z7 ts c=(2,ts):=by unfold Z7;rw[hf,if_pos rfl,if_pos (Or.inl h1)]
   rw[e,if_pos (by simp;omega),bsm,if_pos rfl,bsm];rfl
  have e:Z7 ts c=match ndL ts c.node.toNat with
   |none=>(2,ts)
   |some x=>if okN c x=true then(0,rpL (chF c) ts c.node.toNat) else(2,ts):=by unfold Z7;rw[hf,if_pos rfl,if_neg (by omega),if_neg hm]<;>rfl
  rw[e,if_neg (by simp;omega),count_m ts h,bsm,bsm]
  by_cases hk:fD ts≤c.node.toNat
  ·rw[if_pos (by simp;omega),bsm,(nd_none ts _ hk).1];rfl
  obtain⟨x,hx⟩:=nd_some ts c.node.toNat (by omega)
  have e:sV ts 0 c=some (chP c ts 0):=change_r c (SizeOf.sizeOf ts+1) ts 0 (by omega) h (by omega)
  have e2:chP c ts 0=(rpL (chF c) ts c.node.toNat,okN c x):=by
   unfold chP
   rw[if_pos (by omega),show(c.node-((0:Nat):Int)).toNat=c.node.toNat by omega,hx];rfl
  rw[if_neg (by simp;omega),e,bsm,e2,hx]
  simp only
  cases hok:okN c x with
  |false=>rfl
  |true=>rw[if_neg (by simp),bsm];simp only;rw[pV (by omega),bsm];rfl
theorem apply_m (cs:List Chg) (hw:∀c∈cs,I64 c.node) (hcs:cs.length≤1000):∀(j i:Nat) (ts:List Node),i+j=cs.length→fD ts+j≤10000→
  ∃r,chgs ts (cs.drop i)=some r∧fD r.1≤10000∧eQ (fun s=>iP cs s.1 s.2) (ts,(i:Int))=some (if r.2=0 then .brk r.1 else .ret r):=by
 intro j
 induction j with
 |zero=>
  intro i ts hj h
  refine⟨(ts,0),by rw[List.drop_eq_nil_of_le (by omega),chgs],by simp only;omega,pW ?_⟩
  simp only[iP]
  rw[if_neg (by simp;omega)];rfl
 |succ j ih=>
  intro i ts hj h
  obtain⟨c,hc⟩:=oJ (show i<cs.length by omega)
  have hn:=hw c (List.mem_of_getElem? hc)
  have h1:=change1_m ts c (by omega) (by simp[Lit.wf,IntKind.min,IntKind.max,IntKind.signed,IntKind.bits];unfold I64 at hn;omega)
  have h2:=apply_step cs c i ts hc (by omega) (by omega)
  have h3:=chg1_cnt ts c
  rw[drop_cons_of hc,chgs,h1,bsm]
  by_cases h0:(Z7 ts c).1=0
  ·rw[if_pos h0]
   rw[if_pos h0] at h2
   obtain⟨r,a1,a2,a3⟩:=ih (i+1) (Z7 ts c).2 (by omega) (by omega)
   exact⟨r,a1,a2,(yO h2).trans a3⟩
  rw[if_neg h0]
  rw[if_neg h0] at h2
  exact⟨_,rfl,by simp[fD],(pW h2).trans (by rw[if_neg h0])⟩
theorem Apply_ref (l:List Node) (cs:List Chg) (hw:∀c∈cs,I64 c.node) (hcs:cs.length≤1000) (hl:fD l≤1000):∃r,aD8 l cs=some r∧nI l cs=some r∧fD r.1≤10000:=by
 obtain⟨r,a1,a2,a3⟩:=apply_m cs hw hcs cs.length 0 l (by omega) (by omega)
 have hlen:=nV l
 refine⟨r,?_,?_,a2⟩
 ·unfold aD8;rw[if_pos ⟨by omega,by omega⟩];exact a1
 unfold nI
 rw[U3 (by simp;omega),bsm,List.nil_append]
 rw[show((0:Nat):Int)=0 from rfl] at a3
 rw[a3,bsm]
 by_cases h0:r.2=0
 ·rw[if_pos h0];simp only;rw[←h0]
 rw[if_neg h0]
theorem few_list (l:List Node) (hl:l.length≤4):(∃b,eQ (fun s=>fU l s) 0=some b∧(b= .ret true∨(b= .brk ()∧fD l≤48))):=by
 obtain⟨b,h1,h2⟩:=loopM_inv (body:=fun s=>fU l s) (fun s=>∃i:Nat,s=(i:Int)∧i≤l.length∧fD (l.take i)≤12*i) (fun s=>l.length-s.toNat)
  (fun b=>b= .ret true∨(b= .brk ()∧fD l≤48))
  (by
   rintro s ⟨i,rfl,hi,h⟩
   by_cases hlt:i<l.length
   ·obtain⟨x,hx⟩:=oJ hlt
    obtain⟨r,hr,hp⟩:=Few_m x 12 (by omega) (by omega)
    have e:=vM hx
    simp only[fU]
    rw[if_pos (by simp;omega),vO hx,bsm,hr,bsm]
    cases r with
    |false=>exact Or.inr ⟨_,rfl,Or.inl rfl⟩
    |true=>
     have:=hp rfl
     rw[if_neg (by simp),pV (by omega)]
     exact Or.inl ⟨_,rfl,⟨i+1,rfl,by omega,by omega⟩,by simp;omega⟩
   rw[List.take_of_length_le (by omega)] at h
   simp only[fU]
   rw[if_neg (by simp;omega)]
   exact Or.inr ⟨_,rfl,Or.inr ⟨rfl,by omega⟩⟩) 0 ⟨0,rfl,Nat.zero_le _,by simp[fD]⟩
 exact⟨b,h1,h2⟩
theorem law_AlignApplies (p0:(List Node)) (p1:(List Chg)) (h0:LW NodeWf p0) (h1:LW (fun a:Chg=>I64 a.op∧I64 a.node∧I64 a.index∧I64 a.count∧I64 a.kind∧a.text.size≤maxLen) p1):lF p0 p1=some true:=by
 unfold lF
 rw[awake_ok,bsm,if_neg (by simp)]
 by_cases hb:4<p0.length∨10<p1.length
 ·rw[if_pos (by simp;omega)]
 rw[if_neg (by simp;omega)]
 obtain⟨b,hb1,hb2⟩:=few_list p0 (by omega)
 rw[hb1,bsm]
 rcases hb2 with rfl|⟨rfl,hc⟩
 ·rfl
 simp only
 refine bind_any p1 (fun c=>decide (40<(c.text.size:Int))) (.ret true) (.brk ()) (fun k a hk=>?_) ?_ ?_
 ·have:=(List.getElem?_eq_some_iff.1 hk).1
  simp only[jI]
  rw[if_pos (by simp;omega),vO hk,bsm,pV (by omega),bsm]
  by_cases h:(40<(a.text.size:Int))<;>simp[h]
 ·simp only[jI]
  rw[if_neg (by simp)]
 split
 ·obtain⟨r,a1,a2,a3⟩:=Apply_ref p0 p1 (fun c hc=>(h1.2 c hc).2.1) (by omega) (by omega)
  rw[a1,bsm,a2,bsm,if_pos (by simp),SameList_refl _ (by omega)];rfl
 rename_i h
 split at h<;>cases h
 rfl
end Go.Proofs.YtopnldfjcciieaaGreat

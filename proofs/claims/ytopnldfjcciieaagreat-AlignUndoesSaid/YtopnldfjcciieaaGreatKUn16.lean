/- The code goes as its model: assessor/align.Partner$1, slices.IndexFunc[[]assessor/api.Operation,assessor/api.Operation]@assessor/align.Partner$1, assessor/align -/
import Derived.Test.YtopnldfjcciieaaGreatKUnT
import Derived.Test.YtopnldfjcciieaaGreatKUn4
import Derived.Test.YtopnldfjcciieaaGreatKUn5
set_option linter.unusedVariables false
set_option linter.unusedSimpArgs false
set_option maxRecDepth 100000
set_option maxHeartbeats 4000000
namespace Go.Proofs.YtopnldfjcciieaaGreat
open Go.RowKit
theorem aF1 {Z:World} {ρ:PH} {L:List bI} {w:World} (p0:Opn) (bcp0:Nat) (cp0:Int) (hp:Hp Z ρ (Pt bcp0 (.cells #[(Iv cp0)] 3 (0,0))::L) w) (r:Bool) (hm:xN p0 cp0=some r):
  Calls Tryz.prog 39 #[(.agg #[(Iv p0.a),(Iv p0.b)]),(Pv bcp0 0)] w (Ret fun v w'=>v=(.bool r)∧Hp Z ρ (Pt bcp0 (.cells #[(Iv cp0)] 3 (0,0))::L) w'):=by
 refine enter (N:=8) Tryz.func39 rfl rfl [(0,(.agg #[(Iv p0.a),(Iv p0.b)])),(1,(Pv bcp0 0))] rfl (aY ⟨rfl,rfl,trivial⟩) fun a hE=>?_
 unfold xN at hm
 refine aF (aA ?_)
 refine iV (wk0 rfl) rfl rfl hE hp rfl (v:=(.agg #[(Iv p0.a),(Iv p0.b)])) rfl ?_
 intro a w b1 hE hp
 have hp:=r2 hp
 refine S hE 1 rfl fun a hE=>aB (aF ?_)
 refine aA (V hE hp rfl (xf hE fU rfl rfl) fun a hE=>?_)
 refine V hE hp rfl (xl hE aX 0 rfl rfl rfl rfl) fun a hE=>V hE hp rfl (xl hE aX 1 rfl rfl rfl rfl) fun a hE=>S hE 2 rfl fun a hE=>aB (dD ?_)
 obtain rfl:=oj hm
 exact gK hE rfl rfl ⟨_,rfl,rfl,(hp.drop)⟩
theorem vZ {Z:World} {ρ:PH} {L:List bI} {w:World} (p0:(List Opn)) (vp0:Value) (hp0:aH ρ vp0 p0) (bp1c0:Nat) (p1c0:Int) (hp:Hp Z ρ (Pt bp1c0 (.cells #[(Iv p1c0)] 3 (0,0))::L) w) (r:Int) (hm:lD p0 p1c0=some r):
  Calls Tryz.prog 38 #[vp0,(.func (.func 39) #[] #[(Pv bp1c0 0)])] w (Ret fun v w'=>v=(Iv r)∧Hp Z ρ (Pt bp1c0 (.cells #[(Iv p1c0)] 3 (0,0))::L) w'):=by
 refine enter (N:=19) Tryz.func38 rfl rfl [(0,vp0),(1,(.func (.func 39) #[] #[(Pv bp1c0 0)]))] rfl (aY ⟨rfl,rfl,trivial⟩) fun a hE=>?_
 unfold lD at hm
 refine aF (aA ?_)
 refine S hE 1 rfl fun a hE=>aB (aF ?_)
 refine aF (aA ?_)
 refine S hE 1 rfl fun a hE=>V hE hp rfl (dB rfl hE rfl (aH.len hp0 eP)) fun a hE=>S hE 1 rfl fun a hE=>aB ?_
 obtain⟨b1,hc1,hm⟩:=bnd hm
 refine dJ (fun a w=>∃s:Unit,b1= .brk s∧(Env 19 [] a∧Hp Z ρ (Pt bp1c0 (.cells #[(Iv p1c0)] 3 (0,0))::L) w)) ?_ ?_
 ·refine dY hc1 (fun s a w=>Env 19 [(0,vp0),(1,(.func (.func 39) #[] #[(Pv bp1c0 0)])),(7,(Iv (p0.length:Int))),(8,(Iv s))] a∧Hp Z ρ (Pt bp1c0 (.cells #[(Iv p1c0)] 3 (0,0))::L) w) ?_ ?_
  ·exact⟨hE.cut ⟨rfl,rfl,rfl,rfl,trivial⟩,hp⟩
  rintro aQ st a w ⟨hE,hp⟩ hl1
  unfold nT at hl1
  refine aF (aA ?_)
  refine S hE 1 rfl fun a hE=>aB (aF ?_)
  refine dI hE rfl (fun hc2=>?_) (fun hc2=>?_)
  ·replace hl1:=(it hc2).symm.trans hl1
   refine bC (aF ?_)
   refine dN (aF ?_)
   refine aA (S hE 2 rfl fun a hE=>?_)
   refine aB (aF ?_)
   refine aA (S hE 3 rfl fun a hE=>?_)
   obtain⟨x1,ex1,hl1⟩:=bnd hl1
   obtain⟨b2,b2o,b2c,b2r,b2k,b2f⟩:=aH.at hp0 eP ex1
   obtain rfl:b2c=Enc.enc x1:=b2k
   have b2f:AtP ρ b2 b2o [(Iv x1.a),(Iv x1.b)]:=b2f
   refine V hE hp rfl (aO rfl hE rfl rfl b2r) fun a hE=>V hE hp rfl (aJ rfl hE rfl (fun w hw=>aW (cs:=[(Iv x1.a),(Iv x1.b)]) fB (fun j u hj=>cell_of hw.le (b2f j u hj)))) fun a hE=>?_
   obtain⟨x2,ex2,hl1⟩:=bnd hl1
   refine oG (wk0 rfl) rfl rfl hE rfl rfl [(.agg #[(Iv x1.a),(Iv x1.b)])] ⟨rfl,trivial⟩ ent39 (aF1 x1 bp1c0 p1c0 hp x2 ex2) Ret.ret ?_
   intro v a w hR hE
   obtain⟨rfl,hp⟩:=Ret.of hR
   have hp:=r1 hp
   refine aB ?_
   have hE:=hE.cut (E':=[(0,vp0),(1,(.func (.func 39) #[] #[(Pv bp1c0 0)])),(5,(Iv aQ)),(7,(Iv (p0.length:Int))),(8,(Iv aQ)),(16,(.bool x2))]) ⟨rfl,rfl,rfl,rfl,rfl,rfl,trivial⟩
   refine dI hE rfl (fun hc3=>?_) (fun hc3=>?_)
   ·replace hl1:=(it hc3).symm.trans hl1
    refine aF (aA ?_)
    refine S hE 2 rfl fun a hE=>aB (dD ?_)
    refine⟨_,(oj hl1).symm,fun hb=>?_⟩
    subst hb
    obtain rfl:=oj hm
    exact gK hE rfl rfl ⟨_,rfl,rfl,hp⟩
   replace hl1:=(ie hc3).symm.trans hl1
   refine bC (aA ?_)
   obtain⟨x3,ex3,hl1⟩:=bnd hl1
   refine V hE hp rfl (bF rfl hE rfl rfl (aK ex3)) fun a hE=>S hE 1 rfl fun a hE=>aB ?_
   exact⟨_,(oj hl1).symm,hE.cut ⟨rfl,rfl,rfl,rfl,trivial⟩,hp⟩
  replace hl1:=(ie hc2).symm.trans hl1
  refine dU ?_
  refine⟨_,(oj hl1).symm,fun hbb=>?_⟩
  exact⟨_,hbb.symm,hE.cut trivial,hp⟩
 rintro a w ⟨b1s,rfl,hE,hp⟩
 dsimp only at hm
 refine aF (aA ?_)
 refine S hE 1 rfl fun a hE=>aB (dD ?_)
 obtain rfl:=oj hm
 exact gK hE rfl rfl ⟨_,rfl,rfl,hp⟩
theorem aA2 {Z:World} {ρ:PH} {L:List bI} {w:World} (p0:(List Opn)) (vp0:Value) (hp0:aH ρ vp0 p0) (p1:Int) (hp:Hp Z ρ (L) w) (r:(Int×Bool)) (hm:vX p0 p1=some r):
  Calls Tryz.prog 13 #[vp0,(Iv p1)] w (Ret fun v w'=>v= .tuple #[(Iv r.1),(.bool r.2)]∧Hp Z ρ (L) w'):=by
 refine enter (N:=29) Tryz.func13 rfl rfl [(0,vp0),(1,(Iv p1))] rfl (aY ⟨rfl,rfl,trivial⟩) fun a hE=>?_
 unfold vX at hm
 refine aF (aA ?_)
 refine iV (wk0 rfl) rfl rfl hE hp rfl (v:=(Iv p1)) rfl ?_
 intro a w b1 hE hp
 have hp:=r1 hp
 refine S hE 2 rfl fun a hE=>aB (aF ?_)
 refine aA (S hE 1 rfl fun a hE=>?_)
 refine V hE hp rfl (v:=(.func (.func 39) #[] #[(Pv b1 0)])) (ex_fn rfl hE [(Pv b1 0)] (by exact⟨rfl,trivial⟩)) fun a hE=>?_
 obtain⟨x1,ex1,hm⟩:=bnd hm
 refine Cl hE rfl rfl ent38 (vZ p0 vp0 hp0 b1 p1 hp x1 ex1) ⟨rfl,rfl,trivial⟩ fun v a w hR hE=>?_
 obtain⟨rfl,hp⟩:=hR
 have hp:=r1 hp
 refine S hE 1 rfl fun a hE=>aB (aF ?_)
 refine aF (aA ?_)
 refine S hE 3 rfl fun a hE=>?_
 refine jE [_,_,_] (fun a w=>Env 29 [(15,(.bool ((decide (x1<0))||(decide (p1<0))))),(0,vp0),(6,(Iv x1))] a∧Hp Z ρ (Pt b1 (.cells #[(Iv p1)] 3 (0,0))::L) w) ?_ ?_
 ·rcases Bool.eq_false_or_eq_true (decide (x1<0)) with hc1|hc1
  ·
   refine Gk hE hc1 rfl fun a hE=>Gk hE hc1 rfl fun a hE=>pk1 hE hc1 rfl rfl rfl rfl fun a hE=>?_
   have hE:=hE.eqv (v':=(.bool ((decide (x1<0))||(decide (p1<0))))) (by rw[hc1];rfl)
   exact aB ⟨hE.cut ⟨rfl,rfl,rfl,trivial⟩,hp⟩
  refine G hE hp hc1 rfl (xl hE aX 0 rfl rfl rfl rfl) fun a hE=>Gs hE hc1 rfl rfl fun a hE=>pk0 hE hc1 rfl rfl rfl rfl fun a hE=>?_
  have hE:=hE.eqv (v':=(.bool ((decide (x1<0))||(decide (p1<0))))) (by rw[hc1];rfl)
  exact aB ⟨hE.cut ⟨rfl,rfl,rfl,trivial⟩,hp⟩
 rintro a w ⟨hE,hp⟩
 refine S hE 1 rfl fun a hE=>?_
 obtain⟨m1,hg1,hm⟩:=bnd hm
 refine jE [_,_,_,_,_,_,_] (fun a w=>Env 29 [(23,(.bool m1)),(0,vp0),(6,(Iv x1))] a∧Hp Z ρ (Pt b1 (.cells #[(Iv p1)] 3 (0,0))::L) w) ?_ ?_
 ·rcases Bool.eq_false_or_eq_true ((decide (x1<0))||(decide (p1<0))) with hc2|hc2
  ·
   replace hg1:=(it hc2).symm.trans hg1
   refine Gk hE hc2 rfl fun a hE=>Gk hE hc2 rfl fun a hE=>Gk hE hc2 rfl fun a hE=>Gk hE hc2 rfl fun a hE=>Gk hE hc2 rfl fun a hE=>Gk hE hc2 rfl fun a hE=>pk1 hE hc2 rfl rfl rfl rfl fun a hE=>?_
   obtain rfl:=oj hg1
   exact aB ⟨hE.cut ⟨rfl,rfl,rfl,trivial⟩,hp⟩
  replace hg1:=(ie hc2).symm.trans hg1
  refine Gs hE hc2 rfl rfl fun a hE=>Gs hE hc2 rfl rfl fun a hE=>?_
  obtain⟨x2,ex2,hg1⟩:=bnd hg1
  obtain⟨b2,b2o,b2c,b2r,b2k,b2f⟩:=aH.at hp0 eP ex2
  obtain rfl:b2c=Enc.enc x2:=b2k
  have b2f:AtP ρ b2 b2o [(Iv x2.a),(Iv x2.b)]:=b2f
  refine G hE hp hc2 rfl (aO rfl hE rfl rfl b2r) fun a hE=>G hE hp hc2 rfl (xf hE fD rfl rfl) fun a hE=>G hE hp hc2 rfl (aJ rfl hE rfl (fun w hw=>bG aX (b2f.c 1 rfl w hw))) fun a hE=>Gs hE hc2 rfl rfl fun a hE=>pk0 hE hc2 rfl rfl rfl rfl fun a hE=>?_
  obtain rfl:=oj hg1
  exact aB ⟨hE.cut ⟨rfl,rfl,rfl,trivial⟩,hp⟩
 rintro a w ⟨hE,hp⟩
 refine aB ?_
 refine dI hE rfl (fun hc3=>?_) (fun hc3=>?_)
 ·replace hm:=(it hc3).symm.trans hm
  refine aF (aA ?_)
  refine S hE 2 rfl fun a hE=>aB (dD ?_)
  obtain rfl:=oj hm
  exact yG hE rfl rfl rfl ⟨_,rfl,rfl,(hp.drop)⟩
 replace hm:=(ie hc3).symm.trans hm
 refine bC (aF ?_)
 refine aA (S hE 2 rfl fun a hE=>?_)
 obtain⟨x3,ex3,hm⟩:=bnd hm
 obtain⟨b3,b3o,b3c,b3r,b3k,b3f⟩:=aH.at hp0 eP ex3
 obtain rfl:b3c=Enc.enc x3:=b3k
 have b3f:AtP ρ b3 b3o [(Iv x3.a),(Iv x3.b)]:=b3f
 refine V hE hp rfl (aO rfl hE rfl rfl b3r) fun a hE=>V hE hp rfl (xf hE fD rfl rfl) fun a hE=>V hE hp rfl (aJ rfl hE rfl (fun w hw=>bG aX (b3f.c 1 rfl w hw))) fun a hE=>S hE 2 rfl fun a hE=>aB (dD ?_)
 obtain rfl:=oj hm
 exact yG hE rfl rfl rfl ⟨_,rfl,rfl,(hp.drop)⟩
end Go.Proofs.YtopnldfjcciieaaGreat

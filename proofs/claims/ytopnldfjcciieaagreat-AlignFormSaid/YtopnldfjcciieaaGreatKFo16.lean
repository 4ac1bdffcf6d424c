/- The code goes as its model: assessor/align.Partner$1, slices.IndexFunc[[]assessor/api.Operation,assessor/api.Operation]@assessor/align.Partner$1, assessor/align -/
import Derived.Test.YtopnldfjcciieaaGreatKFoT
import Derived.Test.YtopnldfjcciieaaGreatKFo4
import Derived.Test.YtopnldfjcciieaaGreatKFo5
set_option linter.unusedVariables false
set_option linter.unusedSimpArgs false
set_option maxRecDepth 100000
set_option maxHeartbeats 4000000
namespace Go.Proofs.YtopnldfjcciieaaGreat
open Go.RowKit
theorem aI7 {Z:World} {ρ:PH} {L:List bK} {w:World} (p0:Opn) (bcp0:Nat) (cp0:Int) (hp:Hp Z ρ (Pt bcp0 (.cells #[(Iv cp0)] 3 (0,0))::L) w) (r:Bool) (hm:vI p0 cp0=some r):
  Calls Tryz.prog 39 #[(.agg #[(Iv p0.a),(Iv p0.b)]),(Pv bcp0 0)] w (Ret fun v w'=>v=(.bool r)∧Hp Z ρ (Pt bcp0 (.cells #[(Iv cp0)] 3 (0,0))::L) w'):=by
 refine enter (N:=8) Tryz.func39 rfl rfl [(0,(.agg #[(Iv p0.a),(Iv p0.b)])),(1,(Pv bcp0 0))] rfl (bC ⟨rfl,rfl,trivial⟩) fun a hE=>?_
 unfold vI at hm
 refine aG (aA ?_)
 refine iI (wk0 rfl) rfl rfl hE hp rfl (v:=(.agg #[(Iv p0.a),(Iv p0.b)])) rfl ?_
 intro a w b1 hE hp
 have hp:=r2 hp
 refine S hE 1 rfl fun a hE=>aB (aG ?_)
 refine aA (V hE hp rfl (xf hE fA rfl rfl) fun a hE=>?_)
 refine V hE hp rfl (xl hE aT 0 rfl rfl rfl rfl) fun a hE=>V hE hp rfl (xl hE aT 1 rfl rfl rfl rfl) fun a hE=>S hE 2 rfl fun a hE=>aB (bZ ?_)
 obtain rfl:=oj hm
 exact gJ hE rfl rfl ⟨_,rfl,rfl,(hp.drop)⟩
theorem xO {Z:World} {ρ:PH} {L:List bK} {w:World} (p0:(List Opn)) (vp0:Value) (hp0:aH ρ vp0 p0) (bp1c0:Nat) (p1c0:Int) (hp:Hp Z ρ (Pt bp1c0 (.cells #[(Iv p1c0)] 3 (0,0))::L) w) (r:Int) (hm:jC p0 p1c0=some r):
  Calls Tryz.prog 38 #[vp0,(.func (.func 39) #[] #[(Pv bp1c0 0)])] w (Ret fun v w'=>v=(Iv r)∧Hp Z ρ (Pt bp1c0 (.cells #[(Iv p1c0)] 3 (0,0))::L) w'):=by
 refine enter (N:=19) Tryz.func38 rfl rfl [(0,vp0),(1,(.func (.func 39) #[] #[(Pv bp1c0 0)]))] rfl (bC ⟨rfl,rfl,trivial⟩) fun a hE=>?_
 unfold jC at hm
 refine aG (aA ?_)
 refine S hE 1 rfl fun a hE=>aB (aG ?_)
 refine aG (aA ?_)
 refine S hE 1 rfl fun a hE=>V hE hp rfl (bT rfl hE rfl (aH.len hp0 dW)) fun a hE=>S hE 1 rfl fun a hE=>aB ?_
 obtain⟨b1,hc1,hm⟩:=bnd hm
 refine dH (fun a w=>∃s:Unit,b1= .brk s∧(Env 19 [] a∧Hp Z ρ (Pt bp1c0 (.cells #[(Iv p1c0)] 3 (0,0))::L) w)) ?_ ?_
 ·refine dZ hc1 (fun s a w=>Env 19 [(0,vp0),(1,(.func (.func 39) #[] #[(Pv bp1c0 0)])),(7,(Iv (p0.length:Int))),(8,(Iv s))] a∧Hp Z ρ (Pt bp1c0 (.cells #[(Iv p1c0)] 3 (0,0))::L) w) ?_ ?_
  ·exact⟨hE.cut ⟨rfl,rfl,rfl,rfl,trivial⟩,hp⟩
  rintro aP st a w ⟨hE,hp⟩ hl1
  unfold gI at hl1
  refine aG (aA ?_)
  refine S hE 1 rfl fun a hE=>aB (aG ?_)
  refine dE hE rfl (fun hc2=>?_) (fun hc2=>?_)
  ·replace hl1:=(it hc2).symm.trans hl1
   refine aZ (aG ?_)
   refine dM (aG ?_)
   refine aA (S hE 2 rfl fun a hE=>?_)
   refine aB (aG ?_)
   refine aA (S hE 3 rfl fun a hE=>?_)
   obtain⟨x1,ex1,hl1⟩:=bnd hl1
   obtain⟨b2,b2o,b2c,b2r,b2k,b2f⟩:=aH.at hp0 dW ex1
   obtain rfl:b2c=Enc.enc x1:=b2k
   have b2f:AtP ρ b2 b2o [(Iv x1.a),(Iv x1.b)]:=b2f
   refine V hE hp rfl (aN rfl hE rfl rfl b2r) fun a hE=>V hE hp rfl (aK rfl hE rfl (fun w hw=>aW (cs:=[(Iv x1.a),(Iv x1.b)]) fF (fun j u hj=>cell_of hw.le (b2f j u hj)))) fun a hE=>?_
   obtain⟨x2,ex2,hl1⟩:=bnd hl1
   refine pU (wk0 rfl) rfl rfl hE rfl rfl [(.agg #[(Iv x1.a),(Iv x1.b)])] ⟨rfl,trivial⟩ ent39 (aI7 x1 bp1c0 p1c0 hp x2 ex2) Ret.ret ?_
   intro v a w hR hE
   obtain⟨rfl,hp⟩:=Ret.of hR
   have hp:=r1 hp
   refine aB ?_
   have hE:=hE.cut (E':=[(0,vp0),(1,(.func (.func 39) #[] #[(Pv bp1c0 0)])),(5,(Iv aP)),(7,(Iv (p0.length:Int))),(8,(Iv aP)),(16,(.bool x2))]) ⟨rfl,rfl,rfl,rfl,rfl,rfl,trivial⟩
   refine dE hE rfl (fun hc3=>?_) (fun hc3=>?_)
   ·replace hl1:=(it hc3).symm.trans hl1
    refine aG (aA ?_)
    refine S hE 2 rfl fun a hE=>aB (bZ ?_)
    refine⟨_,(oj hl1).symm,fun hb=>?_⟩
    subst hb
    obtain rfl:=oj hm
    exact gJ hE rfl rfl ⟨_,rfl,rfl,hp⟩
   replace hl1:=(ie hc3).symm.trans hl1
   refine aZ (aA ?_)
   obtain⟨x3,ex3,hl1⟩:=bnd hl1
   refine V hE hp rfl (bF rfl hE rfl rfl (aO ex3)) fun a hE=>S hE 1 rfl fun a hE=>aB ?_
   exact⟨_,(oj hl1).symm,hE.cut ⟨rfl,rfl,rfl,rfl,trivial⟩,hp⟩
  replace hl1:=(ie hc2).symm.trans hl1
  refine dS ?_
  refine⟨_,(oj hl1).symm,fun hbb=>?_⟩
  exact⟨_,hbb.symm,hE.cut trivial,hp⟩
 rintro a w ⟨b1s,rfl,hE,hp⟩
 dsimp only at hm
 refine aG (aA ?_)
 refine S hE 1 rfl fun a hE=>aB (bZ ?_)
 obtain rfl:=oj hm
 exact gJ hE rfl rfl ⟨_,rfl,rfl,hp⟩
theorem H9 {Z:World} {ρ:PH} {L:List bK} {w:World} (p0:(List Opn)) (vp0:Value) (hp0:aH ρ vp0 p0) (p1:Int) (hp:Hp Z ρ (L) w) (r:(Int×Bool)) (hm:qC p0 p1=some r):
  Calls Tryz.prog 13 #[vp0,(Iv p1)] w (Ret fun v w'=>v= .tuple #[(Iv r.1),(.bool r.2)]∧Hp Z ρ (L) w'):=by
 refine enter (N:=29) Tryz.func13 rfl rfl [(0,vp0),(1,(Iv p1))] rfl (bC ⟨rfl,rfl,trivial⟩) fun a hE=>?_
 unfold qC at hm
 refine aG (aA ?_)
 refine iI (wk0 rfl) rfl rfl hE hp rfl (v:=(Iv p1)) rfl ?_
 intro a w b1 hE hp
 have hp:=r1 hp
 refine S hE 2 rfl fun a hE=>aB (aG ?_)
 refine aA (S hE 1 rfl fun a hE=>?_)
 refine V hE hp rfl (v:=(.func (.func 39) #[] #[(Pv b1 0)])) (ex_fn rfl hE [(Pv b1 0)] (by exact⟨rfl,trivial⟩)) fun a hE=>?_
 obtain⟨x1,ex1,hm⟩:=bnd hm
 refine Cl hE rfl rfl ent38 (xO p0 vp0 hp0 b1 p1 hp x1 ex1) ⟨rfl,rfl,trivial⟩ fun v a w hR hE=>?_
 obtain⟨rfl,hp⟩:=hR
 have hp:=r1 hp
 refine S hE 1 rfl fun a hE=>aB (aG ?_)
 refine aG (aA ?_)
 refine S hE 3 rfl fun a hE=>?_
 refine iL [_,_,_] (fun a w=>Env 29 [(15,(.bool ((decide (x1<0))||(decide (p1<0))))),(0,vp0),(6,(Iv x1))] a∧Hp Z ρ (Pt b1 (.cells #[(Iv p1)] 3 (0,0))::L) w) ?_ ?_
 ·rcases Bool.eq_false_or_eq_true (decide (x1<0)) with hc1|hc1
  ·
   refine Gk hE hc1 rfl fun a hE=>Gk hE hc1 rfl fun a hE=>pk1 hE hc1 rfl rfl rfl rfl fun a hE=>?_
   have hE:=hE.eqv (v':=(.bool ((decide (x1<0))||(decide (p1<0))))) (by rw[hc1];rfl)
   exact aB ⟨hE.cut ⟨rfl,rfl,rfl,trivial⟩,hp⟩
  refine G hE hp hc1 rfl (xl hE aT 0 rfl rfl rfl rfl) fun a hE=>Gs hE hc1 rfl rfl fun a hE=>pk0 hE hc1 rfl rfl rfl rfl fun a hE=>?_
  have hE:=hE.eqv (v':=(.bool ((decide (x1<0))||(decide (p1<0))))) (by rw[hc1];rfl)
  exact aB ⟨hE.cut ⟨rfl,rfl,rfl,trivial⟩,hp⟩
 rintro a w ⟨hE,hp⟩
 refine S hE 1 rfl fun a hE=>?_
 obtain⟨m1,hg1,hm⟩:=bnd hm
 refine iL [_,_,_,_,_,_,_] (fun a w=>Env 29 [(23,(.bool m1)),(0,vp0),(6,(Iv x1))] a∧Hp Z ρ (Pt b1 (.cells #[(Iv p1)] 3 (0,0))::L) w) ?_ ?_
 ·rcases Bool.eq_false_or_eq_true ((decide (x1<0))||(decide (p1<0))) with hc2|hc2
  ·
   replace hg1:=(it hc2).symm.trans hg1
   refine Gk hE hc2 rfl fun a hE=>Gk hE hc2 rfl fun a hE=>Gk hE hc2 rfl fun a hE=>Gk hE hc2 rfl fun a hE=>Gk hE hc2 rfl fun a hE=>Gk hE hc2 rfl fun a hE=>pk1 hE hc2 rfl rfl rfl rfl fun a hE=>?_
   obtain rfl:=oj hg1
   exact aB ⟨hE.cut ⟨rfl,rfl,rfl,trivial⟩,hp⟩
  replace hg1:=(ie hc2).symm.trans hg1
  refine Gs hE hc2 rfl rfl fun a hE=>Gs hE hc2 rfl rfl fun a hE=>?_
  obtain⟨x2,ex2,hg1⟩:=bnd hg1
  obtain⟨b2,b2o,b2c,b2r,b2k,b2f⟩:=aH.at hp0 dW ex2
  obtain rfl:b2c=Enc.enc x2:=b2k
  have b2f:AtP ρ b2 b2o [(Iv x2.a),(Iv x2.b)]:=b2f
  refine G hE hp hc2 rfl (aN rfl hE rfl rfl b2r) fun a hE=>G hE hp hc2 rfl (xf hE dK rfl rfl) fun a hE=>G hE hp hc2 rfl (aK rfl hE rfl (fun w hw=>aV aT (b2f.c 1 rfl w hw))) fun a hE=>Gs hE hc2 rfl rfl fun a hE=>pk0 hE hc2 rfl rfl rfl rfl fun a hE=>?_
  obtain rfl:=oj hg1
  exact aB ⟨hE.cut ⟨rfl,rfl,rfl,trivial⟩,hp⟩
 rintro a w ⟨hE,hp⟩
 refine aB ?_
 refine dE hE rfl (fun hc3=>?_) (fun hc3=>?_)
 ·replace hm:=(it hc3).symm.trans hm
  refine aG (aA ?_)
  refine S hE 2 rfl fun a hE=>aB (bZ ?_)
  obtain rfl:=oj hm
  exact yU hE rfl rfl rfl ⟨_,rfl,rfl,(hp.drop)⟩
 replace hm:=(ie hc3).symm.trans hm
 refine aZ (aG ?_)
 refine aA (S hE 2 rfl fun a hE=>?_)
 obtain⟨x3,ex3,hm⟩:=bnd hm
 obtain⟨b3,b3o,b3c,b3r,b3k,b3f⟩:=aH.at hp0 dW ex3
 obtain rfl:b3c=Enc.enc x3:=b3k
 have b3f:AtP ρ b3 b3o [(Iv x3.a),(Iv x3.b)]:=b3f
 refine V hE hp rfl (aN rfl hE rfl rfl b3r) fun a hE=>V hE hp rfl (xf hE dK rfl rfl) fun a hE=>V hE hp rfl (aK rfl hE rfl (fun w hw=>aV aT (b3f.c 1 rfl w hw))) fun a hE=>S hE 2 rfl fun a hE=>aB (bZ ?_)
 obtain rfl:=oj hm
 exact yU hE rfl rfl rfl ⟨_,rfl,rfl,(hp.drop)⟩
end Go.Proofs.YtopnldfjcciieaaGreat

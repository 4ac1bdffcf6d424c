/- The code goes as its model: cmp.isNaN[int], cmp.Compare[int], assessor/align.sorted$1, slices.insertionSortCmpFunc[assessor/api.Operation]@assessor/align.sorted -/
import Derived.Test.YtopnldfjcciieaaGreatKFoT
import Derived.Test.YtopnldfjcciieaaGreatKFo4
import Derived.Test.YtopnldfjcciieaaGreatKFo5
import Derived.Test.YtopnldfjcciieaaGreatKFo16
set_option linter.unusedVariables false
set_option linter.unusedSimpArgs false
set_option maxRecDepth 100000
set_option maxHeartbeats 4000000
namespace Go.Proofs.YtopnldfjcciieaaGreat
open Go.RowKit
theorem Z9 {Z:World} {ρ:PH} {L:List bK} {w:World} (p0:Int) (hp:Hp Z ρ (L) w) (r:Bool) (hm:wZ p0=some r):
  Calls Tryz.prog 100 #[(Iv p0)] w (Ret fun v w'=>v=(.bool r)∧Hp Z ρ (L) w'):=by
 refine enter (N:=6) Tryz.func100 rfl rfl [(0,(Iv p0))] rfl (bC ⟨rfl,trivial⟩) fun a hE=>?_
 unfold wZ at hm
 refine aG (aA ?_)
 refine S hE 1 rfl fun a hE=>aB (aG ?_)
 refine aA (S hE 4 rfl fun a hE=>?_)
 refine aB (bZ ?_)
 obtain rfl:=oj hm
 exact gJ hE rfl rfl ⟨_,rfl,rfl,hp⟩
theorem P6 {Z:World} {ρ:PH} {L:List bK} {w:World} (p0:Int) (p1:Int) (hp:Hp Z ρ (L) w) (r:Int) (hm:uO p0 p1=some r):
  Calls Tryz.prog 85 #[(Iv p0),(Iv p1)] w (Ret fun v w'=>v=(Iv r)∧Hp Z ρ (L) w'):=by
 refine enter (N:=20) Tryz.func85 rfl rfl [(0,(Iv p0)),(1,(Iv p1))] rfl (bC ⟨rfl,rfl,trivial⟩) fun a hE=>?_
 unfold uO at hm
 refine aG (aA ?_)
 refine S hE 1 rfl fun a hE=>aB (aG ?_)
 refine aA (S hE 1 rfl fun a hE=>?_)
 obtain⟨x1,ex1,hm⟩:=bnd hm
 refine Cl hE rfl rfl ent100 (Z9 p0 hp x1 ex1) ⟨rfl,trivial⟩ fun v a w hR hE=>?_
 obtain⟨rfl,hp⟩:=hR
 have hp:=r0 hp
 refine S hE 1 rfl fun a hE=>aB (aG ?_)
 refine aA (S hE 1 rfl fun a hE=>?_)
 obtain⟨x2,ex2,hm⟩:=bnd hm
 refine Cl hE rfl rfl ent100 (Z9 p1 hp x2 ex2) ⟨rfl,trivial⟩ fun v a w hR hE=>?_
 obtain⟨rfl,hp⟩:=hR
 have hp:=r0 hp
 refine S hE 1 rfl fun a hE=>aB (aG ?_)
 refine aG (aA ?_)
 refine S hE 1 rfl fun a hE=>aB ?_
 refine dE hE rfl (fun hc1=>?_) (fun hc1=>?_)
 ·replace hm:=(it hc1).symm.trans hm
  refine aG (aG ?_)
  refine aA (S hE 1 rfl fun a hE=>?_)
  refine aB ?_
  refine dE hE rfl (fun hc2=>?_) (fun hc2=>?_)
  ·replace hm:=(it hc2).symm.trans hm
   refine aG (aA ?_)
   refine S hE 1 rfl fun a hE=>aB (bZ ?_)
   obtain rfl:=oj hm
   exact gJ hE rfl rfl ⟨_,rfl,rfl,hp⟩
  replace hm:=(ie hc2).symm.trans hm
  refine aZ (aG ?_)
  refine aA (S hE 1 rfl fun a hE=>?_)
  refine aB (bZ ?_)
  obtain rfl:=oj hm
  exact gJ hE rfl rfl ⟨_,rfl,rfl,hp⟩
 replace hm:=(ie hc1).symm.trans hm
 refine aZ (aG ?_)
 refine aG (aA ?_)
 refine S hE 1 rfl fun a hE=>aB ?_
 refine dE hE rfl (fun hc3=>?_) (fun hc3=>?_)
 ·replace hm:=(it hc3).symm.trans hm
  refine aG (aA ?_)
  refine S hE 1 rfl fun a hE=>aB (bZ ?_)
  obtain rfl:=oj hm
  exact gJ hE rfl rfl ⟨_,rfl,rfl,hp⟩
 replace hm:=(ie hc3).symm.trans hm
 refine aZ (aG ?_)
 refine aG (aA ?_)
 refine S hE 3 rfl fun a hE=>aB ?_
 refine dE hE rfl (fun hc4=>?_) (fun hc4=>?_)
 ·replace hm:=(it hc4).symm.trans hm
  refine aG (aA ?_)
  refine S hE 1 rfl fun a hE=>aB (bZ ?_)
  obtain rfl:=oj hm
  exact gJ hE rfl rfl ⟨_,rfl,rfl,hp⟩
 replace hm:=(ie hc4).symm.trans hm
 refine aZ (aG ?_)
 refine aG (aA ?_)
 refine S hE 3 rfl fun a hE=>aB ?_
 refine dE hE rfl (fun hc5=>?_) (fun hc5=>?_)
 ·replace hm:=(it hc5).symm.trans hm
  refine aG (aA ?_)
  refine S hE 1 rfl fun a hE=>aB (bZ ?_)
  obtain rfl:=oj hm
  exact gJ hE rfl rfl ⟨_,rfl,rfl,hp⟩
 replace hm:=(ie hc5).symm.trans hm
 refine aZ (aG ?_)
 refine aA (S hE 1 rfl fun a hE=>?_)
 refine aB (bZ ?_)
 obtain rfl:=oj hm
 exact gJ hE rfl rfl ⟨_,rfl,rfl,hp⟩
theorem wR {Z:World} {ρ:PH} {L:List bK} {w:World} (p0:Opn) (p1:Opn) (hp:Hp Z ρ (L) w) (r:Int) (hm:qP p0 p1=some r):
  Calls Tryz.prog 84 #[(.agg #[(Iv p0.a),(Iv p0.b)]),(.agg #[(Iv p1.a),(Iv p1.b)])] w (Ret fun v w'=>v=(Iv r)∧Hp Z ρ (L) w'):=by
 refine enter (N:=37) Tryz.func84 rfl rfl [(0,(.agg #[(Iv p0.a),(Iv p0.b)])),(1,(.agg #[(Iv p1.a),(Iv p1.b)]))] rfl (bC ⟨rfl,rfl,trivial⟩) fun a hE=>?_
 unfold qP at hm
 refine aG (aA ?_)
 refine iI (wk0 rfl) rfl rfl hE hp rfl (v:=(.agg #[(Iv p0.a),(Iv p0.b)])) rfl ?_
 intro a w b1 hE hp
 have hp:=r1 hp
 refine iI (wk0 rfl) rfl rfl hE hp rfl (v:=(.agg #[(Iv p1.a),(Iv p1.b)])) rfl ?_
 intro a w b2 hE hp
 have hp:=r2 hp
 refine S hE 1 rfl fun a hE=>aB (aG ?_)
 refine dM (aG ?_)
 refine aA (V hE hp rfl (xf hE fA rfl rfl) fun a hE=>?_)
 refine V hE hp rfl (xl hE aT 1 rfl rfl rfl rfl) fun a hE=>S hE 2 rfl fun a hE=>?_
 refine iL [_,_,_,_] (fun a w=>Env 37 [(13,(.bool ((decide (0≤p0.a))&&(decide (0≤p1.a))))),(2,(Pv b1 0)),(3,(Pv b2 0))] a∧Hp Z ρ (Pt b2 (.cells #[(Iv p1.a),(Iv p1.b)] 46 (0,0))::Pt b1 (.cells #[(Iv p0.a),(Iv p0.b)] 46 (0,0))::L) w) ?_ ?_
 ·rcases Bool.eq_false_or_eq_true (decide (0≤p0.a)) with hc1|hc1
  ·
   refine G hE hp hc1 rfl (xf hE fA rfl rfl) fun a hE=>G hE hp hc1 rfl (xl hE aT 0 rfl rfl rfl rfl) fun a hE=>Gs hE hc1 rfl rfl fun a hE=>pk1 hE hc1 rfl rfl rfl rfl fun a hE=>?_
   have hE:=hE.eqv (v':=(.bool ((decide (0≤p0.a))&&(decide (0≤p1.a))))) (by rw[hc1];rfl)
   exact aB ⟨hE.cut ⟨rfl,rfl,rfl,trivial⟩,hp⟩
  refine Gk hE hc1 rfl fun a hE=>Gk hE hc1 rfl fun a hE=>Gk hE hc1 rfl fun a hE=>pk0 hE hc1 rfl rfl rfl rfl fun a hE=>?_
  have hE:=hE.eqv (v':=(.bool ((decide (0≤p0.a))&&(decide (0≤p1.a))))) (by rw[hc1];rfl)
  exact aB ⟨hE.cut ⟨rfl,rfl,rfl,trivial⟩,hp⟩
 rintro a w ⟨hE,hp⟩
 refine S hE 1 rfl fun a hE=>aB ?_
 refine dE hE rfl (fun hc2=>?_) (fun hc2=>?_)
 ·replace hm:=(it hc2).symm.trans hm
  refine aG (aA ?_)
  refine V hE hp rfl (xf hE fA rfl rfl) fun a hE=>V hE hp rfl (xl hE aT 1 rfl rfl rfl rfl) fun a hE=>V hE hp rfl (xf hE fA rfl rfl) fun a hE=>V hE hp rfl (xl hE aT 0 rfl rfl rfl rfl) fun a hE=>?_
  obtain⟨x1,ex1,hm⟩:=bnd hm
  refine Cl hE rfl rfl ent85 (P6 p0.a p1.a hp x1 ex1) ⟨rfl,rfl,trivial⟩ fun v a w hR hE=>?_
  obtain⟨rfl,hp⟩:=hR
  have hp:=r2 hp
  refine S hE 1 rfl fun a hE=>aB (bZ ?_)
  obtain rfl:=oj hm
  exact gJ hE rfl rfl ⟨_,rfl,rfl,(((hp.get 1 rfl).drop).drop)⟩
 replace hm:=(ie hc2).symm.trans hm
 refine aG (aA ?_)
 refine V hE hp rfl (xf hE fA rfl rfl) fun a hE=>V hE hp rfl (xl hE aT 1 rfl rfl rfl rfl) fun a hE=>S hE 2 rfl fun a hE=>?_
 refine iL [_,_,_,_] (fun a w=>Env 37 [(27,(.bool ((decide (p0.a<0))&&(decide (p1.a<0))))),(2,(Pv b1 0)),(3,(Pv b2 0))] a∧Hp Z ρ (Pt b2 (.cells #[(Iv p1.a),(Iv p1.b)] 46 (0,0))::Pt b1 (.cells #[(Iv p0.a),(Iv p0.b)] 46 (0,0))::L) w) ?_ ?_
 ·rcases Bool.eq_false_or_eq_true (decide (p0.a<0)) with hc3|hc3
  ·
   refine G hE hp hc3 rfl (xf hE fA rfl rfl) fun a hE=>G hE hp hc3 rfl (xl hE aT 0 rfl rfl rfl rfl) fun a hE=>Gs hE hc3 rfl rfl fun a hE=>pk1 hE hc3 rfl rfl rfl rfl fun a hE=>?_
   have hE:=hE.eqv (v':=(.bool ((decide (p0.a<0))&&(decide (p1.a<0))))) (by rw[hc3];rfl)
   exact aB ⟨hE.cut ⟨rfl,rfl,rfl,trivial⟩,hp⟩
  refine Gk hE hc3 rfl fun a hE=>Gk hE hc3 rfl fun a hE=>Gk hE hc3 rfl fun a hE=>pk0 hE hc3 rfl rfl rfl rfl fun a hE=>?_
  have hE:=hE.eqv (v':=(.bool ((decide (p0.a<0))&&(decide (p1.a<0))))) (by rw[hc3];rfl)
  exact aB ⟨hE.cut ⟨rfl,rfl,rfl,trivial⟩,hp⟩
 rintro a w ⟨hE,hp⟩
 refine S hE 1 rfl fun a hE=>aB ?_
 refine dE hE rfl (fun hc4=>?_) (fun hc4=>?_)
 ·replace hm:=(it hc4).symm.trans hm
  refine aG (aA ?_)
  refine V hE hp rfl (xf hE dK rfl rfl) fun a hE=>V hE hp rfl (xl hE aT 1 rfl rfl rfl rfl) fun a hE=>V hE hp rfl (xf hE dK rfl rfl) fun a hE=>V hE hp rfl (xl hE aT 0 rfl rfl rfl rfl) fun a hE=>?_
  obtain⟨x2,ex2,hm⟩:=bnd hm
  refine Cl hE rfl rfl ent85 (P6 p0.b p1.b hp x2 ex2) ⟨rfl,rfl,trivial⟩ fun v a w hR hE=>?_
  obtain⟨rfl,hp⟩:=hR
  have hp:=r2 hp
  refine S hE 1 rfl fun a hE=>aB (bZ ?_)
  obtain rfl:=oj hm
  exact gJ hE rfl rfl ⟨_,rfl,rfl,(((hp.get 1 rfl).drop).drop)⟩
 replace hm:=(ie hc4).symm.trans hm
 refine aG (aA ?_)
 refine V hE hp rfl (xf hE fA rfl rfl) fun a hE=>V hE hp rfl (xl hE aT 1 rfl rfl rfl rfl) fun a hE=>S hE 2 rfl fun a hE=>aB ?_
 refine dE hE rfl (fun hc5=>?_) (fun hc5=>?_)
 ·replace hm:=(it hc5).symm.trans hm
  refine aG (aA ?_)
  refine S hE 1 rfl fun a hE=>aB (bZ ?_)
  obtain rfl:=oj hm
  exact gJ hE rfl rfl ⟨_,rfl,rfl,(((hp.get 1 rfl).drop).drop)⟩
 replace hm:=(ie hc5).symm.trans hm
 refine aZ (aG ?_)
 refine aA (S hE 1 rfl fun a hE=>?_)
 refine aB (bZ ?_)
 obtain rfl:=oj hm
 exact gJ hE rfl rfl ⟨_,rfl,rfl,(((hp.get 1 rfl).drop).drop)⟩
theorem lY {Z:World} {ρ:PH} {L:List bK} {w:World} (p0:(List Opn)) (vp0:Value) (p1:Int) (p2:Int) (hp:Hp Z ρ (aC 46 vp0 p0::L) w) (r:(List Opn)) (hm:gV p0 p1 p2=some r):
  Calls Tryz.prog 112 #[vp0,(Iv p1),(Iv p2),(.func (.func 84) #[] #[])] w (Ret fun v w'=>v= .tuple #[]∧Hp Z ρ (aC 46 vp0 r::L) w'):=by
 refine enter (N:=53) Tryz.func112 rfl rfl [(0,vp0),(1,(Iv p1)),(2,(Iv p2)),(3,(.func (.func 84) #[] #[]))] rfl (bC ⟨rfl,rfl,rfl,rfl,trivial⟩) fun a hE=>?_
 unfold gV at hm
 refine aG (aA ?_)
 refine S hE 1 rfl fun a hE=>?_
 obtain⟨x1,ex1,hm⟩:=bnd hm
 refine V hE hp rfl (bF rfl hE rfl rfl (aO ex1)) fun a hE=>S hE 1 rfl fun a hE=>aB ?_
 obtain⟨b1,hc1,hm⟩:=bnd hm
 refine dH (fun a w=>Env 53 [] a∧Hp Z ρ (aC 46 vp0 b1::L) w) ?_ ?_
 ·refine dZ hc1 (fun s a w=>Env 53 [(0,vp0),(1,(Iv p1)),(2,(Iv p2)),(3,(.func (.func 84) #[] #[])),(8,(Iv s.1))] a∧Hp Z ρ (aC 46 vp0 s.2::L) w) ?_ ?_
  ·exact⟨hE.cut ⟨rfl,rfl,rfl,rfl,rfl,trivial⟩,hp⟩
  rintro⟨aP,aU⟩ st a w ⟨hE,hp⟩ hl1
  dsimp only at hE hp hl1
  unfold kW at hl1
  refine aG (aG ?_)
  refine aA (S hE 3 rfl fun a hE=>?_)
  refine aB ?_
  refine dE hE rfl (fun hc2=>?_) (fun hc2=>?_)
  ·replace hl1:=(it hc2).symm.trans hl1
   refine aZ (aG ?_)
   refine dM (aG ?_)
   refine aA (S hE 2 rfl fun a hE=>?_)
   refine aB ?_
   obtain⟨b2,hc3,hl1⟩:=bnd hl1
   refine dH (fun a w=>Env 53 [(0,vp0),(1,(Iv p1)),(2,(Iv p2)),(3,(.func (.func 84) #[] #[])),(8,(Iv aP))] a∧Hp Z ρ (aC 46 vp0 b2::L) w) ?_ ?_
   ·refine dZ hc3 (fun s a w=>Env 53 [(0,vp0),(1,(Iv p1)),(2,(Iv p2)),(3,(.func (.func 84) #[] #[])),(8,(Iv aP)),(9,(Iv s.1))] a∧Hp Z ρ (aC 46 vp0 s.2::L) w) ?_ ?_
    ·exact⟨hE.cut ⟨rfl,rfl,rfl,rfl,rfl,rfl,trivial⟩,hp⟩
    rintro⟨bJ,dY⟩ st a w ⟨hE,hp⟩ hl2
    dsimp only at hE hp hl2
    unfold kX at hl2
    refine aG (aG ?_)
    obtain⟨m1,hg1,hl2⟩:=bnd hl2
    have hp:=hp.drew
    refine fG ([([],At0 Z ρ),([],At1 Z ρ (aC 46 vp0 dY))]:Facts) (fun a w=>Env 53 [(0,vp0),(1,(Iv p1)),(2,(Iv p2)),(3,(.func (.func 84) #[] #[])),(8,(Iv aP)),(9,(Iv bJ)),(34,(.bool m1))] a∧Hp Z ρ (aC 46 vp0 dY::L) w) (by kernel_rfl) ⟨fun _=>⟨_,hp⟩,fun _=>⟨_,(hp.get 0 rfl)⟩,trivial⟩ (fun hS=>?_) ?_
    ·
     generalize w.drew=w at hS hp⊢
     refine Ts [0,1,2,3] hE hS rfl rfl (by kernel_rfl) fun a hE hS=>?_
     rcases Bool.eq_false_or_eq_true (decide (p1<bJ)) with hc5|hc5
     ·
      have hg1:=(it hc5).symm.trans hg1
      obtain⟨x2,ex2,hg1⟩:=bnd hg1
      obtain⟨x3,ex3,hg1⟩:=bnd hg1
      obtain⟨x4,ex4,hg1⟩:=bnd hg1
      obtain⟨x5,ex5,hg1⟩:=bnd hg1
      refine Tg0 4 hE hc5 hS rfl rfl rfl (by kernel_rfl) (fun _=>eH rfl hE rfl) fun a hE hS=>Tg0 5 hE hc5 hS rfl rfl rfl (by kernel_rfl) (fun _=>eH rfl hE rfl) fun a hE hS=>Tg0 6 hE hc5 hS rfl rfl rfl (by kernel_rfl) (fun _=>eH rfl hE rfl) fun a hE hS=>?_
      obtain⟨b5,b5o,b5r,b5v,b5f⟩:=aC.at hp 0 rfl dW ex2
      refine Tg0 7 hE hc5 hS rfl rfl rfl (by kernel_rfl) (fun _=>aN rfl hE rfl rfl b5r) fun a hE hS=>Tg 8 1 hE hc5 hS rfl rfl rfl (by kernel_rfl) (fun _=>aK rfl hE rfl (fun w hw=>aW (cs:=[(Iv x2.a),(Iv x2.b)]) fF (fun j u hj=>b5f j u hj _ _ w (hw.get 0 rfl)))) fun a hE hS=>Tg0 9 hE hc5 hS rfl rfl rfl (by kernel_rfl) (fun _=>eH rfl hE rfl) fun a hE hS=>Tg0 10 hE hc5 hS rfl rfl rfl (by kernel_rfl) (fun _=>eH rfl hE rfl) fun a hE hS=>Tg0 11 hE hc5 hS rfl rfl rfl (by kernel_rfl) (fun _=>dQ rfl hE rfl rfl (aO ex3)) fun a hE hS=>?_
      obtain⟨b6,b6o,b6r,b6v,b6f⟩:=aC.at hp 0 rfl dW ex4
      refine Tg0 12 hE hc5 hS rfl rfl rfl (by kernel_rfl) (fun _=>aN rfl hE rfl rfl b6r) fun a hE hS=>Tg 13 1 hE hc5 hS rfl rfl rfl (by kernel_rfl) (fun _=>aK rfl hE rfl (fun w hw=>aW (cs:=[(Iv x4.a),(Iv x4.b)]) fF (fun j u hj=>b6f j u hj _ _ w (hw.get 0 rfl)))) fun a hE hS=>?_
      refine W1 14 (by kernel_rfl) rfl ?_
      refine pU (wk1 hE rfl rfl rfl hc5) rfl rfl hE rfl rfl [(.agg #[(Iv x2.a),(Iv x2.b)]),(.agg #[(Iv x4.a),(Iv x4.b)])] ⟨rfl,rfl,trivial⟩ ent84 (wR x2 x4 hp x5 ex5) Ret.ret ?_
      intro v a w hR hE
      obtain⟨rfl,hp⟩:=Ret.of hR
      have hp:=r1 hp
      refine aB (aF ⟨gp0 hp,gp 0 hp rfl,trivial⟩ fun hS=>?_)
      refine Tg0 15 hE hc5 hS rfl rfl rfl (by kernel_rfl) (fun _=>P7 rfl hE rfl rfl) fun a hE hS=>T0 16 hE hS rfl rfl rfl (by kernel_rfl) (fun _=>iD rfl hE rfl hc5 rfl) fun a hE hS=>?_
      have hE:=hE.eqv (v':=(.bool m1)) (congrArg Value.bool (oj hg1))
      exact bP (by kernel_rfl) ⟨hE.cut ⟨rfl,rfl,rfl,rfl,rfl,rfl,rfl,trivial⟩,hp⟩
     have hg1:=(ie hc5).symm.trans hg1
     refine Tk 4 hE hc5 hS rfl rfl rfl (by kernel_rfl) fun a hE hS=>Tk 5 hE hc5 hS rfl rfl rfl (by kernel_rfl) fun a hE hS=>Tk 6 hE hc5 hS rfl rfl rfl (by kernel_rfl) fun a hE hS=>Tk 7 hE hc5 hS rfl rfl rfl (by kernel_rfl) fun a hE hS=>Tk 8 hE hc5 hS rfl rfl rfl (by kernel_rfl) fun a hE hS=>Tk 9 hE hc5 hS rfl rfl rfl (by kernel_rfl) fun a hE hS=>Tk 10 hE hc5 hS rfl rfl rfl (by kernel_rfl) fun a hE hS=>Tk 11 hE hc5 hS rfl rfl rfl (by kernel_rfl) fun a hE hS=>Tk 12 hE hc5 hS rfl rfl rfl (by kernel_rfl) fun a hE hS=>Tk 13 hE hc5 hS rfl rfl rfl (by kernel_rfl) fun a hE hS=>Tk 14 hE hc5 hS rfl rfl rfl (by kernel_rfl) fun a hE hS=>Tk 15 hE hc5 hS rfl rfl rfl (by kernel_rfl) fun a hE hS=>T0 16 hE hS rfl rfl rfl (by kernel_rfl) (fun _=>gQ rfl hE rfl hc5 rfl) fun a hE hS=>?_
     have hE:=hE.eqv (v':=(.bool m1)) (congrArg Value.bool (oj hg1))
     exact bP (by kernel_rfl) ⟨hE.cut ⟨rfl,rfl,rfl,rfl,rfl,rfl,rfl,trivial⟩,hp⟩
    rintro a w ⟨hE,hp⟩
    refine dE hE rfl (fun hc6=>?_) (fun hc6=>?_)
    ·replace hl2:=(it hc6).symm.trans hl2
     refine aZ (aG ?_)
     refine dM ?_
     obtain⟨x6,ex6,hl2⟩:=bnd hl2
     obtain⟨x7,ex7,hl2⟩:=bnd hl2
     obtain⟨x8,ex8,hl2⟩:=bnd hl2
     obtain⟨x9,ex9,hl2⟩:=bnd hl2
     obtain⟨x10,ex10,hl2⟩:=bnd hl2
     obtain⟨x11,ex11,hl2⟩:=bnd hl2
     have hp:=hp.drew
     refine fG ([([],At0 Z ρ),([15,17],At1 Z ρ (aC 46 vp0 dY))]:Facts) (fun a w=>Env 53 [(0,vp0),(1,(Iv p1)),(2,(Iv p2)),(3,(.func (.func 84) #[] #[])),(8,(Iv aP)),(9,(Iv bJ))] a∧Hp Z ρ (aC 46 vp0 ((dY.set bJ.toNat x8).set x6.toNat x9)::L) w) (by kernel_rfl) ⟨fun _=>⟨_,hp⟩,fun _=>⟨_,(hp.get 0 rfl)⟩,trivial⟩ (fun hS=>?_) ?_
     ·
      generalize w.drew=w at hS hp⊢
      refine Ts [0,1,2,3] hE hS rfl rfl (by kernel_rfl) fun a hE hS=>T0 4 hE hS rfl rfl rfl (by kernel_rfl) (fun _=>dQ rfl hE rfl rfl (aO ex6)) fun a hE hS=>Ts [5,6] hE hS rfl rfl (by kernel_rfl) fun a hE hS=>T0 7 hE hS rfl rfl rfl (by kernel_rfl) (fun _=>dQ rfl hE rfl rfl (aO ex7)) fun a hE hS=>?_
      obtain⟨b11,b11o,b11r,b11v,b11f⟩:=aC.at hp 0 rfl dW ex8
      refine T0 8 hE hS rfl rfl rfl (by kernel_rfl) (fun _=>aN rfl hE rfl rfl b11r) fun a hE hS=>T 9 1 hE hS rfl rfl rfl (by kernel_rfl) (fun _=>aK rfl hE rfl (fun w hw=>aW (cs:=[(Iv x8.a),(Iv x8.b)]) fF (fun j u hj=>b11f j u hj _ _ w (hw.get 0 rfl)))) fun a hE hS=>Ts [10,11] hE hS rfl rfl (by kernel_rfl) fun a hE hS=>?_
      obtain⟨b12,b12o,b12r,b12v,b12f⟩:=aC.at hp 0 rfl dW ex9
      refine T0 12 hE hS rfl rfl rfl (by kernel_rfl) (fun _=>aN rfl hE rfl rfl b12r) fun a hE hS=>T 13 1 hE hS rfl rfl rfl (by kernel_rfl) (fun _=>aK rfl hE rfl (fun w hw=>aW (cs:=[(Iv x9.a),(Iv x9.b)]) fF (fun j u hj=>b12f j u hj _ _ w (hw.get 0 rfl)))) fun a hE hS=>?_
      obtain⟨b13,b13o,b13r,b13v,b13f⟩:=aC.at hp 0 rfl dW ex10
      refine T0 14 hE hS rfl rfl rfl (by kernel_rfl) (fun _=>aN rfl hE rfl rfl b13r) fun a hE hS=>?_
      refine W1 15 (by kernel_rfl) rfl ?_
      refine D5 (wk0 rfl) rfl hE hp rfl rfl rfl 0 rfl ex10 b13v (e':=x8) fF.size_ rfl (fun q z hz=>b13f q z hz _ _ w (hp.get 0 rfl)) ?_
      intro w hp
      have hp:=r1 hp
      refine aB (aF ⟨gp0 hp,dead (by kernel_rfl),trivial⟩ fun hS=>?_)
      obtain⟨b14,b14o,b14r,b14v,b14f⟩:=aC.at hp 0 rfl dW ex11
      refine T0 16 hE hS rfl rfl rfl (by kernel_rfl) (fun _=>aN rfl hE rfl rfl b14r) fun a hE hS=>?_
      refine W1 17 (by kernel_rfl) rfl ?_
      refine D5 (wk0 rfl) rfl hE hp rfl rfl rfl 0 rfl ex11 b14v (e':=x9) fF.size_ rfl (fun q z hz=>b14f q z hz _ _ w (hp.get 0 rfl)) ?_
      intro w hp
      have hp:=r1 hp
      refine aB (aF ⟨gp0 hp,dead (by kernel_rfl),trivial⟩ fun hS=>?_)
      exact bP (by kernel_rfl) ⟨hE.cut ⟨rfl,rfl,rfl,rfl,rfl,rfl,trivial⟩,hp⟩
     rintro a w ⟨hE,hp⟩
     refine aA (S hE 1 rfl fun a hE=>?_)
     obtain⟨x12,ex12,hl2⟩:=bnd hl2
     refine V hE hp rfl (dQ rfl hE rfl rfl (aO ex12)) fun a hE=>S hE 1 rfl fun a hE=>aB ?_
     exact⟨_,(oj hl2).symm,hE.cut ⟨rfl,rfl,rfl,rfl,rfl,rfl,trivial⟩,hp⟩
    replace hl2:=(ie hc6).symm.trans hl2
    refine dS ?_
    refine⟨_,(oj hl2).symm,fun hbb=>?_⟩
    subst hbb
    exact⟨hE.cut ⟨rfl,rfl,rfl,rfl,rfl,trivial⟩,hp⟩
   rintro a w ⟨hE,hp⟩
   refine aA (S hE 1 rfl fun a hE=>?_)
   obtain⟨x13,ex13,hl1⟩:=bnd hl1
   refine V hE hp rfl (bF rfl hE rfl rfl (aO ex13)) fun a hE=>S hE 1 rfl fun a hE=>aB ?_
   exact⟨_,(oj hl1).symm,hE.cut ⟨rfl,rfl,rfl,rfl,rfl,trivial⟩,hp⟩
  replace hl1:=(ie hc2).symm.trans hl1
  refine dS ?_
  refine⟨_,(oj hl1).symm,fun hbb=>?_⟩
  subst hbb
  exact⟨hE.cut trivial,hp⟩
 rintro a w ⟨hE,hp⟩
 obtain rfl:=oj hm
 exact aB2 hE rfl ⟨_,rfl,rfl,hp⟩
theorem jO {Z:World} {ρ:PH} {L:List bK} {w:World} (p0:(List Opn)) (vp0:Value) (p1:Int) (p2:Int) (p3:Int) (hp:Hp Z ρ (aC 46 vp0 p0::L) w) (r:(List Opn)) (hm:fO p0 p1 p2 p3=some r):
  Calls Tryz.prog 123 #[vp0,(Iv p1),(Iv p2),(Iv p3),(.func (.func 84) #[] #[])] w (Ret fun v w'=>v= .tuple #[]∧Hp Z ρ (aC 46 vp0 r::L) w'):=by
 refine enter (N:=38) Tryz.func123 rfl rfl [(0,vp0),(1,(Iv p1)),(2,(Iv p2)),(3,(Iv p3)),(4,(.func (.func 84) #[] #[]))] rfl (bC ⟨rfl,rfl,rfl,rfl,rfl,trivial⟩) fun a hE=>?_
 unfold fO at hm
 refine aG (aA ?_)
 refine S hE 1 rfl fun a hE=>aB ?_
 obtain⟨b1,hc1,hm⟩:=bnd hm
 refine dH (fun a w=>Env 38 [] a∧Hp Z ρ (aC 46 vp0 b1::L) w) ?_ ?_
 ·refine dZ hc1 (fun s a w=>Env 38 [(0,vp0),(1,(Iv p1)),(2,(Iv p2)),(3,(Iv p3)),(10,(Iv s.1))] a∧Hp Z ρ (aC 46 vp0 s.2::L) w) ?_ ?_
  ·exact⟨hE.cut ⟨rfl,rfl,rfl,rfl,rfl,trivial⟩,hp⟩
  rintro⟨aP,aU⟩ st a w ⟨hE,hp⟩ hl1
  dsimp only at hE hp hl1
  unfold mM at hl1
  refine aG (aG ?_)
  refine aA (S hE 3 rfl fun a hE=>?_)
  refine aB ?_
  refine dE hE rfl (fun hc2=>?_) (fun hc2=>?_)
  ·replace hl1:=(it hc2).symm.trans hl1
   refine aZ (aG ?_)
   refine dM ?_
   obtain⟨x1,ex1,hl1⟩:=bnd hl1
   obtain⟨x2,ex2,hl1⟩:=bnd hl1
   obtain⟨x3,ex3,hl1⟩:=bnd hl1
   obtain⟨x4,ex4,hl1⟩:=bnd hl1
   obtain⟨x5,ex5,hl1⟩:=bnd hl1
   obtain⟨x6,ex6,hl1⟩:=bnd hl1
   obtain⟨x7,ex7,hl1⟩:=bnd hl1
   obtain⟨x8,ex8,hl1⟩:=bnd hl1
   have hp:=hp.drew
   refine fG ([([],At0 Z ρ),([21,23],At1 Z ρ (aC 46 vp0 aU))]:Facts) (fun a w=>Env 38 [(0,vp0),(1,(Iv p1)),(2,(Iv p2)),(3,(Iv p3)),(10,(Iv aP))] a∧Hp Z ρ (aC 46 vp0 ((aU.set x1.toNat x4).set x2.toNat x6)::L) w) (by kernel_rfl) ⟨fun _=>⟨_,hp⟩,fun _=>⟨_,(hp.get 0 rfl)⟩,trivial⟩ (fun hS=>?_) ?_
   ·
    generalize w.drew=w at hS hp⊢
    refine Ts [0,1,2] hE hS rfl rfl (by kernel_rfl) fun a hE hS=>T0 3 hE hS rfl rfl rfl (by kernel_rfl) (fun _=>bF rfl hE rfl rfl (aO ex1)) fun a hE hS=>Ts [4,5,6] hE hS rfl rfl (by kernel_rfl) fun a hE hS=>T0 7 hE hS rfl rfl rfl (by kernel_rfl) (fun _=>bF rfl hE rfl rfl (aO ex2)) fun a hE hS=>Ts [8,9,10] hE hS rfl rfl (by kernel_rfl) fun a hE hS=>T0 11 hE hS rfl rfl rfl (by kernel_rfl) (fun _=>bF rfl hE rfl rfl (aO ex3)) fun a hE hS=>?_
    obtain⟨b6,b6o,b6r,b6v,b6f⟩:=aC.at hp 0 rfl dW ex4
    refine T0 12 hE hS rfl rfl rfl (by kernel_rfl) (fun _=>aN rfl hE rfl rfl b6r) fun a hE hS=>T 13 1 hE hS rfl rfl rfl (by kernel_rfl) (fun _=>aK rfl hE rfl (fun w hw=>aW (cs:=[(Iv x4.a),(Iv x4.b)]) fF (fun j u hj=>b6f j u hj _ _ w (hw.get 0 rfl)))) fun a hE hS=>Ts [14,15,16] hE hS rfl rfl (by kernel_rfl) fun a hE hS=>T0 17 hE hS rfl rfl rfl (by kernel_rfl) (fun _=>bF rfl hE rfl rfl (aO ex5)) fun a hE hS=>?_
    obtain⟨b7,b7o,b7r,b7v,b7f⟩:=aC.at hp 0 rfl dW ex6
    refine T0 18 hE hS rfl rfl rfl (by kernel_rfl) (fun _=>aN rfl hE rfl rfl b7r) fun a hE hS=>T 19 1 hE hS rfl rfl rfl (by kernel_rfl) (fun _=>aK rfl hE rfl (fun w hw=>aW (cs:=[(Iv x6.a),(Iv x6.b)]) fF (fun j u hj=>b7f j u hj _ _ w (hw.get 0 rfl)))) fun a hE hS=>?_
    obtain⟨b8,b8o,b8r,b8v,b8f⟩:=aC.at hp 0 rfl dW ex7
    refine T0 20 hE hS rfl rfl rfl (by kernel_rfl) (fun _=>aN rfl hE rfl rfl b8r) fun a hE hS=>?_
    refine W1 21 (by kernel_rfl) rfl ?_
    refine D5 (wk0 rfl) rfl hE hp rfl rfl rfl 0 rfl ex7 b8v (e':=x4) fF.size_ rfl (fun q z hz=>b8f q z hz _ _ w (hp.get 0 rfl)) ?_
    intro w hp
    have hp:=r1 hp
    refine aB (aF ⟨gp0 hp,dead (by kernel_rfl),trivial⟩ fun hS=>?_)
    obtain⟨b9,b9o,b9r,b9v,b9f⟩:=aC.at hp 0 rfl dW ex8
    refine T0 22 hE hS rfl rfl rfl (by kernel_rfl) (fun _=>aN rfl hE rfl rfl b9r) fun a hE hS=>?_
    refine W1 23 (by kernel_rfl) rfl ?_
    refine D5 (wk0 rfl) rfl hE hp rfl rfl rfl 0 rfl ex8 b9v (e':=x6) fF.size_ rfl (fun q z hz=>b9f q z hz _ _ w (hp.get 0 rfl)) ?_
    intro w hp
    have hp:=r1 hp
    refine aB (aF ⟨gp0 hp,dead (by kernel_rfl),trivial⟩ fun hS=>?_)
    exact bP (by kernel_rfl) ⟨hE.cut ⟨rfl,rfl,rfl,rfl,rfl,trivial⟩,hp⟩
   rintro a w ⟨hE,hp⟩
   refine aA (S hE 1 rfl fun a hE=>?_)
   obtain⟨x9,ex9,hl1⟩:=bnd hl1
   refine V hE hp rfl (bF rfl hE rfl rfl (aO ex9)) fun a hE=>S hE 1 rfl fun a hE=>aB ?_
   exact⟨_,(oj hl1).symm,hE.cut ⟨rfl,rfl,rfl,rfl,rfl,trivial⟩,hp⟩
  replace hl1:=(ie hc2).symm.trans hl1
  refine dS ?_
  refine⟨_,(oj hl1).symm,fun hbb=>?_⟩
  subst hbb
  exact⟨hE.cut trivial,hp⟩
 rintro a w ⟨hE,hp⟩
 obtain rfl:=oj hm
 exact aB2 hE rfl ⟨_,rfl,rfl,hp⟩
theorem wS {Z:World} {ρ:PH} {L:List bK} {w:World} (p0:(List Opn)) (vp0:Value) (p1:Int) (p2:Int) (p3:Int) (hp:Hp Z ρ (aC 46 vp0 p0::L) w) (r:(List Opn)) (hm:kR p0 p1 p2 p3=some r):
  Calls Tryz.prog 118 #[vp0,(Iv p1),(Iv p2),(Iv p3),(.func (.func 84) #[] #[])] w (Ret fun v w'=>v= .tuple #[]∧Hp Z ρ (aC 46 vp0 r::L) w'):=by
 refine enter (N:=58) Tryz.func118 rfl rfl [(0,vp0),(1,(Iv p1)),(2,(Iv p2)),(3,(Iv p3)),(4,(.func (.func 84) #[] #[]))] rfl (bC ⟨rfl,rfl,rfl,rfl,rfl,trivial⟩) fun a hE=>?_
 unfold kR at hm
 refine aG (aA ?_)
 refine S hE 2 rfl fun a hE=>?_
 obtain⟨x1,ex1,hm⟩:=bnd hm
 refine V hE hp rfl (dQ rfl hE rfl rfl (aO ex1)) fun a hE=>S hE 1 rfl fun a hE=>aB (aG ?_)
 refine aA (S hE 2 rfl fun a hE=>?_)
 obtain⟨x2,ex2,hm⟩:=bnd hm
 refine V hE hp rfl (dQ rfl hE rfl rfl (aO ex2)) fun a hE=>S hE 1 rfl fun a hE=>aB (aG ?_)
 obtain⟨b1,hc1,hm⟩:=bnd hm
 refine dH (fun a w=>Env 58 [(0,vp0),(2,(Iv p2)),(4,(.func (.func 84) #[] #[])),(10,(Iv b1.1))] a∧Hp Z ρ (aC 46 vp0 b1.2::L) w) ?_ ?_
 ·refine dZ hc1 (fun s a w=>Env 58 [(0,vp0),(2,(Iv p2)),(4,(.func (.func 84) #[] #[])),(10,(Iv s.1)),(11,(Iv s.2.1))] a∧Hp Z ρ (aC 46 vp0 s.2.2::L) w) ?_ ?_
  ·exact⟨hE.cut ⟨rfl,rfl,rfl,rfl,rfl,trivial⟩,hp⟩
  rintro⟨aP,aU,dR⟩ st a w ⟨hE,hp⟩ hl1
  dsimp only at hE hp hl1
  unfold nU at hl1
  refine aG (aG ?_)
  refine aA (S hE 3 rfl fun a hE=>?_)
  refine aB ?_
  refine dE hE rfl (fun hc2=>?_) (fun hc2=>?_)
  ·replace hl1:=(it hc2).symm.trans hl1
   refine aZ (dM ?_)
   refine aG (aA ?_)
   refine S hE 3 rfl fun a hE=>aB ?_
   have hE:=hE.cut (E':=[(0,vp0),(2,(Iv p2)),(4,(.func (.func 84) #[] #[])),(10,(Iv aP)),(11,(Iv aU)),(23,(.bool (decide (aU<aP))))]) ⟨rfl,rfl,rfl,rfl,rfl,rfl,trivial⟩
   refine dE hE rfl (fun hc3=>?_) (fun hc3=>?_)
   ·replace hl1:=(it hc3).symm.trans hl1
    refine aG (aA ?_)
    refine S hE 3 rfl fun a hE=>?_
    obtain⟨x3,ex3,hl1⟩:=bnd hl1
    refine V hE hp rfl (dQ rfl hE rfl rfl (aO ex3)) fun a hE=>S hE 3 rfl fun a hE=>?_
    obtain⟨x4,ex4,hl1⟩:=bnd hl1
    refine Cl hE rfl rfl ent123 (jO dR vp0 x3 p2 aU hp x4 ex4) ⟨rfl,rfl,rfl,rfl,rfl,trivial⟩ fun v a w hR hE=>?_
    obtain⟨rfl,hp⟩:=hR
    have hp:=r1 hp
    refine aB (aA ?_)
    refine S hE 2 rfl fun a hE=>?_
    obtain⟨x5,ex5,hl1⟩:=bnd hl1
    refine V hE hp rfl (dQ rfl hE rfl rfl (aO ex5)) fun a hE=>S hE 1 rfl fun a hE=>aB ?_
    exact⟨_,(oj hl1).symm,hE.cut ⟨rfl,rfl,rfl,rfl,rfl,trivial⟩,hp⟩
   replace hl1:=(ie hc3).symm.trans hl1
   refine aG (aA ?_)
   refine S hE 3 rfl fun a hE=>?_
   obtain⟨x6,ex6,hl1⟩:=bnd hl1
   refine V hE hp rfl (dQ rfl hE rfl rfl (aO ex6)) fun a hE=>S hE 2 rfl fun a hE=>?_
   obtain⟨x7,ex7,hl1⟩:=bnd hl1
   refine V hE hp rfl (bF rfl hE rfl rfl (aO ex7)) fun a hE=>S hE 1 rfl fun a hE=>?_
   obtain⟨x8,ex8,hl1⟩:=bnd hl1
   refine V hE hp rfl (dQ rfl hE rfl rfl (aO ex8)) fun a hE=>S hE 2 rfl fun a hE=>?_
   obtain⟨x9,ex9,hl1⟩:=bnd hl1
   refine Cl hE rfl rfl ent123 (jO dR vp0 x6 x8 aP hp x9 ex9) ⟨rfl,rfl,rfl,rfl,rfl,trivial⟩ fun v a w hR hE=>?_
   obtain⟨rfl,hp⟩:=hR
   have hp:=r1 hp
   refine aB ?_
   have hE:=hE.cut (E':=[(0,vp0),(2,(Iv p2)),(4,(.func (.func 84) #[] #[])),(10,(Iv aP)),(11,(Iv aU))]) ⟨rfl,rfl,rfl,rfl,rfl,trivial⟩
   refine aA (S hE 2 rfl fun a hE=>?_)
   obtain⟨x10,ex10,hl1⟩:=bnd hl1
   refine V hE hp rfl (dQ rfl hE rfl rfl (aO ex10)) fun a hE=>S hE 1 rfl fun a hE=>aB ?_
   exact⟨_,(oj hl1).symm,hE.cut ⟨rfl,rfl,rfl,rfl,rfl,trivial⟩,hp⟩
  replace hl1:=(ie hc2).symm.trans hl1
  refine dS ?_
  refine⟨_,(oj hl1).symm,fun hbb=>?_⟩
  subst hbb
  exact⟨hE.cut ⟨rfl,rfl,rfl,rfl,trivial⟩,hp⟩
 rintro a w ⟨hE,hp⟩
 refine aA (S hE 3 rfl fun a hE=>?_)
 obtain⟨x11,ex11,hm⟩:=bnd hm
 refine V hE hp rfl (dQ rfl hE rfl rfl (aO ex11)) fun a hE=>S hE 3 rfl fun a hE=>?_
 obtain⟨x12,ex12,hm⟩:=bnd hm
 refine Cl hE rfl rfl ent123 (jO b1.2 vp0 x11 p2 b1.1 hp x12 ex12) ⟨rfl,rfl,rfl,rfl,rfl,trivial⟩ fun v a w hR hE=>?_
 obtain⟨rfl,hp⟩:=hR
 have hp:=r1 hp
 refine aB ?_
 obtain rfl:=oj hm
 exact aB2 hE rfl ⟨_,rfl,rfl,hp⟩
theorem sO (self:(List Opn)→Int→Int→Int→Option (List Opn)) (hself:∀{Z:World} {ρ:PH} {L:List bK} {w:World} (p0:(List Opn)) (vp0:Value) (p1:Int) (p2:Int) (p3:Int) (hp:Hp Z ρ (aC 46 vp0 p0::L) w) (r:(List Opn)) (hm:self p0 p1 p2 p3=some r),Calls Tryz.prog 113 #[vp0,(Iv p1),(Iv p2),(Iv p3),(.func (.func 84) #[] #[])] w (Ret fun v w'=>v= .tuple #[]∧Hp Z ρ (aC 46 vp0 r::L) w')) {Z:World} {ρ:PH} {L:List bK} {w:World} (p0:(List Opn)) (vp0:Value) (p1:Int) (p2:Int) (p3:Int) (hp:Hp Z ρ (aC 46 vp0 p0::L) w) (r:(List Opn)) (hm:iV self p0 p1 p2 p3=some r):
  Calls Tryz.prog 113 #[vp0,(Iv p1),(Iv p2),(Iv p3),(.func (.func 84) #[] #[])] w (Ret fun v w'=>v= .tuple #[]∧Hp Z ρ (aC 46 vp0 r::L) w'):=by
 refine enter (N:=220) Tryz.func113 rfl rfl [(0,vp0),(1,(Iv p1)),(2,(Iv p2)),(3,(Iv p3)),(4,(.func (.func 84) #[] #[]))] rfl (bC ⟨rfl,rfl,rfl,rfl,rfl,trivial⟩) fun a hE=>?_
 unfold iV at hm
 refine aG (aG ?_)
 refine aA (S hE 2 rfl fun a hE=>?_)
 obtain⟨x1,ex1,hm⟩:=bnd hm
 refine V hE hp rfl (dQ rfl hE rfl rfl (aO ex1)) fun a hE=>S hE 1 rfl fun a hE=>aB ?_
 refine dE hE rfl (fun hc1=>?_) (fun hc1=>?_)
 ·replace hm:=(it hc1).symm.trans hm
  refine aG (aA ?_)
  refine S hE 2 rfl fun a hE=>aB (aG ?_)
  refine aA (S hE 2 rfl fun a hE=>?_)
  refine aB (aG ?_)
  obtain⟨b1,hc2,hm⟩:=bnd hm
  refine dH (fun a w=>Env 220 [(0,vp0),(1,(Iv p1)),(10,(Iv b1))] a∧Hp Z ρ (aC 46 vp0 p0::L) w) ?_ ?_
  ·refine dZ hc2 (fun s a w=>Env 220 [(0,vp0),(1,(Iv p1)),(4,(.func (.func 84) #[] #[])),(10,(Iv s.1)),(11,(Iv s.2))] a∧Hp Z ρ (aC 46 vp0 p0::L) w) ?_ ?_
   ·exact⟨hE.cut ⟨rfl,rfl,rfl,rfl,rfl,trivial⟩,hp⟩
   rintro⟨aP,aU⟩ st a w ⟨hE,hp⟩ hl1
   dsimp only at hE hp hl1
   unfold kY at hl1
   refine aG (aG ?_)
   refine aA (S hE 3 rfl fun a hE=>?_)
   refine aB ?_
   refine dE hE rfl (fun hc3=>?_) (fun hc3=>?_)
   ·replace hl1:=(it hc3).symm.trans hl1
    refine aZ (dM ?_)
    refine aG (aA ?_)
    refine S hE 2 rfl fun a hE=>?_
    obtain⟨x2,ex2,hl1⟩:=bnd hl1
    refine V hE hp rfl (bF rfl hE rfl rfl (aO ex2)) fun a hE=>V hE hp rfl (v:=(.int .u64 (IntKind.wrap .u64 x2))) (yZ rfl hE rfl (fun w _=>by simp[convert,Conv.intToInt,go_sem])) fun a hE=>?_
    obtain⟨x3,ex3,hl1⟩:=bnd hl1
    refine V hE hp rfl (v:=(.int .u64 x3)) (aC5 rfl hE rfl rfl ex3) fun a hE=>?_
    obtain⟨x4,ex4,hl1⟩:=bnd hl1
    refine V hE hp rfl (v:=(Iv x4)) (yZ rfl hE rfl (fun w _=>by rw[←aO ex4];simp[convert,Conv.intToInt,go_sem])) fun a hE=>S hE 1 rfl fun a hE=>aB (aG ?_)
    obtain⟨x5,ex5,hl1⟩:=bnd hl1
    obtain⟨x6,ex6,hl1⟩:=bnd hl1
    obtain⟨x7,ex7,hl1⟩:=bnd hl1
    have hp:=hp.drew
    refine fG ([([],At0 Z ρ),([],At1 Z ρ (aC 46 vp0 p0))]:Facts) (fun a w=>Env 220 [(0,vp0),(1,(Iv p1)),(4,(.func (.func 84) #[] #[])),(10,(Iv aP)),(11,(Iv aU)),(12,(Iv x4)),(50,(.bool (decide (x7<0))))] a∧Hp Z ρ (aC 46 vp0 p0::L) w) (by kernel_rfl) ⟨fun _=>⟨_,hp⟩,fun _=>⟨_,(hp.get 0 rfl)⟩,trivial⟩ (fun hS=>?_) ?_
    ·
     generalize w.drew=w at hS hp⊢
     refine Ts [0,1,2] hE hS rfl rfl (by kernel_rfl) fun a hE hS=>?_
     obtain⟨b4,b4o,b4r,b4v,b4f⟩:=aC.at hp 0 rfl dW ex5
     refine T0 3 hE hS rfl rfl rfl (by kernel_rfl) (fun _=>aN rfl hE rfl rfl b4r) fun a hE hS=>T 4 1 hE hS rfl rfl rfl (by kernel_rfl) (fun _=>aK rfl hE rfl (fun w hw=>aW (cs:=[(Iv x5.a),(Iv x5.b)]) fF (fun j u hj=>b4f j u hj _ _ w (hw.get 0 rfl)))) fun a hE hS=>Ts [5,6] hE hS rfl rfl (by kernel_rfl) fun a hE hS=>?_
     obtain⟨b5,b5o,b5r,b5v,b5f⟩:=aC.at hp 0 rfl dW ex6
     refine T0 7 hE hS rfl rfl rfl (by kernel_rfl) (fun _=>aN rfl hE rfl rfl b5r) fun a hE hS=>T 8 1 hE hS rfl rfl rfl (by kernel_rfl) (fun _=>aK rfl hE rfl (fun w hw=>aW (cs:=[(Iv x6.a),(Iv x6.b)]) fF (fun j u hj=>b5f j u hj _ _ w (hw.get 0 rfl)))) fun a hE hS=>?_
     refine W1 9 (by kernel_rfl) rfl ?_
     refine pU (wk0 rfl) rfl rfl hE rfl rfl [(.agg #[(Iv x5.a),(Iv x5.b)]),(.agg #[(Iv x6.a),(Iv x6.b)])] ⟨rfl,rfl,trivial⟩ ent84 (wR x5 x6 hp x7 ex7) Ret.ret ?_
     intro v a w hR hE
     obtain⟨rfl,hp⟩:=Ret.of hR
     have hp:=r1 hp
     refine aB (aF ⟨gp0 hp,gp 0 hp rfl,trivial⟩ fun hS=>?_)
     refine Ts [10] hE hS rfl rfl (by kernel_rfl) fun a hE hS=>?_
     exact bP (by kernel_rfl) ⟨hE.cut ⟨rfl,rfl,rfl,rfl,rfl,rfl,rfl,trivial⟩,hp⟩
    rintro a w ⟨hE,hp⟩
    refine dE hE rfl (fun hc4=>?_) (fun hc4=>?_)
    ·replace hl1:=(it hc4).symm.trans hl1
     refine aA (S hE 1 rfl fun a hE=>?_)
     obtain⟨x8,ex8,hl1⟩:=bnd hl1
     refine V hE hp rfl (bF rfl hE rfl rfl (aO ex8)) fun a hE=>S hE 1 rfl fun a hE=>aB ?_
     exact⟨_,(oj hl1).symm,hE.cut ⟨rfl,rfl,rfl,rfl,rfl,trivial⟩,hp⟩
    replace hl1:=(ie hc4).symm.trans hl1
    refine aA (S hE 2 rfl fun a hE=>?_)
    refine aB ?_
    exact⟨_,(oj hl1).symm,hE.cut ⟨rfl,rfl,rfl,rfl,rfl,trivial⟩,hp⟩
   replace hl1:=(ie hc3).symm.trans hl1
   refine dS ?_
   refine⟨_,(oj hl1).symm,fun hbb=>?_⟩
   subst hbb
   exact⟨hE.cut ⟨rfl,rfl,rfl,trivial⟩,hp⟩
  rintro a w ⟨hE,hp⟩
  refine aG (aG ?_)
  refine aA (S hE 2 rfl fun a hE=>?_)
  refine aB ?_
  obtain⟨b6,hc5,hm⟩:=bnd hm
  refine dH (fun a w=>Env 220 [] a∧Hp Z ρ (aC 46 vp0 b6::L) w) ?_ ?_
  ·refine dZ hc5 (fun s a w=>Env 220 [(0,vp0),(10,(Iv b1)),(13,(Iv s.1))] a∧Hp Z ρ (aC 46 vp0 s.2::L) w) ?_ ?_
   ·exact⟨hE.cut ⟨rfl,rfl,rfl,trivial⟩,hp⟩
   rintro⟨bJ,dY⟩ st a w ⟨hE,hp⟩ hl2
   dsimp only at hE hp hl2
   unfold kZ at hl2
   refine aG (aG ?_)
   refine aA (S hE 2 rfl fun a hE=>?_)
   obtain⟨x9,ex9,hl2⟩:=bnd hl2
   refine V hE hp rfl (dQ rfl hE rfl rfl (aO ex9)) fun a hE=>S hE 1 rfl fun a hE=>aB ?_
   refine dE hE rfl (fun hc6=>?_) (fun hc6=>?_)
   ·replace hl2:=(it hc6).symm.trans hl2
    refine aZ (aG ?_)
    refine dM ?_
    obtain⟨x10,ex10,hl2⟩:=bnd hl2
    obtain⟨x11,ex11,hl2⟩:=bnd hl2
    obtain⟨x12,ex12,hl2⟩:=bnd hl2
    obtain⟨x13,ex13,hl2⟩:=bnd hl2
    obtain⟨x14,ex14,hl2⟩:=bnd hl2
    obtain⟨x15,ex15,hl2⟩:=bnd hl2
    have hp:=hp.drew
    refine fG ([([],At0 Z ρ),([15,17],At1 Z ρ (aC 46 vp0 dY))]:Facts) (fun a w=>Env 220 [(0,vp0),(10,(Iv b1)),(13,(Iv bJ))] a∧Hp Z ρ (aC 46 vp0 ((dY.set bJ.toNat x12).set x10.toNat x13)::L) w) (by kernel_rfl) ⟨fun _=>⟨_,hp⟩,fun _=>⟨_,(hp.get 0 rfl)⟩,trivial⟩ (fun hS=>?_) ?_
    ·
     generalize w.drew=w at hS hp⊢
     refine Ts [0,1,2,3] hE hS rfl rfl (by kernel_rfl) fun a hE hS=>T0 4 hE hS rfl rfl rfl (by kernel_rfl) (fun _=>bF rfl hE rfl rfl (aO ex10)) fun a hE hS=>Ts [5,6] hE hS rfl rfl (by kernel_rfl) fun a hE hS=>T0 7 hE hS rfl rfl rfl (by kernel_rfl) (fun _=>bF rfl hE rfl rfl (aO ex11)) fun a hE hS=>?_
     obtain⟨b11,b11o,b11r,b11v,b11f⟩:=aC.at hp 0 rfl dW ex12
     refine T0 8 hE hS rfl rfl rfl (by kernel_rfl) (fun _=>aN rfl hE rfl rfl b11r) fun a hE hS=>T 9 1 hE hS rfl rfl rfl (by kernel_rfl) (fun _=>aK rfl hE rfl (fun w hw=>aW (cs:=[(Iv x12.a),(Iv x12.b)]) fF (fun j u hj=>b11f j u hj _ _ w (hw.get 0 rfl)))) fun a hE hS=>Ts [10,11] hE hS rfl rfl (by kernel_rfl) fun a hE hS=>?_
     obtain⟨b12,b12o,b12r,b12v,b12f⟩:=aC.at hp 0 rfl dW ex13
     refine T0 12 hE hS rfl rfl rfl (by kernel_rfl) (fun _=>aN rfl hE rfl rfl b12r) fun a hE hS=>T 13 1 hE hS rfl rfl rfl (by kernel_rfl) (fun _=>aK rfl hE rfl (fun w hw=>aW (cs:=[(Iv x13.a),(Iv x13.b)]) fF (fun j u hj=>b12f j u hj _ _ w (hw.get 0 rfl)))) fun a hE hS=>?_
     obtain⟨b13,b13o,b13r,b13v,b13f⟩:=aC.at hp 0 rfl dW ex14
     refine T0 14 hE hS rfl rfl rfl (by kernel_rfl) (fun _=>aN rfl hE rfl rfl b13r) fun a hE hS=>?_
     refine W1 15 (by kernel_rfl) rfl ?_
     refine D5 (wk0 rfl) rfl hE hp rfl rfl rfl 0 rfl ex14 b13v (e':=x12) fF.size_ rfl (fun q z hz=>b13f q z hz _ _ w (hp.get 0 rfl)) ?_
     intro w hp
     have hp:=r1 hp
     refine aB (aF ⟨gp0 hp,dead (by kernel_rfl),trivial⟩ fun hS=>?_)
     obtain⟨b14,b14o,b14r,b14v,b14f⟩:=aC.at hp 0 rfl dW ex15
     refine T0 16 hE hS rfl rfl rfl (by kernel_rfl) (fun _=>aN rfl hE rfl rfl b14r) fun a hE hS=>?_
     refine W1 17 (by kernel_rfl) rfl ?_
     refine D5 (wk0 rfl) rfl hE hp rfl rfl rfl 0 rfl ex15 b14v (e':=x13) fF.size_ rfl (fun q z hz=>b14f q z hz _ _ w (hp.get 0 rfl)) ?_
     intro w hp
     have hp:=r1 hp
     refine aB (aF ⟨gp0 hp,dead (by kernel_rfl),trivial⟩ fun hS=>?_)
     exact bP (by kernel_rfl) ⟨hE.cut ⟨rfl,rfl,rfl,trivial⟩,hp⟩
    rintro a w ⟨hE,hp⟩
    refine aA (S hE 1 rfl fun a hE=>?_)
    obtain⟨x16,ex16,hl2⟩:=bnd hl2
    refine V hE hp rfl (bF rfl hE rfl rfl (aO ex16)) fun a hE=>S hE 1 rfl fun a hE=>aB ?_
    exact⟨_,(oj hl2).symm,hE.cut ⟨rfl,rfl,rfl,trivial⟩,hp⟩
   replace hl2:=(ie hc6).symm.trans hl2
   refine dS ?_
   refine⟨_,(oj hl2).symm,fun hbb=>?_⟩
   subst hbb
   exact⟨hE.cut trivial,hp⟩
  rintro a w ⟨hE,hp⟩
  refine bZ ?_
  obtain rfl:=oj hm
  exact ret0 hE rfl ⟨_,rfl,rfl,hp⟩
 replace hm:=(ie hc1).symm.trans hm
 refine aZ (aG ?_)
 refine aG (aA ?_)
 refine S hE 2 rfl fun a hE=>?_
 obtain⟨x17,ex17,hm⟩:=bnd hm
 refine V hE hp rfl (dQ rfl hE rfl rfl (aO ex17)) fun a hE=>S hE 1 rfl fun a hE=>aB ?_
 refine dE hE rfl (fun hc7=>?_) (fun hc7=>?_)
 ·replace hm:=(it hc7).symm.trans hm
  refine aG (aA ?_)
  refine S hE 2 rfl fun a hE=>aB (aG ?_)
  refine aA (S hE 2 rfl fun a hE=>?_)
  refine aB (aG ?_)
  obtain⟨b15,hc8,hm⟩:=bnd hm
  refine dH (fun a w=>Env 220 [(0,vp0),(2,(Iv p2)),(14,(Iv b15))] a∧Hp Z ρ (aC 46 vp0 p0::L) w) ?_ ?_
  ·refine dZ hc8 (fun s a w=>Env 220 [(0,vp0),(2,(Iv p2)),(4,(.func (.func 84) #[] #[])),(14,(Iv s.1)),(15,(Iv s.2))] a∧Hp Z ρ (aC 46 vp0 p0::L) w) ?_ ?_
   ·exact⟨hE.cut ⟨rfl,rfl,rfl,rfl,rfl,trivial⟩,hp⟩
   rintro⟨eQ,uG⟩ st a w ⟨hE,hp⟩ hl3
   dsimp only at hE hp hl3
   unfold lC at hl3
   refine aG (aG ?_)
   refine aA (S hE 3 rfl fun a hE=>?_)
   refine aB ?_
   refine dE hE rfl (fun hc9=>?_) (fun hc9=>?_)
   ·replace hl3:=(it hc9).symm.trans hl3
    refine aZ (dM ?_)
    refine aG (aA ?_)
    refine S hE 2 rfl fun a hE=>?_
    obtain⟨x18,ex18,hl3⟩:=bnd hl3
    refine V hE hp rfl (bF rfl hE rfl rfl (aO ex18)) fun a hE=>V hE hp rfl (v:=(.int .u64 (IntKind.wrap .u64 x18))) (yZ rfl hE rfl (fun w _=>by simp[convert,Conv.intToInt,go_sem])) fun a hE=>?_
    obtain⟨x19,ex19,hl3⟩:=bnd hl3
    refine V hE hp rfl (v:=(.int .u64 x19)) (aC5 rfl hE rfl rfl ex19) fun a hE=>?_
    obtain⟨x20,ex20,hl3⟩:=bnd hl3
    refine V hE hp rfl (v:=(Iv x20)) (yZ rfl hE rfl (fun w _=>by rw[←aO ex20];simp[convert,Conv.intToInt,go_sem])) fun a hE=>S hE 1 rfl fun a hE=>aB (aG ?_)
    obtain⟨x21,ex21,hl3⟩:=bnd hl3
    obtain⟨x22,ex22,hl3⟩:=bnd hl3
    obtain⟨x23,ex23,hl3⟩:=bnd hl3
    have hp:=hp.drew
    refine fG ([([],At0 Z ρ),([],At1 Z ρ (aC 46 vp0 p0))]:Facts) (fun a w=>Env 220 [(0,vp0),(2,(Iv p2)),(4,(.func (.func 84) #[] #[])),(14,(Iv eQ)),(15,(Iv uG)),(16,(Iv x20)),(103,(.bool (!(decide (x23<0)))))] a∧Hp Z ρ (aC 46 vp0 p0::L) w) (by kernel_rfl) ⟨fun _=>⟨_,hp⟩,fun _=>⟨_,(hp.get 0 rfl)⟩,trivial⟩ (fun hS=>?_) ?_
    ·
     generalize w.drew=w at hS hp⊢
     refine Ts [0,1,2] hE hS rfl rfl (by kernel_rfl) fun a hE hS=>?_
     obtain⟨b18,b18o,b18r,b18v,b18f⟩:=aC.at hp 0 rfl dW ex21
     refine T0 3 hE hS rfl rfl rfl (by kernel_rfl) (fun _=>aN rfl hE rfl rfl b18r) fun a hE hS=>T 4 1 hE hS rfl rfl rfl (by kernel_rfl) (fun _=>aK rfl hE rfl (fun w hw=>aW (cs:=[(Iv x21.a),(Iv x21.b)]) fF (fun j u hj=>b18f j u hj _ _ w (hw.get 0 rfl)))) fun a hE hS=>Ts [5,6] hE hS rfl rfl (by kernel_rfl) fun a hE hS=>?_
     obtain⟨b19,b19o,b19r,b19v,b19f⟩:=aC.at hp 0 rfl dW ex22
     refine T0 7 hE hS rfl rfl rfl (by kernel_rfl) (fun _=>aN rfl hE rfl rfl b19r) fun a hE hS=>T 8 1 hE hS rfl rfl rfl (by kernel_rfl) (fun _=>aK rfl hE rfl (fun w hw=>aW (cs:=[(Iv x22.a),(Iv x22.b)]) fF (fun j u hj=>b19f j u hj _ _ w (hw.get 0 rfl)))) fun a hE hS=>?_
     refine W1 9 (by kernel_rfl) rfl ?_
     refine pU (wk0 rfl) rfl rfl hE rfl rfl [(.agg #[(Iv x21.a),(Iv x21.b)]),(.agg #[(Iv x22.a),(Iv x22.b)])] ⟨rfl,rfl,trivial⟩ ent84 (wR x21 x22 hp x23 ex23) Ret.ret ?_
     intro v a w hR hE
     obtain⟨rfl,hp⟩:=Ret.of hR
     have hp:=r1 hp
     refine aB (aF ⟨gp0 hp,gp 0 hp rfl,trivial⟩ fun hS=>?_)
     refine Ts [10,11] hE hS rfl rfl (by kernel_rfl) fun a hE hS=>?_
     exact bP (by kernel_rfl) ⟨hE.cut ⟨rfl,rfl,rfl,rfl,rfl,rfl,rfl,trivial⟩,hp⟩
    rintro a w ⟨hE,hp⟩
    refine dE hE rfl (fun hc10=>?_) (fun hc10=>?_)
    ·replace hl3:=(it hc10).symm.trans hl3
     refine aA (S hE 1 rfl fun a hE=>?_)
     obtain⟨x24,ex24,hl3⟩:=bnd hl3
     refine V hE hp rfl (bF rfl hE rfl rfl (aO ex24)) fun a hE=>S hE 1 rfl fun a hE=>aB ?_
     exact⟨_,(oj hl3).symm,hE.cut ⟨rfl,rfl,rfl,rfl,rfl,trivial⟩,hp⟩
    replace hl3:=(ie hc10).symm.trans hl3
    refine aA (S hE 2 rfl fun a hE=>?_)
    refine aB ?_
    exact⟨_,(oj hl3).symm,hE.cut ⟨rfl,rfl,rfl,rfl,rfl,trivial⟩,hp⟩
   replace hl3:=(ie hc9).symm.trans hl3
   refine dS ?_
   refine⟨_,(oj hl3).symm,fun hbb=>?_⟩
   subst hbb
   exact⟨hE.cut ⟨rfl,rfl,rfl,trivial⟩,hp⟩
  rintro a w ⟨hE,hp⟩
  refine aG (aG ?_)
  refine aA (S hE 2 rfl fun a hE=>?_)
  refine aB ?_
  obtain⟨b20,hc11,hm⟩:=bnd hm
  refine dH (fun a w=>Env 220 [] a∧Hp Z ρ (aC 46 vp0 b20::L) w) ?_ ?_
  ·refine dZ hc11 (fun s a w=>Env 220 [(0,vp0),(14,(Iv b15)),(17,(Iv s.1))] a∧Hp Z ρ (aC 46 vp0 s.2::L) w) ?_ ?_
   ·exact⟨hE.cut ⟨rfl,rfl,rfl,trivial⟩,hp⟩
   rintro⟨fJ,iY⟩ st a w ⟨hE,hp⟩ hl4
   dsimp only at hE hp hl4
   unfold lD at hl4
   refine aG (aG ?_)
   refine aA (S hE 3 rfl fun a hE=>?_)
   refine aB ?_
   refine dE hE rfl (fun hc12=>?_) (fun hc12=>?_)
   ·replace hl4:=(it hc12).symm.trans hl4
    refine aZ (aG ?_)
    refine dM ?_
    obtain⟨x25,ex25,hl4⟩:=bnd hl4
    obtain⟨x26,ex26,hl4⟩:=bnd hl4
    obtain⟨x27,ex27,hl4⟩:=bnd hl4
    obtain⟨x28,ex28,hl4⟩:=bnd hl4
    obtain⟨x29,ex29,hl4⟩:=bnd hl4
    obtain⟨x30,ex30,hl4⟩:=bnd hl4
    have hp:=hp.drew
    refine fG ([([],At0 Z ρ),([15,17],At1 Z ρ (aC 46 vp0 iY))]:Facts) (fun a w=>Env 220 [(0,vp0),(14,(Iv b15)),(17,(Iv fJ))] a∧Hp Z ρ (aC 46 vp0 ((iY.set fJ.toNat x27).set x25.toNat x28)::L) w) (by kernel_rfl) ⟨fun _=>⟨_,hp⟩,fun _=>⟨_,(hp.get 0 rfl)⟩,trivial⟩ (fun hS=>?_) ?_
    ·
     generalize w.drew=w at hS hp⊢
     refine Ts [0,1,2,3] hE hS rfl rfl (by kernel_rfl) fun a hE hS=>T0 4 hE hS rfl rfl rfl (by kernel_rfl) (fun _=>dQ rfl hE rfl rfl (aO ex25)) fun a hE hS=>Ts [5,6] hE hS rfl rfl (by kernel_rfl) fun a hE hS=>T0 7 hE hS rfl rfl rfl (by kernel_rfl) (fun _=>dQ rfl hE rfl rfl (aO ex26)) fun a hE hS=>?_
     obtain⟨b25,b25o,b25r,b25v,b25f⟩:=aC.at hp 0 rfl dW ex27
     refine T0 8 hE hS rfl rfl rfl (by kernel_rfl) (fun _=>aN rfl hE rfl rfl b25r) fun a hE hS=>T 9 1 hE hS rfl rfl rfl (by kernel_rfl) (fun _=>aK rfl hE rfl (fun w hw=>aW (cs:=[(Iv x27.a),(Iv x27.b)]) fF (fun j u hj=>b25f j u hj _ _ w (hw.get 0 rfl)))) fun a hE hS=>Ts [10,11] hE hS rfl rfl (by kernel_rfl) fun a hE hS=>?_
     obtain⟨b26,b26o,b26r,b26v,b26f⟩:=aC.at hp 0 rfl dW ex28
     refine T0 12 hE hS rfl rfl rfl (by kernel_rfl) (fun _=>aN rfl hE rfl rfl b26r) fun a hE hS=>T 13 1 hE hS rfl rfl rfl (by kernel_rfl) (fun _=>aK rfl hE rfl (fun w hw=>aW (cs:=[(Iv x28.a),(Iv x28.b)]) fF (fun j u hj=>b26f j u hj _ _ w (hw.get 0 rfl)))) fun a hE hS=>?_
     obtain⟨b27,b27o,b27r,b27v,b27f⟩:=aC.at hp 0 rfl dW ex29
     refine T0 14 hE hS rfl rfl rfl (by kernel_rfl) (fun _=>aN rfl hE rfl rfl b27r) fun a hE hS=>?_
     refine W1 15 (by kernel_rfl) rfl ?_
     refine D5 (wk0 rfl) rfl hE hp rfl rfl rfl 0 rfl ex29 b27v (e':=x27) fF.size_ rfl (fun q z hz=>b27f q z hz _ _ w (hp.get 0 rfl)) ?_
     intro w hp
     have hp:=r1 hp
     refine aB (aF ⟨gp0 hp,dead (by kernel_rfl),trivial⟩ fun hS=>?_)
     obtain⟨b28,b28o,b28r,b28v,b28f⟩:=aC.at hp 0 rfl dW ex30
     refine T0 16 hE hS rfl rfl rfl (by kernel_rfl) (fun _=>aN rfl hE rfl rfl b28r) fun a hE hS=>?_
     refine W1 17 (by kernel_rfl) rfl ?_
     refine D5 (wk0 rfl) rfl hE hp rfl rfl rfl 0 rfl ex30 b28v (e':=x28) fF.size_ rfl (fun q z hz=>b28f q z hz _ _ w (hp.get 0 rfl)) ?_
     intro w hp
     have hp:=r1 hp
     refine aB (aF ⟨gp0 hp,dead (by kernel_rfl),trivial⟩ fun hS=>?_)
     exact bP (by kernel_rfl) ⟨hE.cut ⟨rfl,rfl,rfl,trivial⟩,hp⟩
    rintro a w ⟨hE,hp⟩
    refine aA (S hE 1 rfl fun a hE=>?_)
    obtain⟨x31,ex31,hl4⟩:=bnd hl4
    refine V hE hp rfl (dQ rfl hE rfl rfl (aO ex31)) fun a hE=>S hE 1 rfl fun a hE=>aB ?_
    exact⟨_,(oj hl4).symm,hE.cut ⟨rfl,rfl,rfl,trivial⟩,hp⟩
   replace hl4:=(ie hc12).symm.trans hl4
   refine dS ?_
   refine⟨_,(oj hl4).symm,fun hbb=>?_⟩
   subst hbb
   exact⟨hE.cut trivial,hp⟩
  rintro a w ⟨hE,hp⟩
  refine bZ ?_
  obtain rfl:=oj hm
  exact ret0 hE rfl ⟨_,rfl,rfl,hp⟩
 replace hm:=(ie hc7).symm.trans hm
 refine aZ (aG ?_)
 refine aA (S hE 2 rfl fun a hE=>?_)
 obtain⟨x32,ex32,hm⟩:=bnd hm
 refine V hE hp rfl (bF rfl hE rfl rfl (aO ex32)) fun a hE=>V hE hp rfl (v:=(.int .u64 (IntKind.wrap .u64 x32))) (yZ rfl hE rfl (fun w _=>by simp[convert,Conv.intToInt,go_sem])) fun a hE=>?_
 obtain⟨x33,ex33,hm⟩:=bnd hm
 refine V hE hp rfl (v:=(.int .u64 x33)) (aC5 rfl hE rfl rfl ex33) fun a hE=>?_
 obtain⟨x34,ex34,hm⟩:=bnd hm
 refine V hE hp rfl (v:=(Iv x34)) (yZ rfl hE rfl (fun w _=>by rw[←aO ex34];simp[convert,Conv.intToInt,go_sem])) fun a hE=>S hE 1 rfl fun a hE=>aB (aG ?_)
 refine aA (S hE 2 rfl fun a hE=>?_)
 obtain⟨x35,ex35,hm⟩:=bnd hm
 refine V hE hp rfl (bF rfl hE rfl rfl (aO ex35)) fun a hE=>S hE 1 rfl fun a hE=>aB (aG ?_)
 refine aA (S hE 2 rfl fun a hE=>?_)
 refine aB (aG ?_)
 refine aG (aA ?_)
 refine S hE 3 rfl fun a hE=>aB ?_
 obtain⟨j1,hj1,hm⟩:=bnd hm
 refine k_cut (fun a w=>Env 220 [(0,vp0),(1,(Iv p1)),(2,(Iv p2)),(3,(Iv p3)),(4,(.func (.func 84) #[] #[])),(18,(Iv x34)),(19,(Iv x35)),(20,(Iv j1.1)),(21,(Iv j1.2))] a∧Hp Z ρ (aC 46 vp0 p0::L) w) ?_ ?_
 ·
  refine dE hE rfl (fun hc13=>?_) (fun hc13=>?_)
  ·replace hj1:=(it hc13).symm.trans hj1
   refine aG (aA ?_)
   refine S hE 2 rfl fun a hE=>?_
   obtain⟨x36,ex36,hj1⟩:=bnd hj1
   refine V hE hp rfl (dQ rfl hE rfl rfl (aO ex36)) fun a hE=>S hE 1 rfl fun a hE=>aB (aA ?_)
   refine S hE 2 rfl fun a hE=>aB ?_
   obtain rfl:=oj hj1
   exact⟨hE.cut ⟨rfl,rfl,rfl,rfl,rfl,rfl,rfl,rfl,rfl,trivial⟩,hp⟩
  replace hj1:=(ie hc13).symm.trans hj1
  refine aG (aA ?_)
  refine S hE 2 rfl fun a hE=>aB (aA ?_)
  refine S hE 2 rfl fun a hE=>aB ?_
  obtain rfl:=oj hj1
  exact⟨hE.cut ⟨rfl,rfl,rfl,rfl,rfl,rfl,rfl,rfl,rfl,trivial⟩,hp⟩
 rintro a w ⟨hE,hp⟩
 refine aG (aA ?_)
 refine S hE 1 rfl fun a hE=>?_
 obtain⟨x37,ex37,hm⟩:=bnd hm
 refine V hE hp rfl (dQ rfl hE rfl rfl (aO ex37)) fun a hE=>S hE 1 rfl fun a hE=>aB ?_
 have hE:=hE.cut (E':=[(0,vp0),(1,(Iv p1)),(2,(Iv p2)),(3,(Iv p3)),(4,(.func (.func 84) #[] #[])),(18,(Iv x34)),(19,(Iv x35)),(20,(Iv j1.1)),(21,(Iv j1.2)),(22,(Iv x37))]) ⟨rfl,rfl,rfl,rfl,rfl,rfl,rfl,rfl,rfl,rfl,trivial⟩
 refine aG ?_
 obtain⟨b29,hc14,hm⟩:=bnd hm
 refine dH (fun a w=>Env 220 [(0,vp0),(1,(Iv p1)),(2,(Iv p2)),(3,(Iv p3)),(4,(.func (.func 84) #[] #[])),(18,(Iv x34)),(19,(Iv x35)),(20,(Iv b29))] a∧Hp Z ρ (aC 46 vp0 p0::L) w) ?_ ?_
 ·refine dZ hc14 (fun s a w=>Env 220 [(0,vp0),(1,(Iv p1)),(2,(Iv p2)),(3,(Iv p3)),(4,(.func (.func 84) #[] #[])),(18,(Iv x34)),(19,(Iv x35)),(20,(Iv s.1)),(21,(Iv s.2)),(22,(Iv x37))] a∧Hp Z ρ (aC 46 vp0 p0::L) w) ?_ ?_
  ·exact⟨hE.cut ⟨rfl,rfl,rfl,rfl,rfl,rfl,rfl,rfl,rfl,rfl,trivial⟩,hp⟩
  rintro⟨xG,Q7⟩ st a w ⟨hE,hp⟩ hl5
  dsimp only at hE hp hl5
  unfold lF at hl5
  refine aG (aG ?_)
  refine aA (S hE 3 rfl fun a hE=>?_)
  refine aB ?_
  refine dE hE rfl (fun hc15=>?_) (fun hc15=>?_)
  ·replace hl5:=(it hc15).symm.trans hl5
   refine aZ (dM ?_)
   refine aG (aA ?_)
   refine S hE 2 rfl fun a hE=>?_
   obtain⟨x38,ex38,hl5⟩:=bnd hl5
   refine V hE hp rfl (bF rfl hE rfl rfl (aO ex38)) fun a hE=>V hE hp rfl (v:=(.int .u64 (IntKind.wrap .u64 x38))) (yZ rfl hE rfl (fun w _=>by simp[convert,Conv.intToInt,go_sem])) fun a hE=>?_
   obtain⟨x39,ex39,hl5⟩:=bnd hl5
   refine V hE hp rfl (v:=(.int .u64 x39)) (aC5 rfl hE rfl rfl ex39) fun a hE=>?_
   obtain⟨x40,ex40,hl5⟩:=bnd hl5
   refine V hE hp rfl (v:=(Iv x40)) (yZ rfl hE rfl (fun w _=>by rw[←aO ex40];simp[convert,Conv.intToInt,go_sem])) fun a hE=>S hE 1 rfl fun a hE=>aB ?_
   have hE:=hE.cut (E':=[(0,vp0),(1,(Iv p1)),(2,(Iv p2)),(3,(Iv p3)),(4,(.func (.func 84) #[] #[])),(18,(Iv x34)),(19,(Iv x35)),(20,(Iv xG)),(21,(Iv Q7)),(22,(Iv x37)),(23,(Iv x40))]) ⟨rfl,rfl,rfl,rfl,rfl,rfl,rfl,rfl,rfl,rfl,rfl,trivial⟩
   refine aG ?_
   obtain⟨x41,ex41,hl5⟩:=bnd hl5
   obtain⟨x42,ex42,hl5⟩:=bnd hl5
   obtain⟨x43,ex43,hl5⟩:=bnd hl5
   obtain⟨x44,ex44,hl5⟩:=bnd hl5
   have hp:=hp.drew
   refine fG ([([],At0 Z ρ),([],At1 Z ρ (aC 46 vp0 p0))]:Facts) (fun a w=>Env 220 [(0,vp0),(1,(Iv p1)),(2,(Iv p2)),(3,(Iv p3)),(4,(.func (.func 84) #[] #[])),(18,(Iv x34)),(19,(Iv x35)),(20,(Iv xG)),(21,(Iv Q7)),(22,(Iv x37)),(23,(Iv x40)),(171,(.bool (!(decide (x44<0)))))] a∧Hp Z ρ (aC 46 vp0 p0::L) w) (by kernel_rfl) ⟨fun _=>⟨_,hp⟩,fun _=>⟨_,(hp.get 0 rfl)⟩,trivial⟩ (fun hS=>?_) ?_
   ·
    generalize w.drew=w at hS hp⊢
    refine Ts [0,1,2,3] hE hS rfl rfl (by kernel_rfl) fun a hE hS=>T0 4 hE hS rfl rfl rfl (by kernel_rfl) (fun _=>dQ rfl hE rfl rfl (aO ex41)) fun a hE hS=>?_
    obtain⟨b32,b32o,b32r,b32v,b32f⟩:=aC.at hp 0 rfl dW ex42
    refine T0 5 hE hS rfl rfl rfl (by kernel_rfl) (fun _=>aN rfl hE rfl rfl b32r) fun a hE hS=>T 6 1 hE hS rfl rfl rfl (by kernel_rfl) (fun _=>aK rfl hE rfl (fun w hw=>aW (cs:=[(Iv x42.a),(Iv x42.b)]) fF (fun j u hj=>b32f j u hj _ _ w (hw.get 0 rfl)))) fun a hE hS=>Ts [7,8] hE hS rfl rfl (by kernel_rfl) fun a hE hS=>?_
    obtain⟨b33,b33o,b33r,b33v,b33f⟩:=aC.at hp 0 rfl dW ex43
    refine T0 9 hE hS rfl rfl rfl (by kernel_rfl) (fun _=>aN rfl hE rfl rfl b33r) fun a hE hS=>T 10 1 hE hS rfl rfl rfl (by kernel_rfl) (fun _=>aK rfl hE rfl (fun w hw=>aW (cs:=[(Iv x43.a),(Iv x43.b)]) fF (fun j u hj=>b33f j u hj _ _ w (hw.get 0 rfl)))) fun a hE hS=>?_
    refine W1 11 (by kernel_rfl) rfl ?_
    refine pU (wk0 rfl) rfl rfl hE rfl rfl [(.agg #[(Iv x42.a),(Iv x42.b)]),(.agg #[(Iv x43.a),(Iv x43.b)])] ⟨rfl,rfl,trivial⟩ ent84 (wR x42 x43 hp x44 ex44) Ret.ret ?_
    intro v a w hR hE
    obtain⟨rfl,hp⟩:=Ret.of hR
    have hp:=r1 hp
    refine aB (aF ⟨gp0 hp,gp 0 hp rfl,trivial⟩ fun hS=>?_)
    refine Ts [12,13] hE hS rfl rfl (by kernel_rfl) fun a hE hS=>?_
    exact bP (by kernel_rfl) ⟨hE.cut ⟨rfl,rfl,rfl,rfl,rfl,rfl,rfl,rfl,rfl,rfl,rfl,rfl,trivial⟩,hp⟩
   rintro a w ⟨hE,hp⟩
   refine dE hE rfl (fun hc16=>?_) (fun hc16=>?_)
   ·replace hl5:=(it hc16).symm.trans hl5
    refine aA (S hE 1 rfl fun a hE=>?_)
    obtain⟨x45,ex45,hl5⟩:=bnd hl5
    refine V hE hp rfl (bF rfl hE rfl rfl (aO ex45)) fun a hE=>S hE 1 rfl fun a hE=>aB ?_
    exact⟨_,(oj hl5).symm,hE.cut ⟨rfl,rfl,rfl,rfl,rfl,rfl,rfl,rfl,rfl,rfl,trivial⟩,hp⟩
   replace hl5:=(ie hc16).symm.trans hl5
   refine aA (S hE 2 rfl fun a hE=>?_)
   refine aB ?_
   exact⟨_,(oj hl5).symm,hE.cut ⟨rfl,rfl,rfl,rfl,rfl,rfl,rfl,rfl,rfl,rfl,trivial⟩,hp⟩
  replace hl5:=(ie hc15).symm.trans hl5
  refine dS ?_
  refine⟨_,(oj hl5).symm,fun hbb=>?_⟩
  subst hbb
  exact⟨hE.cut ⟨rfl,rfl,rfl,rfl,rfl,rfl,rfl,rfl,trivial⟩,hp⟩
 rintro a w ⟨hE,hp⟩
 refine aG (aA ?_)
 refine S hE 2 rfl fun a hE=>?_
 obtain⟨x46,ex46,hm⟩:=bnd hm
 refine V hE hp rfl (dQ rfl hE rfl rfl (aO ex46)) fun a hE=>S hE 1 rfl fun a hE=>aB (aG ?_)
 refine aG (aA ?_)
 refine S hE 4 rfl fun a hE=>?_
 refine iL [_,_,_,_] (fun a w=>Env 220 [(185,(.bool ((decide (b29<p2))&&(decide (p2<x46))))),(0,vp0),(1,(Iv p1)),(2,(Iv p2)),(3,(Iv p3)),(4,(.func (.func 84) #[] #[])),(18,(Iv x34)),(20,(Iv b29)),(24,(Iv x46))] a∧Hp Z ρ (aC 46 vp0 p0::L) w) ?_ ?_
 ·rcases Bool.eq_false_or_eq_true (decide (b29<p2)) with hc17|hc17
  ·
   refine Gs hE hc17 rfl rfl fun a hE=>Gs hE hc17 rfl rfl fun a hE=>Gs hE hc17 rfl rfl fun a hE=>pk1 hE hc17 rfl rfl rfl rfl fun a hE=>?_
   have hE:=hE.eqv (v':=(.bool ((decide (b29<p2))&&(decide (p2<x46))))) (by rw[hc17];rfl)
   exact aB ⟨hE.cut ⟨rfl,rfl,rfl,rfl,rfl,rfl,rfl,rfl,rfl,trivial⟩,hp⟩
  refine Gk hE hc17 rfl fun a hE=>Gk hE hc17 rfl fun a hE=>Gk hE hc17 rfl fun a hE=>pk0 hE hc17 rfl rfl rfl rfl fun a hE=>?_
  have hE:=hE.eqv (v':=(.bool ((decide (b29<p2))&&(decide (p2<x46))))) (by rw[hc17];rfl)
  exact aB ⟨hE.cut ⟨rfl,rfl,rfl,rfl,rfl,rfl,rfl,rfl,rfl,trivial⟩,hp⟩
 rintro a w ⟨hE,hp⟩
 refine aB ?_
 obtain⟨j2,hj2,hm⟩:=bnd hm
 refine k_cut (fun a w=>Env 220 [(0,vp0),(1,(Iv p1)),(3,(Iv p3)),(4,(.func (.func 84) #[] #[])),(18,(Iv x34)),(20,(Iv b29)),(24,(Iv x46))] a∧Hp Z ρ (aC 46 vp0 j2::L) w) ?_ ?_
 ·
  refine dE hE rfl (fun hc18=>?_) (fun hc18=>?_)
  ·replace hj2:=(it hc18).symm.trans hj2
   refine aA (S hE 5 rfl fun a hE=>?_)
   obtain⟨x47,ex47,hj2⟩:=bnd hj2
   refine Cl hE rfl rfl ent118 (wS p0 vp0 b29 p2 x46 hp x47 ex47) ⟨rfl,rfl,rfl,rfl,rfl,trivial⟩ fun v a w hR hE=>?_
   obtain⟨rfl,hp⟩:=hR
   have hp:=r1 hp
   refine aB ?_
   obtain rfl:=oj hj2
   exact⟨hE.cut ⟨rfl,rfl,rfl,rfl,rfl,rfl,rfl,trivial⟩,hp⟩
  replace hj2:=(ie hc18).symm.trans hj2
  refine aZ ?_
  obtain rfl:=oj hj2
  exact⟨hE.cut ⟨rfl,rfl,rfl,rfl,rfl,rfl,rfl,trivial⟩,hp⟩
 rintro a w ⟨hE,hp⟩
 refine aG (aG ?_)
 refine aA (S hE 4 rfl fun a hE=>?_)
 refine iL [_,_,_,_] (fun a w=>Env 220 [(199,(.bool ((decide (p1<b29))&&(decide (b29<x34))))),(0,vp0),(1,(Iv p1)),(3,(Iv p3)),(4,(.func (.func 84) #[] #[])),(18,(Iv x34)),(20,(Iv b29)),(24,(Iv x46))] a∧Hp Z ρ (aC 46 vp0 j2::L) w) ?_ ?_
 ·rcases Bool.eq_false_or_eq_true (decide (p1<b29)) with hc19|hc19
  ·
   refine Gs hE hc19 rfl rfl fun a hE=>Gs hE hc19 rfl rfl fun a hE=>Gs hE hc19 rfl rfl fun a hE=>pk1 hE hc19 rfl rfl rfl rfl fun a hE=>?_
   have hE:=hE.eqv (v':=(.bool ((decide (p1<b29))&&(decide (b29<x34))))) (by rw[hc19];rfl)
   exact aB ⟨hE.cut ⟨rfl,rfl,rfl,rfl,rfl,rfl,rfl,rfl,trivial⟩,hp⟩
  refine Gk hE hc19 rfl fun a hE=>Gk hE hc19 rfl fun a hE=>Gk hE hc19 rfl fun a hE=>pk0 hE hc19 rfl rfl rfl rfl fun a hE=>?_
  have hE:=hE.eqv (v':=(.bool ((decide (p1<b29))&&(decide (b29<x34))))) (by rw[hc19];rfl)
  exact aB ⟨hE.cut ⟨rfl,rfl,rfl,rfl,rfl,rfl,rfl,rfl,trivial⟩,hp⟩
 rintro a w ⟨hE,hp⟩
 refine aB ?_
 obtain⟨j3,hj3,hm⟩:=bnd hm
 refine k_cut (fun a w=>Env 220 [(0,vp0),(3,(Iv p3)),(4,(.func (.func 84) #[] #[])),(18,(Iv x34)),(24,(Iv x46))] a∧Hp Z ρ (aC 46 vp0 j3::L) w) ?_ ?_
 ·
  refine dE hE rfl (fun hc20=>?_) (fun hc20=>?_)
  ·replace hj3:=(it hc20).symm.trans hj3
   refine aA (S hE 5 rfl fun a hE=>?_)
   obtain⟨x48,ex48,hj3⟩:=bnd hj3
   refine Cl hE rfl rfl ent113 (hself j2 vp0 p1 b29 x34 hp x48 ex48) ⟨rfl,rfl,rfl,rfl,rfl,trivial⟩ fun v a w hR hE=>?_
   obtain⟨rfl,hp⟩:=hR
   have hp:=r1 hp
   refine aB ?_
   obtain rfl:=oj hj3
   exact⟨hE.cut ⟨rfl,rfl,rfl,rfl,rfl,trivial⟩,hp⟩
  replace hj3:=(ie hc20).symm.trans hj3
  refine aZ ?_
  obtain rfl:=oj hj3
  exact⟨hE.cut ⟨rfl,rfl,rfl,rfl,rfl,trivial⟩,hp⟩
 rintro a w ⟨hE,hp⟩
 refine aG (aA ?_)
 refine S hE 4 rfl fun a hE=>?_
 refine iL [_,_,_,_] (fun a w=>Env 220 [(213,(.bool ((decide (x34<x46))&&(decide (x46<p3))))),(0,vp0),(3,(Iv p3)),(4,(.func (.func 84) #[] #[])),(18,(Iv x34)),(24,(Iv x46))] a∧Hp Z ρ (aC 46 vp0 j3::L) w) ?_ ?_
 ·rcases Bool.eq_false_or_eq_true (decide (x34<x46)) with hc21|hc21
  ·
   refine Gs hE hc21 rfl rfl fun a hE=>Gs hE hc21 rfl rfl fun a hE=>Gs hE hc21 rfl rfl fun a hE=>pk1 hE hc21 rfl rfl rfl rfl fun a hE=>?_
   have hE:=hE.eqv (v':=(.bool ((decide (x34<x46))&&(decide (x46<p3))))) (by rw[hc21];rfl)
   exact aB ⟨hE.cut ⟨rfl,rfl,rfl,rfl,rfl,rfl,trivial⟩,hp⟩
  refine Gk hE hc21 rfl fun a hE=>Gk hE hc21 rfl fun a hE=>Gk hE hc21 rfl fun a hE=>pk0 hE hc21 rfl rfl rfl rfl fun a hE=>?_
  have hE:=hE.eqv (v':=(.bool ((decide (x34<x46))&&(decide (x46<p3))))) (by rw[hc21];rfl)
  exact aB ⟨hE.cut ⟨rfl,rfl,rfl,rfl,rfl,rfl,trivial⟩,hp⟩
 rintro a w ⟨hE,hp⟩
 refine aB ?_
 refine dE hE rfl (fun hc22=>?_) (fun hc22=>?_)
 ·replace hm:=(it hc22).symm.trans hm
  refine aA (S hE 5 rfl fun a hE=>?_)
  obtain⟨x49,ex49,hm⟩:=bnd hm
  refine Cl hE rfl rfl ent113 (hself j3 vp0 x34 x46 p3 hp x49 ex49) ⟨rfl,rfl,rfl,rfl,rfl,trivial⟩ fun v a w hR hE=>?_
  obtain⟨rfl,hp⟩:=hR
  have hp:=r1 hp
  refine aB ?_
  obtain rfl:=oj hm
  exact aB2 hE rfl ⟨_,rfl,rfl,hp⟩
 replace hm:=(ie hc22).symm.trans hm
 refine aZ ?_
 obtain rfl:=oj hm
 exact aB2 hE rfl ⟨_,rfl,rfl,hp⟩
theorem uT:∀(n:Nat),∀{Z:World} {ρ:PH} {L:List bK} {w:World} (p0:(List Opn)) (vp0:Value) (p1:Int) (p2:Int) (p3:Int) (hp:Hp Z ρ (aC 46 vp0 p0::L) w) (r:(List Opn)) (hm:iC n p0 p1 p2 p3=some r),Calls Tryz.prog 113 #[vp0,(Iv p1),(Iv p2),(Iv p3),(.func (.func 84) #[] #[])] w (Ret fun v w'=>v= .tuple #[]∧Hp Z ρ (aC 46 vp0 r::L) w'):=by
 intro n
 induction n with
 |zero=>intro Z ρ L w p0 vp0 p1 p2 p3 hp r hm;cases hm
 |succ n ih=>intro Z ρ L w p0 vp0 p1 p2 p3 hp r hm;exact sO (iC n) ih p0 vp0 p1 p2 p3 hp r hm
theorem oQ {Z:World} {ρ:PH} {L:List bK} {w:World} (p0:(List Opn)) (vp0:Value) (p1:Int) (p2:Int) (p3:Int) (hp:Hp Z ρ (aC 46 vp0 p0::L) w) (r:(List Opn)) (hm:jV p0 p1 p2 p3=some r):
  Calls Tryz.prog 113 #[vp0,(Iv p1),(Iv p2),(Iv p3),(.func (.func 84) #[] #[])] w (Ret fun v w'=>v= .tuple #[]∧Hp Z ρ (aC 46 vp0 r::L) w'):=uT _ p0 vp0 p1 p2 p3 hp r hm
theorem wU {Z:World} {ρ:PH} {L:List bK} {w:World} (p0:(List Opn)) (vp0:Value) (p1:Int) (hp:Hp Z ρ (aC 46 vp0 p0::L) w) (r:(List Opn)) (hm:kS p0 p1=some r):
  Calls Tryz.prog 99 #[vp0,(Iv p1),(.func (.func 84) #[] #[])] w (Ret fun v w'=>v= .tuple #[]∧Hp Z ρ (aC 46 vp0 r::L) w'):=by
 refine enter (N:=63) Tryz.func99 rfl rfl [(0,vp0),(1,(Iv p1)),(2,(.func (.func 84) #[] #[]))] rfl (bC ⟨rfl,rfl,rfl,trivial⟩) fun a hE=>?_
 unfold kS at hm
 refine aG (aA ?_)
 refine S hE 1 rfl fun a hE=>aB (aG ?_)
 refine aA (S hE 3 rfl fun a hE=>?_)
 refine aB (aG ?_)
 obtain⟨b1,hc1,hm⟩:=bnd hm
 refine dH (fun a w=>Env 63 [(0,vp0),(1,(Iv p1)),(2,(.func (.func 84) #[] #[])),(6,(Iv 20)),(7,(Iv b1.1))] a∧Hp Z ρ (aC 46 vp0 b1.2::L) w) ?_ ?_
 ·refine dZ hc1 (fun s a w=>Env 63 [(0,vp0),(1,(Iv p1)),(2,(.func (.func 84) #[] #[])),(6,(Iv 20)),(7,(Iv s.1)),(8,(Iv s.2.1))] a∧Hp Z ρ (aC 46 vp0 s.2.2::L) w) ?_ ?_
  ·exact⟨hE.cut ⟨rfl,rfl,rfl,rfl,rfl,rfl,trivial⟩,hp⟩
  rintro⟨aP,aU,dR⟩ st a w ⟨hE,hp⟩ hl1
  dsimp only at hE hp hl1
  unfold nV at hl1
  refine aG (aG ?_)
  refine aA (S hE 3 rfl fun a hE=>?_)
  refine aB ?_
  refine dE hE rfl (fun hc2=>?_) (fun hc2=>?_)
  ·replace hl1:=(it hc2).symm.trans hl1
   refine aZ (dM ?_)
   refine aG (aA ?_)
   refine S hE 4 rfl fun a hE=>?_
   obtain⟨x1,ex1,hl1⟩:=bnd hl1
   refine Cl hE rfl rfl ent112 (lY dR vp0 aP aU hp x1 ex1) ⟨rfl,rfl,rfl,rfl,trivial⟩ fun v a w hR hE=>?_
   obtain⟨rfl,hp⟩:=hR
   have hp:=r1 hp
   refine aB ?_
   have hE:=hE.cut (E':=[(0,vp0),(1,(Iv p1)),(2,(.func (.func 84) #[] #[])),(6,(Iv 20)),(8,(Iv aU))]) ⟨rfl,rfl,rfl,rfl,rfl,trivial⟩
   refine aG (aA ?_)
   refine S hE 2 rfl fun a hE=>aB (aA ?_)
   refine S hE 2 rfl fun a hE=>?_
   obtain⟨x2,ex2,hl1⟩:=bnd hl1
   refine V hE hp rfl (bF rfl hE rfl rfl (aO ex2)) fun a hE=>S hE 1 rfl fun a hE=>aB ?_
   exact⟨_,(oj hl1).symm,hE.cut ⟨rfl,rfl,rfl,rfl,rfl,rfl,trivial⟩,hp⟩
  replace hl1:=(ie hc2).symm.trans hl1
  refine dS ?_
  refine⟨_,(oj hl1).symm,fun hbb=>?_⟩
  subst hbb
  exact⟨hE.cut ⟨rfl,rfl,rfl,rfl,rfl,trivial⟩,hp⟩
 rintro a w ⟨hE,hp⟩
 refine aG (aA ?_)
 refine S hE 4 rfl fun a hE=>?_
 obtain⟨x3,ex3,hm⟩:=bnd hm
 refine Cl hE rfl rfl ent112 (lY b1.2 vp0 b1.1 p1 hp x3 ex3) ⟨rfl,rfl,rfl,rfl,trivial⟩ fun v a w hR hE=>?_
 obtain⟨rfl,hp⟩:=hR
 have hp:=r1 hp
 refine aB ?_
 obtain⟨b2,hc3,hm⟩:=bnd hm
 refine dH (fun a w=>Env 63 [] a∧Hp Z ρ (aC 46 vp0 b2::L) w) ?_ ?_
 ·refine dZ hc3 (fun s a w=>Env 63 [(0,vp0),(1,(Iv p1)),(2,(.func (.func 84) #[] #[])),(6,(Iv s.1))] a∧Hp Z ρ (aC 46 vp0 s.2::L) w) ?_ ?_
  ·exact⟨hE.cut ⟨rfl,rfl,rfl,rfl,trivial⟩,hp⟩
  rintro⟨bJ,dY⟩ st a w ⟨hE,hp⟩ hl2
  dsimp only at hE hp hl2
  unfold nX at hl2
  refine aG (aG ?_)
  refine aA (S hE 3 rfl fun a hE=>?_)
  refine aB ?_
  have hE:=hE.cut (E':=[(0,vp0),(1,(Iv p1)),(2,(.func (.func 84) #[] #[])),(6,(Iv bJ)),(30,(.bool (decide (bJ<p1))))]) ⟨rfl,rfl,rfl,rfl,rfl,trivial⟩
  refine dE hE rfl (fun hc4=>?_) (fun hc4=>?_)
  ·replace hl2:=(it hc4).symm.trans hl2
   refine aZ (dM ?_)
   refine aG (aA ?_)
   refine S hE 1 rfl fun a hE=>?_
   obtain⟨x4,ex4,hl2⟩:=bnd hl2
   refine V hE hp rfl (aE5 rfl hE rfl rfl (aO ex4)) fun a hE=>S hE 2 rfl fun a hE=>aB (aG ?_)
   obtain⟨b3,hc5,hl2⟩:=bnd hl2
   refine dH (fun a w=>Env 63 [(0,vp0),(1,(Iv p1)),(2,(.func (.func 84) #[] #[])),(6,(Iv bJ)),(7,(Iv b3.1))] a∧Hp Z ρ (aC 46 vp0 b3.2::L) w) ?_ ?_
   ·refine dZ hc5 (fun s a w=>Env 63 [(0,vp0),(1,(Iv p1)),(2,(.func (.func 84) #[] #[])),(6,(Iv bJ)),(7,(Iv s.1)),(8,(Iv s.2.1))] a∧Hp Z ρ (aC 46 vp0 s.2.2::L) w) ?_ ?_
    ·exact⟨hE.cut ⟨rfl,rfl,rfl,rfl,rfl,rfl,trivial⟩,hp⟩
    rintro⟨eQ,uG,lp3_2⟩ st a w ⟨hE,hp⟩ hl3
    dsimp only at hE hp hl3
    unfold nY at hl3
    refine aG (aG ?_)
    refine aA (S hE 3 rfl fun a hE=>?_)
    refine aB ?_
    refine dE hE rfl (fun hc6=>?_) (fun hc6=>?_)
    ·replace hl3:=(it hc6).symm.trans hl3
     refine aZ (dM ?_)
     refine aG (aA ?_)
     refine S hE 4 rfl fun a hE=>?_
     obtain⟨x5,ex5,hl3⟩:=bnd hl3
     refine V hE hp rfl (bF rfl hE rfl rfl (aO ex5)) fun a hE=>S hE 2 rfl fun a hE=>?_
     obtain⟨x6,ex6,hl3⟩:=bnd hl3
     refine Cl hE rfl rfl ent113 (oQ lp3_2 vp0 eQ x5 uG hp x6 ex6) ⟨rfl,rfl,rfl,rfl,rfl,trivial⟩ fun v a w hR hE=>?_
     obtain⟨rfl,hp⟩:=hR
     have hp:=r1 hp
     refine aB (aG ?_)
     refine aA (S hE 2 rfl fun a hE=>?_)
     refine aB (aA ?_)
     refine S hE 2 rfl fun a hE=>?_
     obtain⟨x7,ex7,hl3⟩:=bnd hl3
     refine V hE hp rfl (aE5 rfl hE rfl rfl (aO ex7)) fun a hE=>?_
     obtain⟨x8,ex8,hl3⟩:=bnd hl3
     refine V hE hp rfl (bF rfl hE rfl rfl (aO ex8)) fun a hE=>S hE 1 rfl fun a hE=>aB ?_
     exact⟨_,(oj hl3).symm,hE.cut ⟨rfl,rfl,rfl,rfl,rfl,rfl,trivial⟩,hp⟩
    replace hl3:=(ie hc6).symm.trans hl3
    refine dS ?_
    refine⟨_,(oj hl3).symm,fun hbb=>?_⟩
    subst hbb
    exact⟨hE.cut ⟨rfl,rfl,rfl,rfl,rfl,trivial⟩,hp⟩
   rintro a w ⟨hE,hp⟩
   refine aG (aG ?_)
   refine aA (S hE 2 rfl fun a hE=>?_)
   obtain⟨x9,ex9,hl2⟩:=bnd hl2
   refine V hE hp rfl (bF rfl hE rfl rfl (aO ex9)) fun a hE=>S hE 1 rfl fun a hE=>aB ?_
   have hE:=hE.cut (E':=[(0,vp0),(1,(Iv p1)),(2,(.func (.func 84) #[] #[])),(6,(Iv bJ)),(7,(Iv b3.1)),(9,(Iv x9))]) ⟨rfl,rfl,rfl,rfl,rfl,rfl,trivial⟩
   refine aG (aA ?_)
   refine S hE 3 rfl fun a hE=>aB ?_
   obtain⟨j1,hj1,hl2⟩:=bnd hl2
   refine k_cut (fun a w=>Env 63 [(0,vp0),(1,(Iv p1)),(2,(.func (.func 84) #[] #[])),(6,(Iv bJ))] a∧Hp Z ρ (aC 46 vp0 j1::L) w) ?_ ?_
   ·
    refine dE hE rfl (fun hc7=>?_) (fun hc7=>?_)
    ·replace hj1:=(it hc7).symm.trans hj1
     refine aA (S hE 5 rfl fun a hE=>?_)
     obtain⟨x10,ex10,hj1⟩:=bnd hj1
     refine Cl hE rfl rfl ent113 (oQ b3.2 vp0 b3.1 x9 p1 hp x10 ex10) ⟨rfl,rfl,rfl,rfl,rfl,trivial⟩ fun v a w hR hE=>?_
     obtain⟨rfl,hp⟩:=hR
     have hp:=r1 hp
     refine aB ?_
     obtain rfl:=oj hj1
     exact⟨hE.cut ⟨rfl,rfl,rfl,rfl,trivial⟩,hp⟩
    replace hj1:=(ie hc7).symm.trans hj1
    refine aZ ?_
    obtain rfl:=oj hj1
    exact⟨hE.cut ⟨rfl,rfl,rfl,rfl,trivial⟩,hp⟩
   rintro a w ⟨hE,hp⟩
   refine aA (S hE 1 rfl fun a hE=>?_)
   obtain⟨x11,ex11,hl2⟩:=bnd hl2
   refine V hE hp rfl (aE5 rfl hE rfl rfl (aO ex11)) fun a hE=>S hE 1 rfl fun a hE=>aB ?_
   exact⟨_,(oj hl2).symm,hE.cut ⟨rfl,rfl,rfl,rfl,trivial⟩,hp⟩
  replace hl2:=(ie hc4).symm.trans hl2
  refine dS ?_
  refine⟨_,(oj hl2).symm,fun hbb=>?_⟩
  subst hbb
  exact⟨hE.cut trivial,hp⟩
 rintro a w ⟨hE,hp⟩
 obtain rfl:=oj hm
 exact aB2 hE rfl ⟨_,rfl,rfl,hp⟩
theorem vS {Z:World} {ρ:PH} {L:List bK} {w:World} (p0:(List Opn)) (vp0:Value) (hp:Hp Z ρ (aC 46 vp0 p0::L) w) (r:(List Opn)) (hm:kG p0=some r):
  Calls Tryz.prog 83 #[vp0,(.func (.func 84) #[] #[])] w (Ret fun v w'=>v= .tuple #[]∧Hp Z ρ (aC 46 vp0 r::L) w'):=by
 refine enter (N:=9) Tryz.func83 rfl rfl [(0,vp0),(1,(.func (.func 84) #[] #[]))] rfl (bC ⟨rfl,rfl,trivial⟩) fun a hE=>?_
 unfold kG at hm
 refine aA (S hE 2 rfl fun a hE=>?_)
 refine V hE hp rfl (bT rfl hE rfl (aC.len hp 0 rfl dW)) fun a hE=>S hE 1 rfl fun a hE=>?_
 obtain⟨x1,ex1,hm⟩:=bnd hm
 refine Cl hE rfl rfl ent99 (wU p0 vp0 (p0.length:Int) hp x1 ex1) ⟨rfl,rfl,rfl,trivial⟩ fun v a w hR hE=>?_
 obtain⟨rfl,hp⟩:=hR
 have hp:=r1 hp
 refine aB ?_
 obtain rfl:=oj hm
 exact aB2 hE rfl ⟨_,rfl,rfl,hp⟩
theorem aE0 {Z:World} {ρ:PH} {L:List bK} {w:World} (p0:(List Opn)) (vp0:Value) (hp:Hp Z ρ (aC 46 vp0 p0::L) w) (r:(List Opn)) (hm:zC p0=some r):
  Calls Tryz.prog 56 #[vp0] w (Ret fun v w'=>∃(vr1:Value),v=vr1∧Hp Z ρ (aC 46 vr1 r::L) w'):=by
 refine enter (N:=6) Tryz.func56 rfl rfl [(0,vp0)] rfl (bC ⟨rfl,trivial⟩) fun a hE=>?_
 unfold zC at hm
 refine aG (aA ?_)
 refine S hE 1 rfl fun a hE=>aB (aG ?_)
 refine aA (S hE 1 rfl fun a hE=>?_)
 obtain⟨x1,ex1,hm⟩:=bnd hm
 refine Cl hE rfl rfl ent83 (vS p0 vp0 hp x1 ex1) ⟨rfl,rfl,trivial⟩ fun v a w hR hE=>?_
 obtain⟨rfl,hp⟩:=hR
 have hp:=r1 hp
 refine aB (aG ?_)
 refine aA (S hE 2 rfl fun a hE=>?_)
 refine aB (bZ ?_)
 obtain rfl:=oj hm
 exact gJ hE rfl rfl ⟨_,rfl,_,rfl,hp⟩
theorem aD9 {Z:World} {ρ:PH} {L:List bK} {w:World} (p0:(List Opn)) (vp0:Value) (hp0:aH ρ vp0 p0) (hp:Hp Z ρ (L) w) (r:(List Opn)) (hm:zB p0=some r):
  Calls Tryz.prog 26 #[vp0] w (Ret fun v w'=>∃(vr1:Value),v=vr1∧Hp Z ρ (aC 46 vr1 r::L) w'):=by
 refine enter (N:=23) Tryz.func26 rfl rfl [(0,vp0)] rfl (bC ⟨rfl,trivial⟩) fun a hE=>?_
 unfold zB at hm
 refine aG (aA ?_)
 refine S hE 1 rfl fun a hE=>aB (aG ?_)
 refine aA (S hE 1 rfl fun a hE=>?_)
 refine aB (aG ?_)
 refine aG (aA ?_)
 refine S hE 1 rfl fun a hE=>V hE hp rfl (bT rfl hE rfl (aH.len hp0 dW)) fun a hE=>S hE 1 rfl fun a hE=>aB ?_
 have hp:=hp.emp (aC.nil (α:=Opn) 46)
 have hp:=r1 hp
 obtain⟨b1,hc1,hm⟩:=bnd hm
 refine dH (fun a w=>∃(w5:Value),Env 23 [(3,w5)] a∧Hp Z ρ (aC 46 w5 b1::L) w) ?_ ?_
 ·refine dZ hc1 (fun s a w=>∃(w5:Value),Env 23 [(3,w5),(6,vp0),(7,(Iv (p0.length:Int))),(8,(Iv s.1))] a∧Hp Z ρ (aC 46 w5 s.2::L) w) ?_ ?_
  ·exact⟨_,hE.cut ⟨rfl,rfl,rfl,rfl,trivial⟩,hp⟩
  rintro⟨aP,aU⟩ st a w ⟨w5,hE,hp⟩ hl1
  dsimp only at hE hp hl1
  unfold Q8 at hl1
  refine aG (aA ?_)
  refine S hE 1 rfl fun a hE=>aB (aG ?_)
  refine dE hE rfl (fun hc2=>?_) (fun hc2=>?_)
  ·replace hl1:=(it hc2).symm.trans hl1
   refine aZ (aG ?_)
   refine dM (aG ?_)
   refine aA ?_
   obtain⟨x1,ex1,hl1⟩:=bnd hl1
   obtain⟨b2,b2o,b2c,b2r,b2k,b2f⟩:=aH.at hp0 dW ex1
   obtain rfl:b2c=Enc.enc x1:=b2k
   have b2f:AtP ρ b2 b2o [(Iv x1.a),(Iv x1.b)]:=b2f
   refine V hE hp rfl (aN rfl hE rfl rfl b2r) fun a hE=>V hE hp rfl (aK rfl hE rfl (fun w hw=>aW (cs:=[(Iv x1.a),(Iv x1.b)]) fF (fun j u hj=>cell_of hw.le (b2f j u hj)))) fun a hE=>?_
   refine dL (wk0 rfl) rfl rfl hE hp rfl [(Iv 0),(Iv 0)] (fun w=>by simp[Instr.alloc,go_sem]<;>rfl) ?_
   intro a w b3 hE hp
   have hp:=r2 hp
   refine aX (wk0 rfl) rfl hE hp rfl rfl rfl 0 rfl fF.size_ rfl (aQ ⟨rfl,rfl,trivial⟩) [(Iv x1.a),(Iv x1.b)] rfl ?_
   intro w hp
   have hp:=r2 hp
   refine aB (aA ?_)
   refine S hE 1 rfl fun a hE=>V hE hp rfl (xf hE dK rfl rfl) fun a hE=>V hE hp rfl (xl hE aT 0 rfl rfl rfl rfl) fun a hE=>V hE hp rfl (xf hE fA rfl rfl) fun a hE=>V hE hp rfl (xl hE aT 0 rfl rfl rfl rfl) fun a hE=>V hE hp rfl (v:=(.agg #[(Iv x1.b),(Iv x1.a)])) (lW rfl hE [(0,(Iv x1.b)),(1,(Iv x1.a))] (by exact⟨⟨rfl,rfl⟩,⟨rfl,rfl⟩,trivial⟩) (fun w=>by simp[Instr.build,Instr.fill,Value.cells,go_sem])) fun a hE=>?_
   refine fP (wk0 rfl) rfl rfl hE hp rfl [(0,(.agg #[(Iv x1.b),(Iv x1.a)]))] ⟨⟨rfl,rfl⟩,trivial⟩ [(Iv x1.b),(Iv x1.a)] 46 (fun w=>by simp[Instr.buildSlice,Instr.fill,Value.cells,go_sem]) ?_
   intro a w b4 hE hp
   have hp:=r3 hp
   obtain⟨x2,ex2,hl1⟩:=bnd hl1
   refine fU (wk0 rfl) rfl rfl hE hp rfl dW rfl rfl 2 rfl rfl (l2:=[(Opn.mk x1.b x1.a)]) rfl (fun j u hj=>by have:=Hp.cN 0 rfl 0 _ (aS rfl) w hp j u hj;simpa using this) ex2 ?_
   intro v1 a w hE hp
   have hp:=r3 hp
   refine S hE 1 rfl fun a hE=>aB (aA ?_)
   obtain⟨x3,ex3,hl1⟩:=bnd hl1
   refine V hE hp rfl (bF rfl hE rfl rfl (aO ex3)) fun a hE=>S hE 1 rfl fun a hE=>aB ?_
   exact⟨_,(oj hl1).symm,_,hE.cut ⟨rfl,rfl,rfl,rfl,trivial⟩,(((hp.get 1 rfl).drop).drop)⟩
  replace hl1:=(ie hc2).symm.trans hl1
  refine dS ?_
  refine⟨_,(oj hl1).symm,fun hbb=>?_⟩
  subst hbb
  exact⟨_,hE.cut ⟨rfl,trivial⟩,hp⟩
 rintro a w ⟨w5,hE,hp⟩
 refine aG (aA ?_)
 refine S hE 1 rfl fun a hE=>?_
 obtain⟨x4,ex4,hm⟩:=bnd hm
 refine s_call (wk0 rfl) rfl rfl hE rfl [w5] ⟨rfl,trivial⟩ ent56 (aE0 b1 w5 hp x4 ex4) Ret.ret ?_
 intro vr1 a w hR hE
 obtain⟨u,rfl,hp⟩:=Ret.of hR
 have hp:=r1 hp
 refine S hE 1 rfl fun a hE=>aB (bZ ?_)
 obtain rfl:=oj hm
 exact gJ hE rfl rfl ⟨_,rfl,_,rfl,hp⟩
theorem c_align_Compose {Z:World} {ρ:PH} {L:List bK} {w:World} (p0:(List Opn)) (vp0:Value) (hp0:aH ρ vp0 p0) (p1:(List Opn)) (vp1:Value) (hp1:aH ρ vp1 p1) (hp:Hp Z ρ (L) w) (r:(List Opn)) (hm:I7 p0 p1=some r):
  Calls Tryz.prog 29 #[vp0,vp1] w (Ret fun v w'=>∃(vr1:Value),v=vr1∧Hp Z ρ (aC 46 vr1 r::L) w'):=by
 refine enter (N:=67) Tryz.func29 rfl rfl [(0,vp0),(1,vp1)] rfl (bC ⟨rfl,rfl,trivial⟩) fun a hE=>?_
 unfold I7 at hm
 refine aG (aA ?_)
 refine S hE 1 rfl fun a hE=>aB (aG ?_)
 refine aA (S hE 1 rfl fun a hE=>?_)
 refine aB (aG ?_)
 refine aA ?_
 refine s_mkmap (κ:=Int) (β:=Bool) (wk0 rfl) rfl rfl hE hp rfl ?_
 intro a w b1 hE hp
 have hp:=r1 hp
 refine S hE 1 rfl fun a hE=>aB (aG ?_)
 refine aG (aA ?_)
 refine S hE 1 rfl fun a hE=>V hE hp rfl (bT rfl hE rfl (aH.len hp0 dW)) fun a hE=>S hE 1 rfl fun a hE=>aB ?_
 have hp:=hp.emp (aC.nil (α:=Opn) 46)
 have hp:=r2 hp
 obtain⟨b2,hc1,hm⟩:=bnd hm
 refine dH (fun a w=>∃(w11:Value),Env 67 [(1,vp1),(5,w11),(6,(.map (some b1)))] a∧Hp Z ρ (aC 46 w11 b2.1::sN b1 (b2.2:List (Int×Bool))::L) w) ?_ ?_
 ·refine dZ hc1 (fun s a w=>∃(w11:Value),Env 67 [(1,vp1),(5,w11),(6,(.map (some b1))),(14,vp0),(15,(Iv (p0.length:Int))),(16,(Iv s.1))] a∧Hp Z ρ (aC 46 w11 s.2.1::sN b1 (s.2.2:List (Int×Bool))::L) w) ?_ ?_
  ·exact⟨_,hE.cut ⟨rfl,rfl,rfl,rfl,rfl,rfl,trivial⟩,hp⟩
  rintro⟨aP,aU,dR⟩ st a w ⟨w11,hE,hp⟩ hl1
  dsimp only at hE hp hl1
  unfold J3 at hl1
  refine aG (aA ?_)
  refine S hE 1 rfl fun a hE=>aB (aG ?_)
  refine dE hE rfl (fun hc2=>?_) (fun hc2=>?_)
  ·replace hl1:=(it hc2).symm.trans hl1
   refine aZ (aG ?_)
   obtain⟨j1,hj1,hl1⟩:=bnd hl1
   refine dH (fun a w=>∃(w11:Value),Env 67 [(1,vp1),(5,w11),(6,(.map (some b1))),(14,vp0),(15,(Iv (p0.length:Int))),(16,(Iv aP))] a∧Hp Z ρ (aC 46 w11 j1.1::sN b1 (j1.2:List (Int×Bool))::L) w) ?_ ?_
   ·
    refine aG (aA ?_)
    obtain⟨x1,ex1,hj1⟩:=bnd hj1
    obtain⟨b3,b3o,b3c,b3r,b3k,b3f⟩:=aH.at hp0 dW ex1
    obtain rfl:b3c=Enc.enc x1:=b3k
    have b3f:AtP ρ b3 b3o [(Iv x1.a),(Iv x1.b)]:=b3f
    refine V hE hp rfl (aN rfl hE rfl rfl b3r) fun a hE=>V hE hp rfl (aK rfl hE rfl (fun w hw=>aW (cs:=[(Iv x1.a),(Iv x1.b)]) fF (fun j u hj=>cell_of hw.le (b3f j u hj)))) fun a hE=>?_
    refine dL (wk0 rfl) rfl rfl hE hp rfl [(Iv 0),(Iv 0)] (fun w=>by simp[Instr.alloc,go_sem]<;>rfl) ?_
    intro a w b4 hE hp
    have hp:=r3 hp
    refine aX (wk0 rfl) rfl hE hp rfl rfl rfl 0 rfl fF.size_ rfl (aQ ⟨rfl,rfl,trivial⟩) [(Iv x1.a),(Iv x1.b)] rfl ?_
    intro w hp
    have hp:=r3 hp
    refine aB (aG ?_)
    refine aG (aA ?_)
    refine V hE hp rfl (xf hE fA rfl rfl) fun a hE=>V hE hp rfl (xl hE aT 0 rfl rfl rfl rfl) fun a hE=>S hE 1 rfl fun a hE=>aB ?_
    refine dE hE rfl (fun hc3=>?_) (fun hc3=>?_)
    ·replace hj1:=(it hc3).symm.trans hj1
     refine dS ?_
     obtain rfl:=oj hj1
     exact⟨_,hE.cut ⟨rfl,rfl,rfl,rfl,rfl,rfl,trivial⟩,(hp.drop)⟩
    replace hj1:=(ie hc3).symm.trans hj1
    refine aZ (aG ?_)
    refine aA (S hE 1 rfl fun a hE=>?_)
    refine V hE hp rfl (xf hE dK rfl rfl) fun a hE=>V hE hp rfl (xl hE aT 0 rfl rfl rfl rfl) fun a hE=>?_
    obtain⟨x2,ex2,hj1⟩:=bnd hj1
    refine Cl hE rfl rfl ent13 (H9 p1 vp1 hp1 x1.b hp x2 ex2) ⟨rfl,rfl,trivial⟩ fun v a w hR hE=>?_
    obtain⟨rfl,hp⟩:=hR
    have hp:=r3 hp
    refine S hE 5 rfl fun a hE=>aB (aG ?_)
    refine aG (aA ?_)
    refine S hE 2 rfl fun a hE=>aB ?_
    obtain⟨j2,hj2,hj1⟩:=bnd hj1
    refine k_cut (fun a w=>Env 67 [(1,vp1),(5,w11),(6,(.map (some b1))),(8,(Pv b4 0)),(9,(Iv j2)),(14,vp0),(15,(Iv (p0.length:Int))),(16,(Iv aP))] a∧Hp Z ρ (Pt b4 (.cells #[(Iv x1.a),(Iv x1.b)] 46 (0,0))::aC 46 w11 aU::sN b1 (dR:List (Int×Bool))::L) w) ?_ ?_
    ·
     refine dE hE rfl (fun hc4=>?_) (fun hc4=>?_)
     ·replace hj2:=(it hc4).symm.trans hj2
      refine aA (S hE 1 rfl fun a hE=>?_)
      refine aB ?_
      have hE:=hE.cut (E':=[(1,vp1),(5,w11),(6,(.map (some b1))),(8,(Pv b4 0)),(9,(Iv (-1))),(14,vp0),(15,(Iv (p0.length:Int))),(16,(Iv aP))]) ⟨rfl,rfl,rfl,rfl,rfl,rfl,rfl,rfl,trivial⟩
      obtain rfl:=oj hj2
      exact⟨hE.cut ⟨rfl,rfl,rfl,rfl,rfl,rfl,rfl,rfl,trivial⟩,hp⟩
     replace hj2:=(ie hc4).symm.trans hj2
     refine aZ ?_
     obtain rfl:=oj hj2
     exact⟨hE.cut ⟨rfl,rfl,rfl,rfl,rfl,rfl,rfl,rfl,trivial⟩,hp⟩
    rintro a w ⟨hE,hp⟩
    refine aG (aA ?_)
    refine S hE 2 rfl fun a hE=>?_
    refine s_mput kt3 mapty103 (wk0 rfl) rfl hE hp rfl 2 (k:=j2) (v:=true) rfl rfl rfl rfl ?_
    intro w hp
    have hp:=r3 hp
    refine aB (aA ?_)
    refine S hE 1 rfl fun a hE=>V hE hp rfl (xf hE fA rfl rfl) fun a hE=>V hE hp rfl (xl hE aT 0 rfl rfl rfl rfl) fun a hE=>S hE 1 rfl fun a hE=>V hE hp rfl (v:=(.agg #[(Iv x1.a),(Iv j2)])) (lW rfl hE [(0,(Iv x1.a)),(1,(Iv j2))] (by exact⟨⟨rfl,rfl⟩,⟨rfl,rfl⟩,trivial⟩) (fun w=>by simp[Instr.build,Instr.fill,Value.cells,go_sem])) fun a hE=>?_
    refine fP (wk0 rfl) rfl rfl hE hp rfl [(0,(.agg #[(Iv x1.a),(Iv j2)]))] ⟨⟨rfl,rfl⟩,trivial⟩ [(Iv x1.a),(Iv j2)] 46 (fun w=>by simp[Instr.buildSlice,Instr.fill,Value.cells,go_sem]) ?_
    intro a w b5 hE hp
    have hp:=r4 hp
    obtain⟨x3,ex3,hj1⟩:=bnd hj1
    refine fU (wk0 rfl) rfl rfl hE hp rfl dW rfl rfl 2 rfl rfl (l2:=[(Opn.mk x1.a j2)]) rfl (fun j u hj=>by have:=Hp.cN 0 rfl 0 _ (aS rfl) w hp j u hj;simpa using this) ex3 ?_
    intro v1 a w hE hp
    have hp:=r4 hp
    refine S hE 1 rfl fun a hE=>aB ?_
    obtain rfl:=oj hj1
    exact⟨_,hE.cut ⟨rfl,rfl,rfl,rfl,rfl,rfl,trivial⟩,(((hp.get 1 rfl).drop).drop)⟩
   rintro a w ⟨w11,hE,hp⟩
   refine aA ?_
   obtain⟨x4,ex4,hl1⟩:=bnd hl1
   refine V hE hp rfl (bF rfl hE rfl rfl (aO ex4)) fun a hE=>S hE 1 rfl fun a hE=>aB ?_
   exact⟨_,(oj hl1).symm,_,hE.cut ⟨rfl,rfl,rfl,rfl,rfl,rfl,trivial⟩,hp⟩
  replace hl1:=(ie hc2).symm.trans hl1
  refine dS ?_
  refine⟨_,(oj hl1).symm,fun hbb=>?_⟩
  subst hbb
  exact⟨_,hE.cut ⟨rfl,rfl,rfl,trivial⟩,hp⟩
 rintro a w ⟨w11,hE,hp⟩
 refine aG (aG ?_)
 refine aA (S hE 1 rfl fun a hE=>?_)
 refine V hE hp rfl (bT rfl hE rfl (aH.len hp1 dW)) fun a hE=>S hE 1 rfl fun a hE=>aB ?_
 obtain⟨b6,hc5,hm⟩:=bnd hm
 refine dH (fun a w=>∃(w11:Value),Env 67 [(5,w11)] a∧Hp Z ρ (aC 46 w11 b6::sN b1 (b2.2:List (Int×Bool))::L) w) ?_ ?_
 ·refine dZ hc5 (fun s a w=>∃(w11:Value),Env 67 [(5,w11),(6,(.map (some b1))),(42,vp1),(43,(Iv (p1.length:Int))),(44,(Iv s.1))] a∧Hp Z ρ (aC 46 w11 s.2::sN b1 (b2.2:List (Int×Bool))::L) w) ?_ ?_
  ·exact⟨_,hE.cut ⟨rfl,rfl,rfl,rfl,rfl,trivial⟩,hp⟩
  rintro⟨bJ,dY⟩ st a w ⟨w11,hE,hp⟩ hl2
  dsimp only at hE hp hl2
  unfold J4 at hl2
  refine aG (aA ?_)
  refine S hE 1 rfl fun a hE=>aB (aG ?_)
  refine dE hE rfl (fun hc6=>?_) (fun hc6=>?_)
  ·replace hl2:=(it hc6).symm.trans hl2
   refine aZ (aG ?_)
   refine dM (aG ?_)
   refine aA ?_
   obtain⟨x5,ex5,hl2⟩:=bnd hl2
   obtain⟨b7,b7o,b7c,b7r,b7k,b7f⟩:=aH.at hp1 dW ex5
   obtain rfl:b7c=Enc.enc x5:=b7k
   have b7f:AtP ρ b7 b7o [(Iv x5.a),(Iv x5.b)]:=b7f
   refine V hE hp rfl (aN rfl hE rfl rfl b7r) fun a hE=>V hE hp rfl (aK rfl hE rfl (fun w hw=>aW (cs:=[(Iv x5.a),(Iv x5.b)]) fF (fun j u hj=>cell_of hw.le (b7f j u hj)))) fun a hE=>?_
   refine dL (wk0 rfl) rfl rfl hE hp rfl [(Iv 0),(Iv 0)] (fun w=>by simp[Instr.alloc,go_sem]<;>rfl) ?_
   intro a w b8 hE hp
   have hp:=r3 hp
   refine aX (wk0 rfl) rfl hE hp rfl rfl rfl 0 rfl fF.size_ rfl (aQ ⟨rfl,rfl,trivial⟩) [(Iv x5.a),(Iv x5.b)] rfl ?_
   intro w hp
   have hp:=r3 hp
   refine aB (aG ?_)
   refine aA (V hE hp rfl (xf hE dK rfl rfl) fun a hE=>?_)
   refine V hE hp rfl (xl hE aT 0 rfl rfl rfl rfl) fun a hE=>S hE 2 rfl fun a hE=>?_
   refine iL [_,_,_,_,_,_] (fun a w=>Env 67 [(57,(.bool ((decide (0≤x5.b))&&(!((lM (b2.2:List (Int×Bool)) x5.b).getD false))))),(5,w11),(6,(.map (some b1))),(12,(Pv b8 0)),(42,vp1),(43,(Iv (p1.length:Int))),(44,(Iv bJ))] a∧Hp Z ρ (Pt b8 (.cells #[(Iv x5.a),(Iv x5.b)] 46 (0,0))::aC 46 w11 dY::sN b1 (b2.2:List (Int×Bool))::L) w) ?_ ?_
   ·rcases Bool.eq_false_or_eq_true (decide (0≤x5.b)) with hc7|hc7
    ·
     refine Gs hE hc7 rfl rfl fun a hE=>G hE hp hc7 rfl (xf hE dK rfl rfl) fun a hE=>G hE hp hc7 rfl (xl hE aT 0 rfl rfl rfl rfl) fun a hE=>G hE hp hc7 rfl (v:=(.bool ((lM (b2.2:List (Int×Bool)) x5.b).getD false))) (ex_mget0 (zd:=(false:Bool)) kt3 mapty103 zero4 rfl hE 2 (k:=x5.b) rfl rfl rfl) fun a hE=>Gs hE hc7 rfl rfl fun a hE=>pk1 hE hc7 rfl rfl rfl rfl fun a hE=>?_
     have hE:=hE.eqv (v':=(.bool ((decide (0≤x5.b))&&(!((lM (b2.2:List (Int×Bool)) x5.b).getD false))))) (by rw[hc7];rfl)
     exact aB ⟨hE.cut ⟨rfl,rfl,rfl,rfl,rfl,rfl,rfl,trivial⟩,hp⟩
    refine Gk hE hc7 rfl fun a hE=>Gk hE hc7 rfl fun a hE=>Gk hE hc7 rfl fun a hE=>Gk hE hc7 rfl fun a hE=>Gk hE hc7 rfl fun a hE=>pk0 hE hc7 rfl rfl rfl rfl fun a hE=>?_
    have hE:=hE.eqv (v':=(.bool ((decide (0≤x5.b))&&(!((lM (b2.2:List (Int×Bool)) x5.b).getD false))))) (by rw[hc7];rfl)
    exact aB ⟨hE.cut ⟨rfl,rfl,rfl,rfl,rfl,rfl,rfl,trivial⟩,hp⟩
   rintro a w ⟨hE,hp⟩
   refine aB ?_
   refine dE hE rfl (fun hc8=>?_) (fun hc8=>?_)
   ·replace hl2:=(it hc8).symm.trans hl2
    refine aA (S hE 1 rfl fun a hE=>?_)
    refine V hE hp rfl (xf hE dK rfl rfl) fun a hE=>V hE hp rfl (xl hE aT 0 rfl rfl rfl rfl) fun a hE=>V hE hp rfl (v:=(.agg #[(Iv (-1)),(Iv x5.b)])) (lW rfl hE [(0,(Iv (-1))),(1,(Iv x5.b))] (by exact⟨⟨rfl,rfl⟩,⟨rfl,rfl⟩,trivial⟩) (fun w=>by simp[Instr.build,Instr.fill,Value.cells,go_sem])) fun a hE=>?_
    refine fP (wk0 rfl) rfl rfl hE hp rfl [(0,(.agg #[(Iv (-1)),(Iv x5.b)]))] ⟨⟨rfl,rfl⟩,trivial⟩ [(Iv (-1)),(Iv x5.b)] 46 (fun w=>by simp[Instr.buildSlice,Instr.fill,Value.cells,go_sem]) ?_
    intro a w b9 hE hp
    have hp:=r4 hp
    obtain⟨x6,ex6,hl2⟩:=bnd hl2
    refine fU (wk0 rfl) rfl rfl hE hp rfl dW rfl rfl 2 rfl rfl (l2:=[(Opn.mk (-1) x5.b)]) rfl (fun j u hj=>by have:=Hp.cN 0 rfl 0 _ (aS rfl) w hp j u hj;simpa using this) ex6 ?_
    intro v2 a w hE hp
    have hp:=r4 hp
    refine S hE 1 rfl fun a hE=>aB (aA ?_)
    obtain⟨x7,ex7,hl2⟩:=bnd hl2
    refine V hE hp rfl (bF rfl hE rfl rfl (aO ex7)) fun a hE=>S hE 1 rfl fun a hE=>aB ?_
    exact⟨_,(oj hl2).symm,_,hE.cut ⟨rfl,rfl,rfl,rfl,rfl,trivial⟩,(((hp.get 1 rfl).drop).drop)⟩
   replace hl2:=(ie hc8).symm.trans hl2
   refine aZ (aA ?_)
   obtain⟨x8,ex8,hl2⟩:=bnd hl2
   refine V hE hp rfl (bF rfl hE rfl rfl (aO ex8)) fun a hE=>S hE 1 rfl fun a hE=>aB ?_
   exact⟨_,(oj hl2).symm,_,hE.cut ⟨rfl,rfl,rfl,rfl,rfl,trivial⟩,(hp.drop)⟩
  replace hl2:=(ie hc6).symm.trans hl2
  refine dS ?_
  refine⟨_,(oj hl2).symm,fun hbb=>?_⟩
  subst hbb
  exact⟨_,hE.cut ⟨rfl,trivial⟩,hp⟩
 rintro a w ⟨w11,hE,hp⟩
 refine aG (aA ?_)
 refine S hE 1 rfl fun a hE=>?_
 obtain⟨x9,ex9,hm⟩:=bnd hm
 refine s_call (wk0 rfl) rfl rfl hE rfl [w11] ⟨rfl,trivial⟩ ent56 (aE0 b6 w11 hp x9 ex9) Ret.ret ?_
 intro vr3 a w hR hE
 obtain⟨u,rfl,hp⟩:=Ret.of hR
 have hp:=r2 hp
 refine S hE 1 rfl fun a hE=>aB (bZ ?_)
 obtain rfl:=oj hm
 exact gJ hE rfl rfl ⟨_,rfl,_,rfl,((hp.get 1 rfl).drop)⟩
end Go.Proofs.YtopnldfjcciieaaGreat

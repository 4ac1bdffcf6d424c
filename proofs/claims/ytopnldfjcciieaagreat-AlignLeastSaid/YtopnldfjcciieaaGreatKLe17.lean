/- The code goes as its model: cmp.isNaN[int], cmp.Compare[int], assessor/align.sorted$1, slices.insertionSortCmpFunc[assessor/api.Operation]@assessor/align.sorted -/
import Derived.Test.YtopnldfjcciieaaGreatKLeT
import Derived.Test.YtopnldfjcciieaaGreatKLe4
import Derived.Test.YtopnldfjcciieaaGreatKLe5
import Derived.Test.YtopnldfjcciieaaGreatKLe16
set_option linter.unusedVariables false
set_option linter.unusedSimpArgs false
set_option maxRecDepth 100000
set_option maxHeartbeats 4000000
namespace Go.Proofs.YtopnldfjcciieaaGreat
open Go.RowKit
theorem aF4 {Z:World} {ρ:PH} {L:List bQ} {w:World} (B:Int) (D:Hp Z ρ (L) w) (r:Bool) (C:zJ B=some r):
  Calls Tryz.prog 100 #[(Iv B)] w (Ret fun v w'=>v=(.bool r)∧Hp Z ρ (L) w'):=by
 refine enter (N:=6) Tryz.func100 O O [(0,(Iv B))] O (bH ⟨O,tv⟩) fun a A=>?_
 unfold zJ at C
 refine aG (aA ?_)
 refine S A 1 O fun a A=>aB (aG ?_)
 refine aA (S A 4 O fun a A=>?_)
 refine aB (cZ ?_)
 obtain rfl:=oj C
 exact gY A O O ⟨_,O,O,D⟩
theorem aA1 {Z:World} {ρ:PH} {L:List bQ} {w:World} (J:Int) (I:Int) (C:Hp Z ρ (L) w) (r:Int) (B:wV J I=some r):
  Calls Tryz.prog 85 #[(Iv J),(Iv I)] w (Ret fun v w'=>v=(Iv r)∧Hp Z ρ (L) w'):=by
 refine enter (N:=20) Tryz.func85 O O [(0,(Iv J)),(1,(Iv I))] O (bH ⟨O,O,tv⟩) fun a A=>?_
 unfold wV at B
 refine aG (aA ?_)
 refine S A 1 O fun a A=>aB (aG ?_)
 refine aA (S A 1 O fun a A=>?_)
 obtain⟨T,Q,B⟩:=bnd B
 refine Cl A O O ent100 (aF4 J C T Q) ⟨O,tv⟩ fun v a w K A=>?_
 obtain⟨rfl,C⟩:=K
 have C:=r0 C
 refine S A 1 O fun a A=>aB (aG ?_)
 refine aA (S A 1 O fun a A=>?_)
 obtain⟨R,M,B⟩:=bnd B
 refine Cl A O O ent100 (aF4 I C R M) ⟨O,tv⟩ fun v a w K A=>?_
 obtain⟨rfl,C⟩:=K
 have C:=r0 C
 refine S A 1 O fun a A=>aB (aG ?_)
 refine aG (aA ?_)
 refine S A 1 O fun a A=>aB ?_
 refine dK A O (fun H=>?_) (fun H=>?_)
 ·replace B:=(it H).symm.trans B
  refine aG (aG ?_)
  refine aA (S A 1 O fun a A=>?_)
  refine aB ?_
  refine dK A O (fun G=>?_) (fun G=>?_)
  ·replace B:=(it G).symm.trans B
   refine aG (aA ?_)
   refine S A 1 O fun a A=>aB (cZ ?_)
   obtain rfl:=oj B
   exact gY A O O ⟨_,O,O,C⟩
  replace B:=(ie G).symm.trans B
  refine bI (aG ?_)
  refine aA (S A 1 O fun a A=>?_)
  refine aB (cZ ?_)
  obtain rfl:=oj B
  exact gY A O O ⟨_,O,O,C⟩
 replace B:=(ie H).symm.trans B
 refine bI (aG ?_)
 refine aG (aA ?_)
 refine S A 1 O fun a A=>aB ?_
 refine dK A O (fun F=>?_) (fun F=>?_)
 ·replace B:=(it F).symm.trans B
  refine aG (aA ?_)
  refine S A 1 O fun a A=>aB (cZ ?_)
  obtain rfl:=oj B
  exact gY A O O ⟨_,O,O,C⟩
 replace B:=(ie F).symm.trans B
 refine bI (aG ?_)
 refine aG (aA ?_)
 refine S A 3 O fun a A=>aB ?_
 refine dK A O (fun E=>?_) (fun E=>?_)
 ·replace B:=(it E).symm.trans B
  refine aG (aA ?_)
  refine S A 1 O fun a A=>aB (cZ ?_)
  obtain rfl:=oj B
  exact gY A O O ⟨_,O,O,C⟩
 replace B:=(ie E).symm.trans B
 refine bI (aG ?_)
 refine aG (aA ?_)
 refine S A 3 O fun a A=>aB ?_
 refine dK A O (fun D=>?_) (fun D=>?_)
 ·replace B:=(it D).symm.trans B
  refine aG (aA ?_)
  refine S A 1 O fun a A=>aB (cZ ?_)
  obtain rfl:=oj B
  exact gY A O O ⟨_,O,O,C⟩
 replace B:=(ie D).symm.trans B
 refine bI (aG ?_)
 refine aA (S A 1 O fun a A=>?_)
 refine aB (cZ ?_)
 obtain rfl:=oj B
 exact gY A O O ⟨_,O,O,C⟩
theorem zC {Z:World} {ρ:PH} {L:List bQ} {w:World} (E:Opn) (H:Opn) (B:Hp Z ρ (L) w) (r:Int) (F:tJ E H=some r):
  Calls Tryz.prog 84 #[(.agg #[(Iv E.a),(Iv E.b)]),(.agg #[(Iv H.a),(Iv H.b)])] w (Ret fun v w'=>v=(Iv r)∧Hp Z ρ (L) w'):=by
 refine enter (N:=37) Tryz.func84 O O [(0,(.agg #[(Iv E.a),(Iv E.b)])),(1,(.agg #[(Iv H.a),(Iv H.b)]))] O (bH ⟨O,O,tv⟩) fun a A=>?_
 unfold tJ at F
 refine aG (aA ?_)
 refine iH (wk0 O) O O A B O (v:=(.agg #[(Iv E.a),(Iv E.b)])) O ?_
 intro a w b1 A B
 have B:=r1 B
 refine iH (wk0 O) O O A B O (v:=(.agg #[(Iv H.a),(Iv H.b)])) O ?_
 intro a w b2 A B
 have B:=r2 B
 refine S A 1 O fun a A=>aB (aG ?_)
 refine dN (aG ?_)
 refine aA (V A B O (xf A fV O O) fun a A=>?_)
 refine V A B O (xl A aW 1 O O O O) fun a A=>S A 2 O fun a A=>?_
 refine jI [_,_,_,_] (fun a w=>Env 37 [(13,(.bool ((decide (0≤E.a))&&(decide (0≤H.a))))),(2,(Pv b1 0)),(3,(Pv b2 0))] a∧Hp Z ρ (Pt b2 (.cells #[(Iv H.a),(Iv H.b)] 46 (0,0))::Pt b1 (.cells #[(Iv E.a),(Iv E.b)] 46 (0,0))::L) w) ?_ ?_
 ·rcases vA (decide (0≤E.a)) with D|D
  ·
   refine G A B D O (xf A fV O O) fun a A=>G A B D O (xl A aW 0 O O O O) fun a A=>Gs A D O O fun a A=>pk1 A D O O O O fun a A=>?_
   have A:=A.eqv (v':=(.bool ((decide (0≤E.a))&&(decide (0≤H.a))))) (by rw[D];rfl)
   exact aB ⟨A.cut ⟨O,O,O,tv⟩,B⟩
  refine Gk A D O fun a A=>Gk A D O fun a A=>Gk A D O fun a A=>pk0 A D O O O O fun a A=>?_
  have A:=A.eqv (v':=(.bool ((decide (0≤E.a))&&(decide (0≤H.a))))) (by rw[D];rfl)
  exact aB ⟨A.cut ⟨O,O,O,tv⟩,B⟩
 rintro a w ⟨A,B⟩
 refine S A 1 O fun a A=>aB ?_
 refine dK A O (fun K=>?_) (fun K=>?_)
 ·replace F:=(it K).symm.trans F
  refine aG (aA ?_)
  refine V A B O (xf A fV O O) fun a A=>V A B O (xl A aW 1 O O O O) fun a A=>V A B O (xf A fV O O) fun a A=>V A B O (xl A aW 0 O O O O) fun a A=>?_
  obtain⟨U,R,F⟩:=bnd F
  refine Cl A O O ent85 (aA1 E.a H.a B U R) ⟨O,O,tv⟩ fun v a w M A=>?_
  obtain⟨rfl,B⟩:=M
  have B:=r2 B
  refine S A 1 O fun a A=>aB (cZ ?_)
  obtain rfl:=oj F
  exact gY A O O ⟨_,O,O,(((B.get 1 O).drop).drop)⟩
 replace F:=(ie K).symm.trans F
 refine aG (aA ?_)
 refine V A B O (xf A fV O O) fun a A=>V A B O (xl A aW 1 O O O O) fun a A=>S A 2 O fun a A=>?_
 refine jI [_,_,_,_] (fun a w=>Env 37 [(27,(.bool ((decide (E.a<0))&&(decide (H.a<0))))),(2,(Pv b1 0)),(3,(Pv b2 0))] a∧Hp Z ρ (Pt b2 (.cells #[(Iv H.a),(Iv H.b)] 46 (0,0))::Pt b1 (.cells #[(Iv E.a),(Iv E.b)] 46 (0,0))::L) w) ?_ ?_
 ·rcases vA (decide (E.a<0)) with C|C
  ·
   refine G A B C O (xf A fV O O) fun a A=>G A B C O (xl A aW 0 O O O O) fun a A=>Gs A C O O fun a A=>pk1 A C O O O O fun a A=>?_
   have A:=A.eqv (v':=(.bool ((decide (E.a<0))&&(decide (H.a<0))))) (by rw[C];rfl)
   exact aB ⟨A.cut ⟨O,O,O,tv⟩,B⟩
  refine Gk A C O fun a A=>Gk A C O fun a A=>Gk A C O fun a A=>pk0 A C O O O O fun a A=>?_
  have A:=A.eqv (v':=(.bool ((decide (E.a<0))&&(decide (H.a<0))))) (by rw[C];rfl)
  exact aB ⟨A.cut ⟨O,O,O,tv⟩,B⟩
 rintro a w ⟨A,B⟩
 refine S A 1 O fun a A=>aB ?_
 refine dK A O (fun J=>?_) (fun J=>?_)
 ·replace F:=(it J).symm.trans F
  refine aG (aA ?_)
  refine V A B O (xf A eF O O) fun a A=>V A B O (xl A aW 1 O O O O) fun a A=>V A B O (xf A eF O O) fun a A=>V A B O (xl A aW 0 O O O O) fun a A=>?_
  obtain⟨T,Q,F⟩:=bnd F
  refine Cl A O O ent85 (aA1 E.b H.b B T Q) ⟨O,O,tv⟩ fun v a w M A=>?_
  obtain⟨rfl,B⟩:=M
  have B:=r2 B
  refine S A 1 O fun a A=>aB (cZ ?_)
  obtain rfl:=oj F
  exact gY A O O ⟨_,O,O,(((B.get 1 O).drop).drop)⟩
 replace F:=(ie J).symm.trans F
 refine aG (aA ?_)
 refine V A B O (xf A fV O O) fun a A=>V A B O (xl A aW 1 O O O O) fun a A=>S A 2 O fun a A=>aB ?_
 refine dK A O (fun I=>?_) (fun I=>?_)
 ·replace F:=(it I).symm.trans F
  refine aG (aA ?_)
  refine S A 1 O fun a A=>aB (cZ ?_)
  obtain rfl:=oj F
  exact gY A O O ⟨_,O,O,(((B.get 1 O).drop).drop)⟩
 replace F:=(ie I).symm.trans F
 refine bI (aG ?_)
 refine aA (S A 1 O fun a A=>?_)
 refine aB (cZ ?_)
 obtain rfl:=oj F
 exact gY A O O ⟨_,O,O,(((B.get 1 O).drop).drop)⟩
theorem oJ {Z:World} {ρ:PH} {L:List bQ} {w:World} (x:(List Opn)) (vp0:Value) (G:Int) (H:Int) (D:Hp Z ρ (aC 46 vp0 x::L) w) (r:(List Opn)) (U:iF x G H=some r):
  Calls Tryz.prog 112 #[vp0,(Iv G),(Iv H),(.func (.func 84) #[] #[])] w (Ret fun v w'=>v= .tuple #[]∧Hp Z ρ (aC 46 vp0 r::L) w'):=by
 refine enter (N:=53) Tryz.func112 O O [(0,vp0),(1,(Iv G)),(2,(Iv H)),(3,(.func (.func 84) #[] #[]))] O (bH ⟨O,O,O,O,tv⟩) fun a A=>?_
 unfold iF at U
 refine aG (aA ?_)
 refine S A 1 O fun a A=>?_
 obtain⟨x1,t,U⟩:=bnd U
 refine V A D O (bF O A O O (aN t)) fun a A=>S A 1 O fun a A=>aB ?_
 obtain⟨b1,g,U⟩:=bnd U
 refine dM (fun a w=>Env 53 [] a∧Hp Z ρ (aC 46 vp0 b1::L) w) ?_ ?_
 ·refine eQ g (fun s a w=>Env 53 [(0,vp0),(1,(Iv G)),(2,(Iv H)),(3,(.func (.func 84) #[] #[])),(8,(Iv s.1))] a∧Hp Z ρ (aC 46 vp0 s.2::L) w) ?_ ?_
  ·exact⟨A.cut ⟨O,O,O,O,O,tv⟩,D⟩
  rintro⟨aQ,aU⟩ st a w ⟨A,D⟩ F
  dsimp only at A D F
  unfold mW at F
  refine aG (aG ?_)
  refine aA (S A 3 O fun a A=>?_)
  refine aB ?_
  refine dK A O (fun R=>?_) (fun R=>?_)
  ·replace F:=(it R).symm.trans F
   refine bI (aG ?_)
   refine dN (aG ?_)
   refine aA (S A 2 O fun a A=>?_)
   refine aB ?_
   obtain⟨b2,f,F⟩:=bnd F
   refine dM (fun a w=>Env 53 [(0,vp0),(1,(Iv G)),(2,(Iv H)),(3,(.func (.func 84) #[] #[])),(8,(Iv aQ))] a∧Hp Z ρ (aC 46 vp0 b2::L) w) ?_ ?_
   ·refine eQ f (fun s a w=>Env 53 [(0,vp0),(1,(Iv G)),(2,(Iv H)),(3,(.func (.func 84) #[] #[])),(8,(Iv aQ)),(9,(Iv s.1))] a∧Hp Z ρ (aC 46 vp0 s.2::L) w) ?_ ?_
    ·exact⟨A.cut ⟨O,O,O,O,O,O,tv⟩,D⟩
    rintro⟨bP,eP⟩ st a w ⟨A,D⟩ E
    dsimp only at A D E
    unfold mX at E
    refine aG (aG ?_)
    obtain⟨m1,hg1,E⟩:=bnd E
    have D:=D.drew
    refine gK ([([],At0 Z ρ),([],At1 Z ρ (aC 46 vp0 eP))]:Facts) (fun a w=>Env 53 [(0,vp0),(1,(Iv G)),(2,(Iv H)),(3,(.func (.func 84) #[] #[])),(8,(Iv aQ)),(9,(Iv bP)),(34,(.bool m1))] a∧Hp Z ρ (aC 46 vp0 eP::L) w) kr ⟨fun _=>⟨_,D⟩,fun _=>⟨_,(D.get 0 O)⟩,tv⟩ (fun B=>?_) ?_
    ·
     generalize w.drew=w at B D⊢
     refine Ts [0,1,2,3] A B O O kr fun a A B=>?_
     rcases vA (decide (G<bP)) with C|C
     ·
      have hg1:=(it C).symm.trans hg1
      obtain⟨X,p,hg1⟩:=bnd hg1
      obtain⟨x3,o,hg1⟩:=bnd hg1
      obtain⟨W,n,hg1⟩:=bnd hg1
      obtain⟨x5,m,hg1⟩:=bnd hg1
      refine Tg0 4 A C B O O O kr (fun _=>iR O A O) fun a A B=>Tg0 5 A C B O O O kr (fun _=>iR O A O) fun a A B=>Tg0 6 A C B O O O kr (fun _=>iR O A O) fun a A B=>?_
      obtain⟨b5,b5o,b5r,b5v,b5f⟩:=aC.at D 0 O fE p
      refine Tg0 7 A C B O O O kr (fun _=>aO O A O O b5r) fun a A B=>Tg 8 1 A C B O O O kr (fun _=>aK O A O (fun w K=>aX (cs:=[(Iv X.a),(Iv X.b)]) fH (fun j u M=>b5f j u M _ _ w (K.get 0 O)))) fun a A B=>Tg0 9 A C B O O O kr (fun _=>iR O A O) fun a A B=>Tg0 10 A C B O O O kr (fun _=>iR O A O) fun a A B=>Tg0 11 A C B O O O kr (fun _=>dQ O A O O (aN o)) fun a A B=>?_
      obtain⟨b6,b6o,b6r,b6v,b6f⟩:=aC.at D 0 O fE n
      refine Tg0 12 A C B O O O kr (fun _=>aO O A O O b6r) fun a A B=>Tg 13 1 A C B O O O kr (fun _=>aK O A O (fun w K=>aX (cs:=[(Iv W.a),(Iv W.b)]) fH (fun j u M=>b6f j u M _ _ w (K.get 0 O)))) fun a A B=>?_
      refine W1 14 kr O ?_
      refine rZ (wk1 A O O O C) O O A O O [(.agg #[(Iv X.a),(Iv X.b)]),(.agg #[(Iv W.a),(Iv W.b)])] ⟨O,O,tv⟩ ent84 (zC X W D x5 m) Ret.ret ?_
      intro v a w hR A
      obtain⟨rfl,D⟩:=Ret.of hR
      have D:=r1 D
      refine aB (aF ⟨gp0 D,gp 0 D O,tv⟩ fun B=>?_)
      refine Tg0 15 A C B O O O kr (fun _=>aE5 O A O O) fun a A B=>T0 16 A B O O O kr (fun _=>jM O A O C O) fun a A B=>?_
      have A:=A.eqv (v':=(.bool m1)) (congrArg Value.bool (oj hg1))
      exact bT kr ⟨A.cut ⟨O,O,O,O,O,O,O,tv⟩,D⟩
     have hg1:=(ie C).symm.trans hg1
     refine Tk 4 A C B O O O kr fun a A B=>Tk 5 A C B O O O kr fun a A B=>Tk 6 A C B O O O kr fun a A B=>Tk 7 A C B O O O kr fun a A B=>Tk 8 A C B O O O kr fun a A B=>Tk 9 A C B O O O kr fun a A B=>Tk 10 A C B O O O kr fun a A B=>Tk 11 A C B O O O kr fun a A B=>Tk 12 A C B O O O kr fun a A B=>Tk 13 A C B O O O kr fun a A B=>Tk 14 A C B O O O kr fun a A B=>Tk 15 A C B O O O kr fun a A B=>T0 16 A B O O O kr (fun _=>iV O A O C O) fun a A B=>?_
     have A:=A.eqv (v':=(.bool m1)) (congrArg Value.bool (oj hg1))
     exact bT kr ⟨A.cut ⟨O,O,O,O,O,O,O,tv⟩,D⟩
    rintro a w ⟨A,D⟩
    refine dK A O (fun Q=>?_) (fun Q=>?_)
    ·replace E:=(it Q).symm.trans E
     refine bI (aG ?_)
     refine dN ?_
     obtain⟨y,l,E⟩:=bnd E
     obtain⟨x7,k,E⟩:=bnd E
     obtain⟨e,i,E⟩:=bnd E
     obtain⟨d,h,E⟩:=bnd E
     obtain⟨x10,J,E⟩:=bnd E
     obtain⟨x11,I,E⟩:=bnd E
     have D:=D.drew
     refine gK ([([],At0 Z ρ),([15,17],At1 Z ρ (aC 46 vp0 eP))]:Facts) (fun a w=>Env 53 [(0,vp0),(1,(Iv G)),(2,(Iv H)),(3,(.func (.func 84) #[] #[])),(8,(Iv aQ)),(9,(Iv bP))] a∧Hp Z ρ (aC 46 vp0 ((eP.set bP.toNat e).set y.toNat d)::L) w) kr ⟨fun _=>⟨_,D⟩,fun _=>⟨_,(D.get 0 O)⟩,tv⟩ (fun B=>?_) ?_
     ·
      generalize w.drew=w at B D⊢
      refine Ts [0,1,2,3] A B O O kr fun a A B=>T0 4 A B O O O kr (fun _=>dQ O A O O (aN l)) fun a A B=>Ts [5,6] A B O O kr fun a A B=>T0 7 A B O O O kr (fun _=>dQ O A O O (aN k)) fun a A B=>?_
      obtain⟨b11,b11o,b11r,b11v,b11f⟩:=aC.at D 0 O fE i
      refine T0 8 A B O O O kr (fun _=>aO O A O O b11r) fun a A B=>T 9 1 A B O O O kr (fun _=>aK O A O (fun w K=>aX (cs:=[(Iv e.a),(Iv e.b)]) fH (fun j u M=>b11f j u M _ _ w (K.get 0 O)))) fun a A B=>Ts [10,11] A B O O kr fun a A B=>?_
      obtain⟨b12,b12o,b12r,b12v,b12f⟩:=aC.at D 0 O fE h
      refine T0 12 A B O O O kr (fun _=>aO O A O O b12r) fun a A B=>T 13 1 A B O O O kr (fun _=>aK O A O (fun w K=>aX (cs:=[(Iv d.a),(Iv d.b)]) fH (fun j u M=>b12f j u M _ _ w (K.get 0 O)))) fun a A B=>?_
      obtain⟨b13,b13o,b13r,b13v,b13f⟩:=aC.at D 0 O fE J
      refine T0 14 A B O O O kr (fun _=>aO O A O O b13r) fun a A B=>?_
      refine W1 15 kr O ?_
      refine O6 (wk0 O) O A D O O O 0 O J b13v (e':=e) fH.size_ O (fun q z hz=>b13f q z hz _ _ w (D.get 0 O)) ?_
      intro w D
      have D:=r1 D
      refine aB (aF ⟨gp0 D,dead kr,tv⟩ fun B=>?_)
      obtain⟨b14,b14o,b14r,b14v,b14f⟩:=aC.at D 0 O fE I
      refine T0 16 A B O O O kr (fun _=>aO O A O O b14r) fun a A B=>?_
      refine W1 17 kr O ?_
      refine O6 (wk0 O) O A D O O O 0 O I b14v (e':=d) fH.size_ O (fun q z hz=>b14f q z hz _ _ w (D.get 0 O)) ?_
      intro w D
      have D:=r1 D
      refine aB (aF ⟨gp0 D,dead kr,tv⟩ fun B=>?_)
      exact bT kr ⟨A.cut ⟨O,O,O,O,O,O,tv⟩,D⟩
     rintro a w ⟨A,D⟩
     refine aA (S A 1 O fun a A=>?_)
     obtain⟨x12,c,E⟩:=bnd E
     refine V A D O (dQ O A O O (aN c)) fun a A=>S A 1 O fun a A=>aB ?_
     exact⟨_,(oj E).symm,A.cut ⟨O,O,O,O,O,O,tv⟩,D⟩
    replace E:=(ie Q).symm.trans E
    refine dZ ?_
    refine⟨_,(oj E).symm,fun hbb=>?_⟩
    subst hbb
    exact⟨A.cut ⟨O,O,O,O,O,tv⟩,D⟩
   rintro a w ⟨A,D⟩
   refine aA (S A 1 O fun a A=>?_)
   obtain⟨x13,Y,F⟩:=bnd F
   refine V A D O (bF O A O O (aN Y)) fun a A=>S A 1 O fun a A=>aB ?_
   exact⟨_,(oj F).symm,A.cut ⟨O,O,O,O,O,tv⟩,D⟩
  replace F:=(ie R).symm.trans F
  refine dZ ?_
  refine⟨_,(oj F).symm,fun hbb=>?_⟩
  subst hbb
  exact⟨A.cut trivial,D⟩
 rintro a w ⟨A,D⟩
 obtain rfl:=oj U
 exact aD6 A O ⟨_,O,O,D⟩
theorem kN {Z:World} {ρ:PH} {L:List bQ} {w:World} (h:(List Opn)) (vp0:Value) (H:Int) (G:Int) (F:Int) (C:Hp Z ρ (aC 46 vp0 h::L) w) (r:(List Opn)) (Q:gQ h H G F=some r):
  Calls Tryz.prog 123 #[vp0,(Iv H),(Iv G),(Iv F),(.func (.func 84) #[] #[])] w (Ret fun v w'=>v= .tuple #[]∧Hp Z ρ (aC 46 vp0 r::L) w'):=by
 refine enter (N:=38) Tryz.func123 O O [(0,vp0),(1,(Iv H)),(2,(Iv G)),(3,(Iv F)),(4,(.func (.func 84) #[] #[]))] O (bH ⟨O,O,O,O,O,tv⟩) fun a A=>?_
 unfold gQ at Q
 refine aG (aA ?_)
 refine S A 1 O fun a A=>aB ?_
 obtain⟨b1,W,Q⟩:=bnd Q
 refine dM (fun a w=>Env 38 [] a∧Hp Z ρ (aC 46 vp0 b1::L) w) ?_ ?_
 ·refine eQ W (fun s a w=>Env 38 [(0,vp0),(1,(Iv H)),(2,(Iv G)),(3,(Iv F)),(10,(Iv s.1))] a∧Hp Z ρ (aC 46 vp0 s.2::L) w) ?_ ?_
  ·exact⟨A.cut ⟨O,O,O,O,O,tv⟩,C⟩
  rintro⟨aQ,aU⟩ st a w ⟨A,C⟩ B
  dsimp only at A C B
  unfold oV at B
  refine aG (aG ?_)
  refine aA (S A 3 O fun a A=>?_)
  refine aB ?_
  refine dK A O (fun E=>?_) (fun E=>?_)
  ·replace B:=(it E).symm.trans B
   refine bI (aG ?_)
   refine dN ?_
   obtain⟨k,g,B⟩:=bnd B
   obtain⟨i,f,B⟩:=bnd B
   obtain⟨x3,e,B⟩:=bnd B
   obtain⟨M,d,B⟩:=bnd B
   obtain⟨x5,c,B⟩:=bnd B
   obtain⟨K,Y,B⟩:=bnd B
   obtain⟨x7,J,B⟩:=bnd B
   obtain⟨x8,I,B⟩:=bnd B
   have C:=C.drew
   refine gK ([([],At0 Z ρ),([21,23],At1 Z ρ (aC 46 vp0 aU))]:Facts) (fun a w=>Env 38 [(0,vp0),(1,(Iv H)),(2,(Iv G)),(3,(Iv F)),(10,(Iv aQ))] a∧Hp Z ρ (aC 46 vp0 ((aU.set k.toNat M).set i.toNat K)::L) w) kr ⟨fun _=>⟨_,C⟩,fun _=>⟨_,(C.get 0 O)⟩,tv⟩ (fun D=>?_) ?_
   ·
    generalize w.drew=w at D C⊢
    refine Ts [0,1,2] A D O O kr fun a A D=>T0 3 A D O O O kr (fun _=>bF O A O O (aN g)) fun a A D=>Ts [4,5,6] A D O O kr fun a A D=>T0 7 A D O O O kr (fun _=>bF O A O O (aN f)) fun a A D=>Ts [8,9,10] A D O O kr fun a A D=>T0 11 A D O O O kr (fun _=>bF O A O O (aN e)) fun a A D=>?_
    obtain⟨b6,b6o,b6r,b6v,b6f⟩:=aC.at C 0 O fE d
    refine T0 12 A D O O O kr (fun _=>aO O A O O b6r) fun a A D=>T 13 1 A D O O O kr (fun _=>aK O A O (fun w R=>aX (cs:=[(Iv M.a),(Iv M.b)]) fH (fun j u U=>b6f j u U _ _ w (R.get 0 O)))) fun a A D=>Ts [14,15,16] A D O O kr fun a A D=>T0 17 A D O O O kr (fun _=>bF O A O O (aN c)) fun a A D=>?_
    obtain⟨b7,b7o,b7r,b7v,b7f⟩:=aC.at C 0 O fE Y
    refine T0 18 A D O O O kr (fun _=>aO O A O O b7r) fun a A D=>T 19 1 A D O O O kr (fun _=>aK O A O (fun w R=>aX (cs:=[(Iv K.a),(Iv K.b)]) fH (fun j u U=>b7f j u U _ _ w (R.get 0 O)))) fun a A D=>?_
    obtain⟨b8,b8o,b8r,b8v,b8f⟩:=aC.at C 0 O fE J
    refine T0 20 A D O O O kr (fun _=>aO O A O O b8r) fun a A D=>?_
    refine W1 21 kr O ?_
    refine O6 (wk0 O) O A C O O O 0 O J b8v (e':=M) fH.size_ O (fun q z hz=>b8f q z hz _ _ w (C.get 0 O)) ?_
    intro w C
    have C:=r1 C
    refine aB (aF ⟨gp0 C,dead kr,tv⟩ fun D=>?_)
    obtain⟨b9,b9o,b9r,b9v,b9f⟩:=aC.at C 0 O fE I
    refine T0 22 A D O O O kr (fun _=>aO O A O O b9r) fun a A D=>?_
    refine W1 23 kr O ?_
    refine O6 (wk0 O) O A C O O O 0 O I b9v (e':=K) fH.size_ O (fun q z hz=>b9f q z hz _ _ w (C.get 0 O)) ?_
    intro w C
    have C:=r1 C
    refine aB (aF ⟨gp0 C,dead kr,tv⟩ fun D=>?_)
    exact bT kr ⟨A.cut ⟨O,O,O,O,O,tv⟩,C⟩
   rintro a w ⟨A,C⟩
   refine aA (S A 1 O fun a A=>?_)
   obtain⟨x9,X,B⟩:=bnd B
   refine V A C O (bF O A O O (aN X)) fun a A=>S A 1 O fun a A=>aB ?_
   exact⟨_,(oj B).symm,A.cut ⟨O,O,O,O,O,tv⟩,C⟩
  replace B:=(ie E).symm.trans B
  refine dZ ?_
  refine⟨_,(oj B).symm,fun hbb=>?_⟩
  subst hbb
  exact⟨A.cut trivial,C⟩
 rintro a w ⟨A,C⟩
 obtain rfl:=oj Q
 exact aD6 A O ⟨_,O,O,C⟩
theorem zD {Z:World} {ρ:PH} {L:List bQ} {w:World} (h:(List Opn)) (vp0:Value) (T:Int) (E:Int) (R:Int) (C:Hp Z ρ (aC 46 vp0 h::L) w) (r:(List Opn)) (D:mF h T E R=some r):
  Calls Tryz.prog 118 #[vp0,(Iv T),(Iv E),(Iv R),(.func (.func 84) #[] #[])] w (Ret fun v w'=>v= .tuple #[]∧Hp Z ρ (aC 46 vp0 r::L) w'):=by
 refine enter (N:=58) Tryz.func118 O O [(0,vp0),(1,(Iv T)),(2,(Iv E)),(3,(Iv R)),(4,(.func (.func 84) #[] #[]))] O (bH ⟨O,O,O,O,O,tv⟩) fun a A=>?_
 unfold mF at D
 refine aG (aA ?_)
 refine S A 2 O fun a A=>?_
 obtain⟨x1,g,D⟩:=bnd D
 refine V A C O (dQ O A O O (aN g)) fun a A=>S A 1 O fun a A=>aB (aG ?_)
 refine aA (S A 2 O fun a A=>?_)
 obtain⟨x2,f,D⟩:=bnd D
 refine V A C O (dQ O A O O (aN f)) fun a A=>S A 1 O fun a A=>aB (aG ?_)
 obtain⟨b1,U,D⟩:=bnd D
 refine dM (fun a w=>Env 58 [(0,vp0),(2,(Iv E)),(4,(.func (.func 84) #[] #[])),(10,(Iv b1.1))] a∧Hp Z ρ (aC 46 vp0 b1.2::L) w) ?_ ?_
 ·refine eQ U (fun s a w=>Env 58 [(0,vp0),(2,(Iv E)),(4,(.func (.func 84) #[] #[])),(10,(Iv s.1)),(11,(Iv s.2.1))] a∧Hp Z ρ (aC 46 vp0 s.2.2::L) w) ?_ ?_
  ·exact⟨A.cut ⟨O,O,O,O,O,tv⟩,C⟩
  rintro⟨aQ,aU,dS⟩ st a w ⟨A,C⟩ B
  dsimp only at A C B
  unfold qI at B
  refine aG (aG ?_)
  refine aA (S A 3 O fun a A=>?_)
  refine aB ?_
  refine dK A O (fun G=>?_) (fun G=>?_)
  ·replace B:=(it G).symm.trans B
   refine bI (dN ?_)
   refine aG (aA ?_)
   refine S A 3 O fun a A=>aB ?_
   have A:=A.cut (E':=[(0,vp0),(2,(Iv E)),(4,(.func (.func 84) #[] #[])),(10,(Iv aQ)),(11,(Iv aU)),(23,(.bool (decide (aU<aQ))))]) ⟨O,O,O,O,O,O,tv⟩
   refine dK A O (fun F=>?_) (fun F=>?_)
   ·replace B:=(it F).symm.trans B
    refine aG (aA ?_)
    refine S A 3 O fun a A=>?_
    obtain⟨m,e,B⟩:=bnd B
    refine V A C O (dQ O A O O (aN e)) fun a A=>S A 3 O fun a A=>?_
    obtain⟨l,d,B⟩:=bnd B
    refine Cl A O O ent123 (kN dS vp0 m E aU C l d) ⟨O,O,O,O,O,tv⟩ fun v a w H A=>?_
    obtain⟨rfl,C⟩:=H
    have C:=r1 C
    refine aB (aA ?_)
    refine S A 2 O fun a A=>?_
    obtain⟨x5,c,B⟩:=bnd B
    refine V A C O (dQ O A O O (aN c)) fun a A=>S A 1 O fun a A=>aB ?_
    exact⟨_,(oj B).symm,A.cut ⟨O,O,O,O,O,tv⟩,C⟩
   replace B:=(ie F).symm.trans B
   refine aG (aA ?_)
   refine S A 3 O fun a A=>?_
   obtain⟨k,b,B⟩:=bnd B
   refine V A C O (dQ O A O O (aN b)) fun a A=>S A 2 O fun a A=>?_
   obtain⟨x7,Y,B⟩:=bnd B
   refine V A C O (bF O A O O (aN Y)) fun a A=>S A 1 O fun a A=>?_
   obtain⟨j,X,B⟩:=bnd B
   refine V A C O (dQ O A O O (aN X)) fun a A=>S A 2 O fun a A=>?_
   obtain⟨i,W,B⟩:=bnd B
   refine Cl A O O ent123 (kN dS vp0 k j aQ C i W) ⟨O,O,O,O,O,tv⟩ fun v a w H A=>?_
   obtain⟨rfl,C⟩:=H
   have C:=r1 C
   refine aB ?_
   have A:=A.cut (E':=[(0,vp0),(2,(Iv E)),(4,(.func (.func 84) #[] #[])),(10,(Iv aQ)),(11,(Iv aU))]) ⟨O,O,O,O,O,tv⟩
   refine aA (S A 2 O fun a A=>?_)
   obtain⟨n,K,B⟩:=bnd B
   refine V A C O (dQ O A O O (aN K)) fun a A=>S A 1 O fun a A=>aB ?_
   exact⟨_,(oj B).symm,A.cut ⟨O,O,O,O,O,tv⟩,C⟩
  replace B:=(ie G).symm.trans B
  refine dZ ?_
  refine⟨_,(oj B).symm,fun hbb=>?_⟩
  subst hbb
  exact⟨A.cut ⟨O,O,O,O,tv⟩,C⟩
 rintro a w ⟨A,C⟩
 refine aA (S A 3 O fun a A=>?_)
 obtain⟨Q,J,D⟩:=bnd D
 refine V A C O (dQ O A O O (aN J)) fun a A=>S A 3 O fun a A=>?_
 obtain⟨M,I,D⟩:=bnd D
 refine Cl A O O ent123 (kN b1.2 vp0 Q E b1.1 C M I) ⟨O,O,O,O,O,tv⟩ fun v a w H A=>?_
 obtain⟨rfl,C⟩:=H
 have C:=r1 C
 refine aB ?_
 obtain rfl:=oj D
 exact aD6 A O ⟨_,O,O,C⟩
theorem vK (self:(List Opn)→Int→Int→Int→Option (List Opn)) (hself:∀{Z:World} {ρ:PH} {L:List bQ} {w:World} (U:(List Opn)) (vp0:Value) (Q:Int) (M:Int) (R:Int) (B:Hp Z ρ (aC 46 vp0 U::L) w) (r:(List Opn)) (G:self U Q M R=some r),Calls Tryz.prog 113 #[vp0,(Iv Q),(Iv M),(Iv R),(.func (.func 84) #[] #[])] w (Ret fun v w'=>v= .tuple #[]∧Hp Z ρ (aC 46 vp0 r::L) w')) {Z:World} {ρ:PH} {L:List bQ} {w:World} (U:(List Opn)) (vp0:Value) (Q:Int) (M:Int) (R:Int) (B:Hp Z ρ (aC 46 vp0 U::L) w) (r:(List Opn)) (G:jH self U Q M R=some r):
  Calls Tryz.prog 113 #[vp0,(Iv Q),(Iv M),(Iv R),(.func (.func 84) #[] #[])] w (Ret fun v w'=>v= .tuple #[]∧Hp Z ρ (aC 46 vp0 r::L) w'):=by
 refine enter (N:=220) Tryz.func113 O O [(0,vp0),(1,(Iv Q)),(2,(Iv M)),(3,(Iv R)),(4,(.func (.func 84) #[] #[]))] O (bH ⟨O,O,O,O,O,tv⟩) fun a A=>?_
 unfold jH at G
 refine aG (aG ?_)
 refine aA (S A 2 O fun a A=>?_)
 obtain⟨x1,ex1,G⟩:=bnd G
 refine V A B O (dQ O A O O (aN ex1)) fun a A=>S A 1 O fun a A=>aB ?_
 refine dK A O (fun hc1=>?_) (fun hc1=>?_)
 ·replace G:=(it hc1).symm.trans G
  refine aG (aA ?_)
  refine S A 2 O fun a A=>aB (aG ?_)
  refine aA (S A 2 O fun a A=>?_)
  refine aB (aG ?_)
  obtain⟨b1,hc2,G⟩:=bnd G
  refine dM (fun a w=>Env 220 [(0,vp0),(1,(Iv Q)),(10,(Iv b1))] a∧Hp Z ρ (aC 46 vp0 U::L) w) ?_ ?_
  ·refine eQ hc2 (fun s a w=>Env 220 [(0,vp0),(1,(Iv Q)),(4,(.func (.func 84) #[] #[])),(10,(Iv s.1)),(11,(Iv s.2))] a∧Hp Z ρ (aC 46 vp0 U::L) w) ?_ ?_
   ·exact⟨A.cut ⟨O,O,O,O,O,tv⟩,B⟩
   rintro⟨aQ,aU⟩ st a w ⟨A,B⟩ F
   dsimp only at A B F
   unfold mY at F
   refine aG (aG ?_)
   refine aA (S A 3 O fun a A=>?_)
   refine aB ?_
   refine dK A O (fun hc3=>?_) (fun hc3=>?_)
   ·replace F:=(it hc3).symm.trans F
    refine bI (dN ?_)
    refine aG (aA ?_)
    refine S A 2 O fun a A=>?_
    obtain⟨x2,ex2,F⟩:=bnd F
    refine V A B O (bF O A O O (aN ex2)) fun a A=>V A B O (v:=(.int .u64 (IntKind.wrap .u64 x2))) (G5 O A O (fun w _=>by simp[convert,Conv.intToInt,go_sem])) fun a A=>?_
    obtain⟨x3,ex3,F⟩:=bnd F
    refine V A B O (v:=(.int .u64 x3)) (aI0 O A O O ex3) fun a A=>?_
    obtain⟨x4,ex4,F⟩:=bnd F
    refine V A B O (v:=(Iv x4)) (G5 O A O (fun w _=>by rw[←aN ex4];simp[convert,Conv.intToInt,go_sem])) fun a A=>S A 1 O fun a A=>aB (aG ?_)
    obtain⟨x5,ex5,F⟩:=bnd F
    obtain⟨x6,ex6,F⟩:=bnd F
    obtain⟨x7,ex7,F⟩:=bnd F
    have B:=B.drew
    refine gK ([([],At0 Z ρ),([],At1 Z ρ (aC 46 vp0 U))]:Facts) (fun a w=>Env 220 [(0,vp0),(1,(Iv Q)),(4,(.func (.func 84) #[] #[])),(10,(Iv aQ)),(11,(Iv aU)),(12,(Iv x4)),(50,(.bool (decide (x7<0))))] a∧Hp Z ρ (aC 46 vp0 U::L) w) kr ⟨fun _=>⟨_,B⟩,fun _=>⟨_,(B.get 0 O)⟩,tv⟩ (fun C=>?_) ?_
    ·
     generalize w.drew=w at C B⊢
     refine Ts [0,1,2] A C O O kr fun a A C=>?_
     obtain⟨b4,b4o,b4r,b4v,b4f⟩:=aC.at B 0 O fE ex5
     refine T0 3 A C O O O kr (fun _=>aO O A O O b4r) fun a A C=>T 4 1 A C O O O kr (fun _=>aK O A O (fun w W=>aX (cs:=[(Iv x5.a),(Iv x5.b)]) fH (fun j u X=>b4f j u X _ _ w (W.get 0 O)))) fun a A C=>Ts [5,6] A C O O kr fun a A C=>?_
     obtain⟨b5,b5o,b5r,b5v,b5f⟩:=aC.at B 0 O fE ex6
     refine T0 7 A C O O O kr (fun _=>aO O A O O b5r) fun a A C=>T 8 1 A C O O O kr (fun _=>aK O A O (fun w W=>aX (cs:=[(Iv x6.a),(Iv x6.b)]) fH (fun j u X=>b5f j u X _ _ w (W.get 0 O)))) fun a A C=>?_
     refine W1 9 kr O ?_
     refine rZ (wk0 O) O O A O O [(.agg #[(Iv x5.a),(Iv x5.b)]),(.agg #[(Iv x6.a),(Iv x6.b)])] ⟨O,O,tv⟩ ent84 (zC x5 x6 B x7 ex7) Ret.ret ?_
     intro v a w g A
     obtain⟨rfl,B⟩:=Ret.of g
     have B:=r1 B
     refine aB (aF ⟨gp0 B,gp 0 B O,tv⟩ fun C=>?_)
     refine Ts [10] A C O O kr fun a A C=>?_
     exact bT kr ⟨A.cut ⟨O,O,O,O,O,O,O,tv⟩,B⟩
    rintro a w ⟨A,B⟩
    refine dK A O (fun hc4=>?_) (fun hc4=>?_)
    ·replace F:=(it hc4).symm.trans F
     refine aA (S A 1 O fun a A=>?_)
     obtain⟨x8,ex8,F⟩:=bnd F
     refine V A B O (bF O A O O (aN ex8)) fun a A=>S A 1 O fun a A=>aB ?_
     exact⟨_,(oj F).symm,A.cut ⟨O,O,O,O,O,tv⟩,B⟩
    replace F:=(ie hc4).symm.trans F
    refine aA (S A 2 O fun a A=>?_)
    refine aB ?_
    exact⟨_,(oj F).symm,A.cut ⟨O,O,O,O,O,tv⟩,B⟩
   replace F:=(ie hc3).symm.trans F
   refine dZ ?_
   refine⟨_,(oj F).symm,fun hbb=>?_⟩
   subst hbb
   exact⟨A.cut ⟨O,O,O,tv⟩,B⟩
  rintro a w ⟨A,B⟩
  refine aG (aG ?_)
  refine aA (S A 2 O fun a A=>?_)
  refine aB ?_
  obtain⟨b6,hc5,G⟩:=bnd G
  refine dM (fun a w=>Env 220 [] a∧Hp Z ρ (aC 46 vp0 b6::L) w) ?_ ?_
  ·refine eQ hc5 (fun s a w=>Env 220 [(0,vp0),(10,(Iv b1)),(13,(Iv s.1))] a∧Hp Z ρ (aC 46 vp0 s.2::L) w) ?_ ?_
   ·exact⟨A.cut ⟨O,O,O,tv⟩,B⟩
   rintro⟨bP,eP⟩ st a w ⟨A,B⟩ H
   dsimp only at A B H
   unfold mZ at H
   refine aG (aG ?_)
   refine aA (S A 2 O fun a A=>?_)
   obtain⟨x9,ex9,H⟩:=bnd H
   refine V A B O (dQ O A O O (aN ex9)) fun a A=>S A 1 O fun a A=>aB ?_
   refine dK A O (fun hc6=>?_) (fun hc6=>?_)
   ·replace H:=(it hc6).symm.trans H
    refine bI (aG ?_)
    refine dN ?_
    obtain⟨x10,ex10,H⟩:=bnd H
    obtain⟨x11,ex11,H⟩:=bnd H
    obtain⟨m,ex12,H⟩:=bnd H
    obtain⟨l,ex13,H⟩:=bnd H
    obtain⟨x14,t,H⟩:=bnd H
    obtain⟨x15,p,H⟩:=bnd H
    have B:=B.drew
    refine gK ([([],At0 Z ρ),([15,17],At1 Z ρ (aC 46 vp0 eP))]:Facts) (fun a w=>Env 220 [(0,vp0),(10,(Iv b1)),(13,(Iv bP))] a∧Hp Z ρ (aC 46 vp0 ((eP.set bP.toNat m).set x10.toNat l)::L) w) kr ⟨fun _=>⟨_,B⟩,fun _=>⟨_,(B.get 0 O)⟩,tv⟩ (fun C=>?_) ?_
    ·
     generalize w.drew=w at C B⊢
     refine Ts [0,1,2,3] A C O O kr fun a A C=>T0 4 A C O O O kr (fun _=>bF O A O O (aN ex10)) fun a A C=>Ts [5,6] A C O O kr fun a A C=>T0 7 A C O O O kr (fun _=>bF O A O O (aN ex11)) fun a A C=>?_
     obtain⟨b11,b11o,b11r,b11v,b11f⟩:=aC.at B 0 O fE ex12
     refine T0 8 A C O O O kr (fun _=>aO O A O O b11r) fun a A C=>T 9 1 A C O O O kr (fun _=>aK O A O (fun w W=>aX (cs:=[(Iv m.a),(Iv m.b)]) fH (fun j u X=>b11f j u X _ _ w (W.get 0 O)))) fun a A C=>Ts [10,11] A C O O kr fun a A C=>?_
     obtain⟨b12,b12o,b12r,b12v,b12f⟩:=aC.at B 0 O fE ex13
     refine T0 12 A C O O O kr (fun _=>aO O A O O b12r) fun a A C=>T 13 1 A C O O O kr (fun _=>aK O A O (fun w W=>aX (cs:=[(Iv l.a),(Iv l.b)]) fH (fun j u X=>b12f j u X _ _ w (W.get 0 O)))) fun a A C=>?_
     obtain⟨b13,b13o,b13r,b13v,b13f⟩:=aC.at B 0 O fE t
     refine T0 14 A C O O O kr (fun _=>aO O A O O b13r) fun a A C=>?_
     refine W1 15 kr O ?_
     refine O6 (wk0 O) O A B O O O 0 O t b13v (e':=m) fH.size_ O (fun q z hz=>b13f q z hz _ _ w (B.get 0 O)) ?_
     intro w B
     have B:=r1 B
     refine aB (aF ⟨gp0 B,dead kr,tv⟩ fun C=>?_)
     obtain⟨b14,b14o,b14r,b14v,b14f⟩:=aC.at B 0 O fE p
     refine T0 16 A C O O O kr (fun _=>aO O A O O b14r) fun a A C=>?_
     refine W1 17 kr O ?_
     refine O6 (wk0 O) O A B O O O 0 O p b14v (e':=l) fH.size_ O (fun q z hz=>b14f q z hz _ _ w (B.get 0 O)) ?_
     intro w B
     have B:=r1 B
     refine aB (aF ⟨gp0 B,dead kr,tv⟩ fun C=>?_)
     exact bT kr ⟨A.cut ⟨O,O,O,tv⟩,B⟩
    rintro a w ⟨A,B⟩
    refine aA (S A 1 O fun a A=>?_)
    obtain⟨x16,ex16,H⟩:=bnd H
    refine V A B O (bF O A O O (aN ex16)) fun a A=>S A 1 O fun a A=>aB ?_
    exact⟨_,(oj H).symm,A.cut ⟨O,O,O,tv⟩,B⟩
   replace H:=(ie hc6).symm.trans H
   refine dZ ?_
   refine⟨_,(oj H).symm,fun hbb=>?_⟩
   subst hbb
   exact⟨A.cut trivial,B⟩
  rintro a w ⟨A,B⟩
  refine cZ ?_
  obtain rfl:=oj G
  exact ret0 A O ⟨_,O,O,B⟩
 replace G:=(ie hc1).symm.trans G
 refine bI (aG ?_)
 refine aG (aA ?_)
 refine S A 2 O fun a A=>?_
 obtain⟨x17,ex17,G⟩:=bnd G
 refine V A B O (dQ O A O O (aN ex17)) fun a A=>S A 1 O fun a A=>aB ?_
 refine dK A O (fun hc7=>?_) (fun hc7=>?_)
 ·replace G:=(it hc7).symm.trans G
  refine aG (aA ?_)
  refine S A 2 O fun a A=>aB (aG ?_)
  refine aA (S A 2 O fun a A=>?_)
  refine aB (aG ?_)
  obtain⟨b15,hc8,G⟩:=bnd G
  refine dM (fun a w=>Env 220 [(0,vp0),(2,(Iv M)),(14,(Iv b15))] a∧Hp Z ρ (aC 46 vp0 U::L) w) ?_ ?_
  ·refine eQ hc8 (fun s a w=>Env 220 [(0,vp0),(2,(Iv M)),(4,(.func (.func 84) #[] #[])),(14,(Iv s.1)),(15,(Iv s.2))] a∧Hp Z ρ (aC 46 vp0 U::L) w) ?_ ?_
   ·exact⟨A.cut ⟨O,O,O,O,O,tv⟩,B⟩
   rintro⟨dR,vH⟩ st a w ⟨A,B⟩ E
   dsimp only at A B E
   unfold nC at E
   refine aG (aG ?_)
   refine aA (S A 3 O fun a A=>?_)
   refine aB ?_
   refine dK A O (fun y=>?_) (fun y=>?_)
   ·replace E:=(it y).symm.trans E
    refine bI (dN ?_)
    refine aG (aA ?_)
    refine S A 2 O fun a A=>?_
    obtain⟨x18,ex18,E⟩:=bnd E
    refine V A B O (bF O A O O (aN ex18)) fun a A=>V A B O (v:=(.int .u64 (IntKind.wrap .u64 x18))) (G5 O A O (fun w _=>by simp[convert,Conv.intToInt,go_sem])) fun a A=>?_
    obtain⟨x19,ex19,E⟩:=bnd E
    refine V A B O (v:=(.int .u64 x19)) (aI0 O A O O ex19) fun a A=>?_
    obtain⟨x20,ex20,E⟩:=bnd E
    refine V A B O (v:=(Iv x20)) (G5 O A O (fun w _=>by rw[←aN ex20];simp[convert,Conv.intToInt,go_sem])) fun a A=>S A 1 O fun a A=>aB (aG ?_)
    obtain⟨f,ex21,E⟩:=bnd E
    obtain⟨e,ex22,E⟩:=bnd E
    obtain⟨x23,ex23,E⟩:=bnd E
    have B:=B.drew
    refine gK ([([],At0 Z ρ),([],At1 Z ρ (aC 46 vp0 U))]:Facts) (fun a w=>Env 220 [(0,vp0),(2,(Iv M)),(4,(.func (.func 84) #[] #[])),(14,(Iv dR)),(15,(Iv vH)),(16,(Iv x20)),(103,(.bool (!(decide (x23<0)))))] a∧Hp Z ρ (aC 46 vp0 U::L) w) kr ⟨fun _=>⟨_,B⟩,fun _=>⟨_,(B.get 0 O)⟩,tv⟩ (fun C=>?_) ?_
    ·
     generalize w.drew=w at C B⊢
     refine Ts [0,1,2] A C O O kr fun a A C=>?_
     obtain⟨b18,b18o,b18r,b18v,b18f⟩:=aC.at B 0 O fE ex21
     refine T0 3 A C O O O kr (fun _=>aO O A O O b18r) fun a A C=>T 4 1 A C O O O kr (fun _=>aK O A O (fun w W=>aX (cs:=[(Iv f.a),(Iv f.b)]) fH (fun j u X=>b18f j u X _ _ w (W.get 0 O)))) fun a A C=>Ts [5,6] A C O O kr fun a A C=>?_
     obtain⟨b19,b19o,b19r,b19v,b19f⟩:=aC.at B 0 O fE ex22
     refine T0 7 A C O O O kr (fun _=>aO O A O O b19r) fun a A C=>T 8 1 A C O O O kr (fun _=>aK O A O (fun w W=>aX (cs:=[(Iv e.a),(Iv e.b)]) fH (fun j u X=>b19f j u X _ _ w (W.get 0 O)))) fun a A C=>?_
     refine W1 9 kr O ?_
     refine rZ (wk0 O) O O A O O [(.agg #[(Iv f.a),(Iv f.b)]),(.agg #[(Iv e.a),(Iv e.b)])] ⟨O,O,tv⟩ ent84 (zC f e B x23 ex23) Ret.ret ?_
     intro v a w g A
     obtain⟨rfl,B⟩:=Ret.of g
     have B:=r1 B
     refine aB (aF ⟨gp0 B,gp 0 B O,tv⟩ fun C=>?_)
     refine Ts [10,11] A C O O kr fun a A C=>?_
     exact bT kr ⟨A.cut ⟨O,O,O,O,O,O,O,tv⟩,B⟩
    rintro a w ⟨A,B⟩
    refine dK A O (fun hc10=>?_) (fun hc10=>?_)
    ·replace E:=(it hc10).symm.trans E
     refine aA (S A 1 O fun a A=>?_)
     obtain⟨x24,ex24,E⟩:=bnd E
     refine V A B O (bF O A O O (aN ex24)) fun a A=>S A 1 O fun a A=>aB ?_
     exact⟨_,(oj E).symm,A.cut ⟨O,O,O,O,O,tv⟩,B⟩
    replace E:=(ie hc10).symm.trans E
    refine aA (S A 2 O fun a A=>?_)
    refine aB ?_
    exact⟨_,(oj E).symm,A.cut ⟨O,O,O,O,O,tv⟩,B⟩
   replace E:=(ie y).symm.trans E
   refine dZ ?_
   refine⟨_,(oj E).symm,fun hbb=>?_⟩
   subst hbb
   exact⟨A.cut ⟨O,O,O,tv⟩,B⟩
  rintro a w ⟨A,B⟩
  refine aG (aG ?_)
  refine aA (S A 2 O fun a A=>?_)
  refine aB ?_
  obtain⟨b20,hc11,G⟩:=bnd G
  refine dM (fun a w=>Env 220 [] a∧Hp Z ρ (aC 46 vp0 b20::L) w) ?_ ?_
  ·refine eQ hc11 (fun s a w=>Env 220 [(0,vp0),(14,(Iv b15)),(17,(Iv s.1))] a∧Hp Z ρ (aC 46 vp0 s.2::L) w) ?_ ?_
   ·exact⟨A.cut ⟨O,O,O,tv⟩,B⟩
   rintro⟨fZ,jK⟩ st a w ⟨A,B⟩ I
   dsimp only at A B I
   unfold nD at I
   refine aG (aG ?_)
   refine aA (S A 3 O fun a A=>?_)
   refine aB ?_
   refine dK A O (fun hc12=>?_) (fun hc12=>?_)
   ·replace I:=(it hc12).symm.trans I
    refine bI (aG ?_)
    refine dN ?_
    obtain⟨x25,ex25,I⟩:=bnd I
    obtain⟨x26,ex26,I⟩:=bnd I
    obtain⟨k,ex27,I⟩:=bnd I
    obtain⟨i,ex28,I⟩:=bnd I
    obtain⟨x29,o,I⟩:=bnd I
    obtain⟨x30,n,I⟩:=bnd I
    have B:=B.drew
    refine gK ([([],At0 Z ρ),([15,17],At1 Z ρ (aC 46 vp0 jK))]:Facts) (fun a w=>Env 220 [(0,vp0),(14,(Iv b15)),(17,(Iv fZ))] a∧Hp Z ρ (aC 46 vp0 ((jK.set fZ.toNat k).set x25.toNat i)::L) w) kr ⟨fun _=>⟨_,B⟩,fun _=>⟨_,(B.get 0 O)⟩,tv⟩ (fun C=>?_) ?_
    ·
     generalize w.drew=w at C B⊢
     refine Ts [0,1,2,3] A C O O kr fun a A C=>T0 4 A C O O O kr (fun _=>dQ O A O O (aN ex25)) fun a A C=>Ts [5,6] A C O O kr fun a A C=>T0 7 A C O O O kr (fun _=>dQ O A O O (aN ex26)) fun a A C=>?_
     obtain⟨b25,b25o,b25r,b25v,b25f⟩:=aC.at B 0 O fE ex27
     refine T0 8 A C O O O kr (fun _=>aO O A O O b25r) fun a A C=>T 9 1 A C O O O kr (fun _=>aK O A O (fun w W=>aX (cs:=[(Iv k.a),(Iv k.b)]) fH (fun j u X=>b25f j u X _ _ w (W.get 0 O)))) fun a A C=>Ts [10,11] A C O O kr fun a A C=>?_
     obtain⟨b26,b26o,b26r,b26v,b26f⟩:=aC.at B 0 O fE ex28
     refine T0 12 A C O O O kr (fun _=>aO O A O O b26r) fun a A C=>T 13 1 A C O O O kr (fun _=>aK O A O (fun w W=>aX (cs:=[(Iv i.a),(Iv i.b)]) fH (fun j u X=>b26f j u X _ _ w (W.get 0 O)))) fun a A C=>?_
     obtain⟨b27,b27o,b27r,b27v,b27f⟩:=aC.at B 0 O fE o
     refine T0 14 A C O O O kr (fun _=>aO O A O O b27r) fun a A C=>?_
     refine W1 15 kr O ?_
     refine O6 (wk0 O) O A B O O O 0 O o b27v (e':=k) fH.size_ O (fun q z hz=>b27f q z hz _ _ w (B.get 0 O)) ?_
     intro w B
     have B:=r1 B
     refine aB (aF ⟨gp0 B,dead kr,tv⟩ fun C=>?_)
     obtain⟨b28,b28o,b28r,b28v,b28f⟩:=aC.at B 0 O fE n
     refine T0 16 A C O O O kr (fun _=>aO O A O O b28r) fun a A C=>?_
     refine W1 17 kr O ?_
     refine O6 (wk0 O) O A B O O O 0 O n b28v (e':=i) fH.size_ O (fun q z hz=>b28f q z hz _ _ w (B.get 0 O)) ?_
     intro w B
     have B:=r1 B
     refine aB (aF ⟨gp0 B,dead kr,tv⟩ fun C=>?_)
     exact bT kr ⟨A.cut ⟨O,O,O,tv⟩,B⟩
    rintro a w ⟨A,B⟩
    refine aA (S A 1 O fun a A=>?_)
    obtain⟨x31,ex31,I⟩:=bnd I
    refine V A B O (dQ O A O O (aN ex31)) fun a A=>S A 1 O fun a A=>aB ?_
    exact⟨_,(oj I).symm,A.cut ⟨O,O,O,tv⟩,B⟩
   replace I:=(ie hc12).symm.trans I
   refine dZ ?_
   refine⟨_,(oj I).symm,fun hbb=>?_⟩
   subst hbb
   exact⟨A.cut trivial,B⟩
  rintro a w ⟨A,B⟩
  refine cZ ?_
  obtain rfl:=oj G
  exact ret0 A O ⟨_,O,O,B⟩
 replace G:=(ie hc7).symm.trans G
 refine bI (aG ?_)
 refine aA (S A 2 O fun a A=>?_)
 obtain⟨x32,ex32,G⟩:=bnd G
 refine V A B O (bF O A O O (aN ex32)) fun a A=>V A B O (v:=(.int .u64 (IntKind.wrap .u64 x32))) (G5 O A O (fun w _=>by simp[convert,Conv.intToInt,go_sem])) fun a A=>?_
 obtain⟨x33,ex33,G⟩:=bnd G
 refine V A B O (v:=(.int .u64 x33)) (aI0 O A O O ex33) fun a A=>?_
 obtain⟨J,ex34,G⟩:=bnd G
 refine V A B O (v:=(Iv J)) (G5 O A O (fun w _=>by rw[←aN ex34];simp[convert,Conv.intToInt,go_sem])) fun a A=>S A 1 O fun a A=>aB (aG ?_)
 refine aA (S A 2 O fun a A=>?_)
 obtain⟨Y,ex35,G⟩:=bnd G
 refine V A B O (bF O A O O (aN ex35)) fun a A=>S A 1 O fun a A=>aB (aG ?_)
 refine aA (S A 2 O fun a A=>?_)
 refine aB (aG ?_)
 refine aG (aA ?_)
 refine S A 3 O fun a A=>aB ?_
 obtain⟨j1,hj1,G⟩:=bnd G
 refine aJ9 (fun a w=>Env 220 [(0,vp0),(1,(Iv Q)),(2,(Iv M)),(3,(Iv R)),(4,(.func (.func 84) #[] #[])),(18,(Iv J)),(19,(Iv Y)),(20,(Iv j1.1)),(21,(Iv j1.2))] a∧Hp Z ρ (aC 46 vp0 U::L) w) ?_ ?_
 ·
  refine dK A O (fun hc13=>?_) (fun hc13=>?_)
  ·replace hj1:=(it hc13).symm.trans hj1
   refine aG (aA ?_)
   refine S A 2 O fun a A=>?_
   obtain⟨x36,ex36,hj1⟩:=bnd hj1
   refine V A B O (dQ O A O O (aN ex36)) fun a A=>S A 1 O fun a A=>aB (aA ?_)
   refine S A 2 O fun a A=>aB ?_
   obtain rfl:=oj hj1
   exact⟨A.cut ⟨O,O,O,O,O,O,O,O,O,tv⟩,B⟩
  replace hj1:=(ie hc13).symm.trans hj1
  refine aG (aA ?_)
  refine S A 2 O fun a A=>aB (aA ?_)
  refine S A 2 O fun a A=>aB ?_
  obtain rfl:=oj hj1
  exact⟨A.cut ⟨O,O,O,O,O,O,O,O,O,tv⟩,B⟩
 rintro a w ⟨A,B⟩
 refine aG (aA ?_)
 refine S A 1 O fun a A=>?_
 obtain⟨h,ex37,G⟩:=bnd G
 refine V A B O (dQ O A O O (aN ex37)) fun a A=>S A 1 O fun a A=>aB ?_
 have A:=A.cut (E':=[(0,vp0),(1,(Iv Q)),(2,(Iv M)),(3,(Iv R)),(4,(.func (.func 84) #[] #[])),(18,(Iv J)),(19,(Iv Y)),(20,(Iv j1.1)),(21,(Iv j1.2)),(22,(Iv h))]) ⟨O,O,O,O,O,O,O,O,O,O,tv⟩
 refine aG ?_
 obtain⟨b29,hc14,G⟩:=bnd G
 refine dM (fun a w=>Env 220 [(0,vp0),(1,(Iv Q)),(2,(Iv M)),(3,(Iv R)),(4,(.func (.func 84) #[] #[])),(18,(Iv J)),(19,(Iv Y)),(20,(Iv b29))] a∧Hp Z ρ (aC 46 vp0 U::L) w) ?_ ?_
 ·refine eQ hc14 (fun s a w=>Env 220 [(0,vp0),(1,(Iv Q)),(2,(Iv M)),(3,(Iv R)),(4,(.func (.func 84) #[] #[])),(18,(Iv J)),(19,(Iv Y)),(20,(Iv s.1)),(21,(Iv s.2)),(22,(Iv h))] a∧Hp Z ρ (aC 46 vp0 U::L) w) ?_ ?_
  ·exact⟨A.cut ⟨O,O,O,O,O,O,O,O,O,O,tv⟩,B⟩
  rintro⟨lp5_0,lp5_1⟩ st a w ⟨A,B⟩ D
  dsimp only at A B D
  unfold nG at D
  refine aG (aG ?_)
  refine aA (S A 3 O fun a A=>?_)
  refine aB ?_
  refine dK A O (fun hc15=>?_) (fun hc15=>?_)
  ·replace D:=(it hc15).symm.trans D
   refine bI (dN ?_)
   refine aG (aA ?_)
   refine S A 2 O fun a A=>?_
   obtain⟨x38,ex38,D⟩:=bnd D
   refine V A B O (bF O A O O (aN ex38)) fun a A=>V A B O (v:=(.int .u64 (IntKind.wrap .u64 x38))) (G5 O A O (fun w _=>by simp[convert,Conv.intToInt,go_sem])) fun a A=>?_
   obtain⟨x39,ex39,D⟩:=bnd D
   refine V A B O (v:=(.int .u64 x39)) (aI0 O A O O ex39) fun a A=>?_
   obtain⟨x,ex40,D⟩:=bnd D
   refine V A B O (v:=(Iv x)) (G5 O A O (fun w _=>by rw[←aN ex40];simp[convert,Conv.intToInt,go_sem])) fun a A=>S A 1 O fun a A=>aB ?_
   have A:=A.cut (E':=[(0,vp0),(1,(Iv Q)),(2,(Iv M)),(3,(Iv R)),(4,(.func (.func 84) #[] #[])),(18,(Iv J)),(19,(Iv Y)),(20,(Iv lp5_0)),(21,(Iv lp5_1)),(22,(Iv h)),(23,(Iv x))]) ⟨O,O,O,O,O,O,O,O,O,O,O,tv⟩
   refine aG ?_
   obtain⟨x41,ex41,D⟩:=bnd D
   obtain⟨d,ex42,D⟩:=bnd D
   obtain⟨c,ex43,D⟩:=bnd D
   obtain⟨x44,ex44,D⟩:=bnd D
   have B:=B.drew
   refine gK ([([],At0 Z ρ),([],At1 Z ρ (aC 46 vp0 U))]:Facts) (fun a w=>Env 220 [(0,vp0),(1,(Iv Q)),(2,(Iv M)),(3,(Iv R)),(4,(.func (.func 84) #[] #[])),(18,(Iv J)),(19,(Iv Y)),(20,(Iv lp5_0)),(21,(Iv lp5_1)),(22,(Iv h)),(23,(Iv x)),(171,(.bool (!(decide (x44<0)))))] a∧Hp Z ρ (aC 46 vp0 U::L) w) kr ⟨fun _=>⟨_,B⟩,fun _=>⟨_,(B.get 0 O)⟩,tv⟩ (fun C=>?_) ?_
   ·
    generalize w.drew=w at C B⊢
    refine Ts [0,1,2,3] A C O O kr fun a A C=>T0 4 A C O O O kr (fun _=>dQ O A O O (aN ex41)) fun a A C=>?_
    obtain⟨b32,b32o,b32r,b32v,b32f⟩:=aC.at B 0 O fE ex42
    refine T0 5 A C O O O kr (fun _=>aO O A O O b32r) fun a A C=>T 6 1 A C O O O kr (fun _=>aK O A O (fun w W=>aX (cs:=[(Iv d.a),(Iv d.b)]) fH (fun j u X=>b32f j u X _ _ w (W.get 0 O)))) fun a A C=>Ts [7,8] A C O O kr fun a A C=>?_
    obtain⟨b33,b33o,b33r,b33v,b33f⟩:=aC.at B 0 O fE ex43
    refine T0 9 A C O O O kr (fun _=>aO O A O O b33r) fun a A C=>T 10 1 A C O O O kr (fun _=>aK O A O (fun w W=>aX (cs:=[(Iv c.a),(Iv c.b)]) fH (fun j u X=>b33f j u X _ _ w (W.get 0 O)))) fun a A C=>?_
    refine W1 11 kr O ?_
    refine rZ (wk0 O) O O A O O [(.agg #[(Iv d.a),(Iv d.b)]),(.agg #[(Iv c.a),(Iv c.b)])] ⟨O,O,tv⟩ ent84 (zC d c B x44 ex44) Ret.ret ?_
    intro v a w g A
    obtain⟨rfl,B⟩:=Ret.of g
    have B:=r1 B
    refine aB (aF ⟨gp0 B,gp 0 B O,tv⟩ fun C=>?_)
    refine Ts [12,13] A C O O kr fun a A C=>?_
    exact bT kr ⟨A.cut ⟨O,O,O,O,O,O,O,O,O,O,O,O,tv⟩,B⟩
   rintro a w ⟨A,B⟩
   refine dK A O (fun hc16=>?_) (fun hc16=>?_)
   ·replace D:=(it hc16).symm.trans D
    refine aA (S A 1 O fun a A=>?_)
    obtain⟨x45,ex45,D⟩:=bnd D
    refine V A B O (bF O A O O (aN ex45)) fun a A=>S A 1 O fun a A=>aB ?_
    exact⟨_,(oj D).symm,A.cut ⟨O,O,O,O,O,O,O,O,O,O,tv⟩,B⟩
   replace D:=(ie hc16).symm.trans D
   refine aA (S A 2 O fun a A=>?_)
   refine aB ?_
   exact⟨_,(oj D).symm,A.cut ⟨O,O,O,O,O,O,O,O,O,O,tv⟩,B⟩
  replace D:=(ie hc15).symm.trans D
  refine dZ ?_
  refine⟨_,(oj D).symm,fun hbb=>?_⟩
  subst hbb
  exact⟨A.cut ⟨O,O,O,O,O,O,O,O,tv⟩,B⟩
 rintro a w ⟨A,B⟩
 refine aG (aA ?_)
 refine S A 2 O fun a A=>?_
 obtain⟨K,ex46,G⟩:=bnd G
 refine V A B O (dQ O A O O (aN ex46)) fun a A=>S A 1 O fun a A=>aB (aG ?_)
 refine aG (aA ?_)
 refine S A 4 O fun a A=>?_
 refine jI [_,_,_,_] (fun a w=>Env 220 [(185,(.bool ((decide (b29<M))&&(decide (M<K))))),(0,vp0),(1,(Iv Q)),(2,(Iv M)),(3,(Iv R)),(4,(.func (.func 84) #[] #[])),(18,(Iv J)),(20,(Iv b29)),(24,(Iv K))] a∧Hp Z ρ (aC 46 vp0 U::L) w) ?_ ?_
 ·rcases vA (decide (b29<M)) with hc17|hc17
  ·
   refine Gs A hc17 O O fun a A=>Gs A hc17 O O fun a A=>Gs A hc17 O O fun a A=>pk1 A hc17 O O O O fun a A=>?_
   have A:=A.eqv (v':=(.bool ((decide (b29<M))&&(decide (M<K))))) (by rw[hc17];rfl)
   exact aB ⟨A.cut ⟨O,O,O,O,O,O,O,O,O,tv⟩,B⟩
  refine Gk A hc17 O fun a A=>Gk A hc17 O fun a A=>Gk A hc17 O fun a A=>pk0 A hc17 O O O O fun a A=>?_
  have A:=A.eqv (v':=(.bool ((decide (b29<M))&&(decide (M<K))))) (by rw[hc17];rfl)
  exact aB ⟨A.cut ⟨O,O,O,O,O,O,O,O,O,tv⟩,B⟩
 rintro a w ⟨A,B⟩
 refine aB ?_
 obtain⟨j2,hj2,G⟩:=bnd G
 refine aJ9 (fun a w=>Env 220 [(0,vp0),(1,(Iv Q)),(3,(Iv R)),(4,(.func (.func 84) #[] #[])),(18,(Iv J)),(20,(Iv b29)),(24,(Iv K))] a∧Hp Z ρ (aC 46 vp0 j2::L) w) ?_ ?_
 ·
  refine dK A O (fun hc18=>?_) (fun hc18=>?_)
  ·replace hj2:=(it hc18).symm.trans hj2
   refine aA (S A 5 O fun a A=>?_)
   obtain⟨x47,ex47,hj2⟩:=bnd hj2
   refine Cl A O O ent118 (zD U vp0 b29 M K B x47 ex47) ⟨O,O,O,O,O,tv⟩ fun v a w g A=>?_
   obtain⟨rfl,B⟩:=g
   have B:=r1 B
   refine aB ?_
   obtain rfl:=oj hj2
   exact⟨A.cut ⟨O,O,O,O,O,O,O,tv⟩,B⟩
  replace hj2:=(ie hc18).symm.trans hj2
  refine bI ?_
  obtain rfl:=oj hj2
  exact⟨A.cut ⟨O,O,O,O,O,O,O,tv⟩,B⟩
 rintro a w ⟨A,B⟩
 refine aG (aG ?_)
 refine aA (S A 4 O fun a A=>?_)
 refine jI [_,_,_,_] (fun a w=>Env 220 [(199,(.bool ((decide (Q<b29))&&(decide (b29<J))))),(0,vp0),(1,(Iv Q)),(3,(Iv R)),(4,(.func (.func 84) #[] #[])),(18,(Iv J)),(20,(Iv b29)),(24,(Iv K))] a∧Hp Z ρ (aC 46 vp0 j2::L) w) ?_ ?_
 ·rcases vA (decide (Q<b29)) with hc19|hc19
  ·
   refine Gs A hc19 O O fun a A=>Gs A hc19 O O fun a A=>Gs A hc19 O O fun a A=>pk1 A hc19 O O O O fun a A=>?_
   have A:=A.eqv (v':=(.bool ((decide (Q<b29))&&(decide (b29<J))))) (by rw[hc19];rfl)
   exact aB ⟨A.cut ⟨O,O,O,O,O,O,O,O,tv⟩,B⟩
  refine Gk A hc19 O fun a A=>Gk A hc19 O fun a A=>Gk A hc19 O fun a A=>pk0 A hc19 O O O O fun a A=>?_
  have A:=A.eqv (v':=(.bool ((decide (Q<b29))&&(decide (b29<J))))) (by rw[hc19];rfl)
  exact aB ⟨A.cut ⟨O,O,O,O,O,O,O,O,tv⟩,B⟩
 rintro a w ⟨A,B⟩
 refine aB ?_
 obtain⟨j3,hj3,G⟩:=bnd G
 refine aJ9 (fun a w=>Env 220 [(0,vp0),(3,(Iv R)),(4,(.func (.func 84) #[] #[])),(18,(Iv J)),(24,(Iv K))] a∧Hp Z ρ (aC 46 vp0 j3::L) w) ?_ ?_
 ·
  refine dK A O (fun hc20=>?_) (fun hc20=>?_)
  ·replace hj3:=(it hc20).symm.trans hj3
   refine aA (S A 5 O fun a A=>?_)
   obtain⟨x48,ex48,hj3⟩:=bnd hj3
   refine Cl A O O ent113 (hself j2 vp0 Q b29 J B x48 ex48) ⟨O,O,O,O,O,tv⟩ fun v a w g A=>?_
   obtain⟨rfl,B⟩:=g
   have B:=r1 B
   refine aB ?_
   obtain rfl:=oj hj3
   exact⟨A.cut ⟨O,O,O,O,O,tv⟩,B⟩
  replace hj3:=(ie hc20).symm.trans hj3
  refine bI ?_
  obtain rfl:=oj hj3
  exact⟨A.cut ⟨O,O,O,O,O,tv⟩,B⟩
 rintro a w ⟨A,B⟩
 refine aG (aA ?_)
 refine S A 4 O fun a A=>?_
 refine jI [_,_,_,_] (fun a w=>Env 220 [(213,(.bool ((decide (J<K))&&(decide (K<R))))),(0,vp0),(3,(Iv R)),(4,(.func (.func 84) #[] #[])),(18,(Iv J)),(24,(Iv K))] a∧Hp Z ρ (aC 46 vp0 j3::L) w) ?_ ?_
 ·rcases vA (decide (J<K)) with hc21|hc21
  ·
   refine Gs A hc21 O O fun a A=>Gs A hc21 O O fun a A=>Gs A hc21 O O fun a A=>pk1 A hc21 O O O O fun a A=>?_
   have A:=A.eqv (v':=(.bool ((decide (J<K))&&(decide (K<R))))) (by rw[hc21];rfl)
   exact aB ⟨A.cut ⟨O,O,O,O,O,O,tv⟩,B⟩
  refine Gk A hc21 O fun a A=>Gk A hc21 O fun a A=>Gk A hc21 O fun a A=>pk0 A hc21 O O O O fun a A=>?_
  have A:=A.eqv (v':=(.bool ((decide (J<K))&&(decide (K<R))))) (by rw[hc21];rfl)
  exact aB ⟨A.cut ⟨O,O,O,O,O,O,tv⟩,B⟩
 rintro a w ⟨A,B⟩
 refine aB ?_
 refine dK A O (fun hc22=>?_) (fun hc22=>?_)
 ·replace G:=(it hc22).symm.trans G
  refine aA (S A 5 O fun a A=>?_)
  obtain⟨x49,ex49,G⟩:=bnd G
  refine Cl A O O ent113 (hself j3 vp0 J K R B x49 ex49) ⟨O,O,O,O,O,tv⟩ fun v a w g A=>?_
  obtain⟨rfl,B⟩:=g
  have B:=r1 B
  refine aB ?_
  obtain rfl:=oj G
  exact aD6 A O ⟨_,O,O,B⟩
 replace G:=(ie hc22).symm.trans G
 refine bI ?_
 obtain rfl:=oj G
 exact aD6 A O ⟨_,O,O,B⟩
theorem wX:∀(n:Nat),∀{Z:World} {ρ:PH} {L:List bQ} {w:World} (D:(List Opn)) (vp0:Value) (C:Int) (B:Int) (A:Int) (F:Hp Z ρ (aC 46 vp0 D::L) w) (r:(List Opn)) (E:iJ n D C B A=some r),Calls Tryz.prog 113 #[vp0,(Iv C),(Iv B),(Iv A),(.func (.func 84) #[] #[])] w (Ret fun v w'=>v= .tuple #[]∧Hp Z ρ (aC 46 vp0 r::L) w'):=by
 intro n
 induction n with
 |zero=>intro Z ρ L w D vp0 C B A F r E;cases E
 |succ n ih=>intro Z ρ L w D vp0 C B A F r E;exact vK (iJ n) ih D vp0 C B A F r E
theorem rG {Z:World} {ρ:PH} {L:List bQ} {w:World} (D:(List Opn)) (vp0:Value) (C:Int) (B:Int) (A:Int) (E:Hp Z ρ (aC 46 vp0 D::L) w) (r:(List Opn)) (F:kW D C B A=some r):
  Calls Tryz.prog 113 #[vp0,(Iv C),(Iv B),(Iv A),(.func (.func 84) #[] #[])] w (Ret fun v w'=>v= .tuple #[]∧Hp Z ρ (aC 46 vp0 r::L) w'):=wX _ D vp0 C B A E r F
theorem zF {Z:World} {ρ:PH} {L:List bQ} {w:World} (k:(List Opn)) (vp0:Value) (F:Int) (B:Hp Z ρ (aC 46 vp0 k::L) w) (r:(List Opn)) (G:mG k F=some r):
  Calls Tryz.prog 99 #[vp0,(Iv F),(.func (.func 84) #[] #[])] w (Ret fun v w'=>v= .tuple #[]∧Hp Z ρ (aC 46 vp0 r::L) w'):=by
 refine enter (N:=63) Tryz.func99 O O [(0,vp0),(1,(Iv F)),(2,(.func (.func 84) #[] #[]))] O (bH ⟨O,O,O,tv⟩) fun a A=>?_
 unfold mG at G
 refine aG (aA ?_)
 refine S A 1 O fun a A=>aB (aG ?_)
 refine aA (S A 3 O fun a A=>?_)
 refine aB (aG ?_)
 obtain⟨b1,X,G⟩:=bnd G
 refine dM (fun a w=>Env 63 [(0,vp0),(1,(Iv F)),(2,(.func (.func 84) #[] #[])),(6,(Iv 20)),(7,(Iv b1.1))] a∧Hp Z ρ (aC 46 vp0 b1.2::L) w) ?_ ?_
 ·refine eQ X (fun s a w=>Env 63 [(0,vp0),(1,(Iv F)),(2,(.func (.func 84) #[] #[])),(6,(Iv 20)),(7,(Iv s.1)),(8,(Iv s.2.1))] a∧Hp Z ρ (aC 46 vp0 s.2.2::L) w) ?_ ?_
  ·exact⟨A.cut ⟨O,O,O,O,O,O,tv⟩,B⟩
  rintro⟨aQ,aU,dS⟩ st a w ⟨A,B⟩ E
  dsimp only at A B E
  unfold qJ at E
  refine aG (aG ?_)
  refine aA (S A 3 O fun a A=>?_)
  refine aB ?_
  refine dK A O (fun K=>?_) (fun K=>?_)
  ·replace E:=(it K).symm.trans E
   refine bI (dN ?_)
   refine aG (aA ?_)
   refine S A 4 O fun a A=>?_
   obtain⟨p,i,E⟩:=bnd E
   refine Cl A O O ent112 (oJ dS vp0 aQ aU B p i) ⟨O,O,O,O,tv⟩ fun v a w M A=>?_
   obtain⟨rfl,B⟩:=M
   have B:=r1 B
   refine aB ?_
   have A:=A.cut (E':=[(0,vp0),(1,(Iv F)),(2,(.func (.func 84) #[] #[])),(6,(Iv 20)),(8,(Iv aU))]) ⟨O,O,O,O,O,tv⟩
   refine aG (aA ?_)
   refine S A 2 O fun a A=>aB (aA ?_)
   refine S A 2 O fun a A=>?_
   obtain⟨x2,h,E⟩:=bnd E
   refine V A B O (bF O A O O (aN h)) fun a A=>S A 1 O fun a A=>aB ?_
   exact⟨_,(oj E).symm,A.cut ⟨O,O,O,O,O,O,tv⟩,B⟩
  replace E:=(ie K).symm.trans E
  refine dZ ?_
  refine⟨_,(oj E).symm,fun hbb=>?_⟩
  subst hbb
  exact⟨A.cut ⟨O,O,O,O,O,tv⟩,B⟩
 rintro a w ⟨A,B⟩
 refine aG (aA ?_)
 refine S A 4 O fun a A=>?_
 obtain⟨n,g,G⟩:=bnd G
 refine Cl A O O ent112 (oJ b1.2 vp0 b1.1 F B n g) ⟨O,O,O,O,tv⟩ fun v a w M A=>?_
 obtain⟨rfl,B⟩:=M
 have B:=r1 B
 refine aB ?_
 obtain⟨b2,W,G⟩:=bnd G
 refine dM (fun a w=>Env 63 [] a∧Hp Z ρ (aC 46 vp0 b2::L) w) ?_ ?_
 ·refine eQ W (fun s a w=>Env 63 [(0,vp0),(1,(Iv F)),(2,(.func (.func 84) #[] #[])),(6,(Iv s.1))] a∧Hp Z ρ (aC 46 vp0 s.2::L) w) ?_ ?_
  ·exact⟨A.cut ⟨O,O,O,O,tv⟩,B⟩
  rintro⟨bP,eP⟩ st a w ⟨A,B⟩ C
  dsimp only at A B C
  unfold qK at C
  refine aG (aG ?_)
  refine aA (S A 3 O fun a A=>?_)
  refine aB ?_
  have A:=A.cut (E':=[(0,vp0),(1,(Iv F)),(2,(.func (.func 84) #[] #[])),(6,(Iv bP)),(30,(.bool (decide (bP<F))))]) ⟨O,O,O,O,O,tv⟩
  refine dK A O (fun J=>?_) (fun J=>?_)
  ·replace C:=(it J).symm.trans C
   refine bI (dN ?_)
   refine aG (aA ?_)
   refine S A 1 O fun a A=>?_
   obtain⟨x4,f,C⟩:=bnd C
   refine V A B O (aL6 O A O O (aN f)) fun a A=>S A 2 O fun a A=>aB (aG ?_)
   obtain⟨b3,U,C⟩:=bnd C
   refine dM (fun a w=>Env 63 [(0,vp0),(1,(Iv F)),(2,(.func (.func 84) #[] #[])),(6,(Iv bP)),(7,(Iv b3.1))] a∧Hp Z ρ (aC 46 vp0 b3.2::L) w) ?_ ?_
   ·refine eQ U (fun s a w=>Env 63 [(0,vp0),(1,(Iv F)),(2,(.func (.func 84) #[] #[])),(6,(Iv bP)),(7,(Iv s.1)),(8,(Iv s.2.1))] a∧Hp Z ρ (aC 46 vp0 s.2.2::L) w) ?_ ?_
    ·exact⟨A.cut ⟨O,O,O,O,O,O,tv⟩,B⟩
    rintro⟨dR,vH,aK1⟩ st a w ⟨A,B⟩ D
    dsimp only at A B D
    unfold qL at D
    refine aG (aG ?_)
    refine aA (S A 3 O fun a A=>?_)
    refine aB ?_
    refine dK A O (fun I=>?_) (fun I=>?_)
    ·replace D:=(it I).symm.trans D
     refine bI (dN ?_)
     refine aG (aA ?_)
     refine S A 4 O fun a A=>?_
     obtain⟨m,e,D⟩:=bnd D
     refine V A B O (bF O A O O (aN e)) fun a A=>S A 2 O fun a A=>?_
     obtain⟨l,d,D⟩:=bnd D
     refine Cl A O O ent113 (rG aK1 vp0 dR m vH B l d) ⟨O,O,O,O,O,tv⟩ fun v a w M A=>?_
     obtain⟨rfl,B⟩:=M
     have B:=r1 B
     refine aB (aG ?_)
     refine aA (S A 2 O fun a A=>?_)
     refine aB (aA ?_)
     refine S A 2 O fun a A=>?_
     obtain⟨x7,c,D⟩:=bnd D
     refine V A B O (aL6 O A O O (aN c)) fun a A=>?_
     obtain⟨x8,b,D⟩:=bnd D
     refine V A B O (bF O A O O (aN b)) fun a A=>S A 1 O fun a A=>aB ?_
     exact⟨_,(oj D).symm,A.cut ⟨O,O,O,O,O,O,tv⟩,B⟩
    replace D:=(ie I).symm.trans D
    refine dZ ?_
    refine⟨_,(oj D).symm,fun hbb=>?_⟩
    subst hbb
    exact⟨A.cut ⟨O,O,O,O,O,tv⟩,B⟩
   rintro a w ⟨A,B⟩
   refine aG (aG ?_)
   refine aA (S A 2 O fun a A=>?_)
   obtain⟨j,Y,C⟩:=bnd C
   refine V A B O (bF O A O O (aN Y)) fun a A=>S A 1 O fun a A=>aB ?_
   have A:=A.cut (E':=[(0,vp0),(1,(Iv F)),(2,(.func (.func 84) #[] #[])),(6,(Iv bP)),(7,(Iv b3.1)),(9,(Iv j))]) ⟨O,O,O,O,O,O,tv⟩
   refine aG (aA ?_)
   refine S A 3 O fun a A=>aB ?_
   obtain⟨j1,hj1,C⟩:=bnd C
   refine aJ9 (fun a w=>Env 63 [(0,vp0),(1,(Iv F)),(2,(.func (.func 84) #[] #[])),(6,(Iv bP))] a∧Hp Z ρ (aC 46 vp0 j1::L) w) ?_ ?_
   ·
    refine dK A O (fun H=>?_) (fun H=>?_)
    ·replace hj1:=(it H).symm.trans hj1
     refine aA (S A 5 O fun a A=>?_)
     obtain⟨T,R,hj1⟩:=bnd hj1
     refine Cl A O O ent113 (rG b3.2 vp0 b3.1 j F B T R) ⟨O,O,O,O,O,tv⟩ fun v a w M A=>?_
     obtain⟨rfl,B⟩:=M
     have B:=r1 B
     refine aB ?_
     obtain rfl:=oj hj1
     exact⟨A.cut ⟨O,O,O,O,tv⟩,B⟩
    replace hj1:=(ie H).symm.trans hj1
    refine bI ?_
    obtain rfl:=oj hj1
    exact⟨A.cut ⟨O,O,O,O,tv⟩,B⟩
   rintro a w ⟨A,B⟩
   refine aA (S A 1 O fun a A=>?_)
   obtain⟨o,Q,C⟩:=bnd C
   refine V A B O (aL6 O A O O (aN Q)) fun a A=>S A 1 O fun a A=>aB ?_
   exact⟨_,(oj C).symm,A.cut ⟨O,O,O,O,tv⟩,B⟩
  replace C:=(ie J).symm.trans C
  refine dZ ?_
  refine⟨_,(oj C).symm,fun hbb=>?_⟩
  subst hbb
  exact⟨A.cut trivial,B⟩
 rintro a w ⟨A,B⟩
 obtain rfl:=oj G
 exact aD6 A O ⟨_,O,O,B⟩
theorem yE {Z:World} {ρ:PH} {L:List bQ} {w:World} (C:(List Opn)) (vp0:Value) (B:Hp Z ρ (aC 46 vp0 C::L) w) (r:(List Opn)) (D:lL C=some r):
  Calls Tryz.prog 83 #[vp0,(.func (.func 84) #[] #[])] w (Ret fun v w'=>v= .tuple #[]∧Hp Z ρ (aC 46 vp0 r::L) w'):=by
 refine enter (N:=9) Tryz.func83 O O [(0,vp0),(1,(.func (.func 84) #[] #[]))] O (bH ⟨O,O,tv⟩) fun a A=>?_
 unfold lL at D
 refine aA (S A 2 O fun a A=>?_)
 refine V A B O (bW O A O (aC.len B 0 O fE)) fun a A=>S A 1 O fun a A=>?_
 obtain⟨F,E,D⟩:=bnd D
 refine Cl A O O ent99 (zF C vp0 (C.length:Int) B F E) ⟨O,O,O,tv⟩ fun v a w G A=>?_
 obtain⟨rfl,B⟩:=G
 have B:=r1 B
 refine aB ?_
 obtain rfl:=oj D
 exact aD6 A O ⟨_,O,O,B⟩
theorem aL2 {Z:World} {ρ:PH} {L:List bQ} {w:World} (D:(List Opn)) (vp0:Value) (B:Hp Z ρ (aC 46 vp0 D::L) w) (r:(List Opn)) (C:G9 D=some r):
  Calls Tryz.prog 56 #[vp0] w (Ret fun v w'=>∃(vr1:Value),v=vr1∧Hp Z ρ (aC 46 vr1 r::L) w'):=by
 refine enter (N:=6) Tryz.func56 O O [(0,vp0)] O (bH ⟨O,tv⟩) fun a A=>?_
 unfold G9 at C
 refine aG (aA ?_)
 refine S A 1 O fun a A=>aB (aG ?_)
 refine aA (S A 1 O fun a A=>?_)
 obtain⟨F,E,C⟩:=bnd C
 refine Cl A O O ent83 (yE D vp0 B F E) ⟨O,O,tv⟩ fun v a w G A=>?_
 obtain⟨rfl,B⟩:=G
 have B:=r1 B
 refine aB (aG ?_)
 refine aA (S A 2 O fun a A=>?_)
 refine aB (cZ ?_)
 obtain rfl:=oj C
 exact gY A O O ⟨_,O,_,O,B⟩
theorem aL1 {Z:World} {ρ:PH} {L:List bQ} {w:World} (G:(List Opn)) (vp0:Value) (hp0:aH ρ vp0 G) (B:Hp Z ρ (L) w) (r:(List Opn)) (F:G7 G=some r):
  Calls Tryz.prog 26 #[vp0] w (Ret fun v w'=>∃(vr1:Value),v=vr1∧Hp Z ρ (aC 46 vr1 r::L) w'):=by
 refine enter (N:=23) Tryz.func26 O O [(0,vp0)] O (bH ⟨O,tv⟩) fun a A=>?_
 unfold G7 at F
 refine aG (aA ?_)
 refine S A 1 O fun a A=>aB (aG ?_)
 refine aA (S A 1 O fun a A=>?_)
 refine aB (aG ?_)
 refine aG (aA ?_)
 refine S A 1 O fun a A=>V A B O (bW O A O (aH.len hp0 fE)) fun a A=>S A 1 O fun a A=>aB ?_
 have B:=B.emp (aC.nil (α:=Opn) 46)
 have B:=r1 B
 obtain⟨b1,I,F⟩:=bnd F
 refine dM (fun a w=>∃(w5:Value),Env 23 [(3,w5)] a∧Hp Z ρ (aC 46 w5 b1::L) w) ?_ ?_
 ·refine eQ I (fun s a w=>∃(w5:Value),Env 23 [(3,w5),(6,vp0),(7,(Iv (G.length:Int))),(8,(Iv s.1))] a∧Hp Z ρ (aC 46 w5 s.2::L) w) ?_ ?_
  ·exact⟨_,A.cut ⟨O,O,O,O,tv⟩,B⟩
  rintro⟨aQ,aU⟩ st a w ⟨w5,A,B⟩ C
  dsimp only at A B C
  unfold aA9 at C
  refine aG (aA ?_)
  refine S A 1 O fun a A=>aB (aG ?_)
  refine dK A O (fun E=>?_) (fun E=>?_)
  ·replace C:=(it E).symm.trans C
   refine bI (aG ?_)
   refine dN (aG ?_)
   refine aA ?_
   obtain⟨D,Q,C⟩:=bnd C
   obtain⟨b2,b2o,b2c,b2r,b2k,b2f⟩:=aH.at hp0 fE Q
   obtain rfl:b2c=Enc.enc D:=b2k
   have b2f:AtP ρ b2 b2o [(Iv D.a),(Iv D.b)]:=b2f
   refine V A B O (aO O A O O b2r) fun a A=>V A B O (aK O A O (fun w T=>aX (cs:=[(Iv D.a),(Iv D.b)]) fH (fun j u H=>cell_of T.le (b2f j u H)))) fun a A=>?_
   refine dF (wk0 O) O O A B O [(Iv 0),(Iv 0)] (fun w=>by simp[Instr.alloc,go_sem]<;>rfl) ?_
   intro a w b3 A B
   have B:=r2 B
   refine aV (wk0 O) O A B O O O 0 O fH.size_ O (aP ⟨O,O,tv⟩) [(Iv D.a),(Iv D.b)] O ?_
   intro w B
   have B:=r2 B
   refine aB (aA ?_)
   refine S A 1 O fun a A=>V A B O (xf A eF O O) fun a A=>V A B O (xl A aW 0 O O O O) fun a A=>V A B O (xf A fV O O) fun a A=>V A B O (xl A aW 0 O O O O) fun a A=>V A B O (v:=(.agg #[(Iv D.b),(Iv D.a)])) (oD O A [(0,(Iv D.b)),(1,(Iv D.a))] (by exact⟨⟨O,O⟩,⟨O,O⟩,tv⟩) (fun w=>by simp[Instr.build,Instr.fill,Value.cells,go_sem])) fun a A=>?_
   refine fU (wk0 O) O O A B O [(0,(.agg #[(Iv D.b),(Iv D.a)]))] ⟨⟨O,O⟩,tv⟩ [(Iv D.b),(Iv D.a)] 46 (fun w=>by simp[Instr.buildSlice,Instr.fill,Value.cells,go_sem]) ?_
   intro a w b4 A B
   have B:=r3 B
   obtain⟨x2,M,C⟩:=bnd C
   refine gB (wk0 O) O O A B O fE O O 2 O O (l2:=[(Opn.mk D.b D.a)]) O (fun j u H=>by have:=Hp.cN 0 O 0 _ (aS O) w B j u H;simpa using this) M ?_
   intro v1 a w A B
   have B:=r3 B
   refine S A 1 O fun a A=>aB (aA ?_)
   obtain⟨x3,K,C⟩:=bnd C
   refine V A B O (bF O A O O (aN K)) fun a A=>S A 1 O fun a A=>aB ?_
   exact⟨_,(oj C).symm,_,A.cut ⟨O,O,O,O,tv⟩,(((B.get 1 O).drop).drop)⟩
  replace C:=(ie E).symm.trans C
  refine dZ ?_
  refine⟨_,(oj C).symm,fun hbb=>?_⟩
  subst hbb
  exact⟨_,A.cut ⟨O,tv⟩,B⟩
 rintro a w ⟨w5,A,B⟩
 refine aG (aA ?_)
 refine S A 1 O fun a A=>?_
 obtain⟨R,J,F⟩:=bnd F
 refine s_call (wk0 O) O O A O [w5] ⟨O,tv⟩ ent56 (aL2 b1 w5 B R J) Ret.ret ?_
 intro vr1 a w U A
 obtain⟨u,rfl,B⟩:=Ret.of U
 have B:=r1 B
 refine S A 1 O fun a A=>aB (cZ ?_)
 obtain rfl:=oj F
 exact gY A O O ⟨_,O,_,O,B⟩
theorem c_align_Compose {Z:World} {ρ:PH} {L:List bQ} {w:World} (U:(List Opn)) (vp0:Value) (hp0:aH ρ vp0 U) (W:(List Opn)) (vp1:Value) (hp1:aH ρ vp1 W) (B:Hp Z ρ (L) w) (r:(List Opn)) (I:V6 U W=some r):
  Calls Tryz.prog 29 #[vp0,vp1] w (Ret fun v w'=>∃(vr1:Value),v=vr1∧Hp Z ρ (aC 46 vr1 r::L) w'):=by
 refine enter (N:=67) Tryz.func29 O O [(0,vp0),(1,vp1)] O (bH ⟨O,O,tv⟩) fun a A=>?_
 unfold V6 at I
 refine aG (aA ?_)
 refine S A 1 O fun a A=>aB (aG ?_)
 refine aA (S A 1 O fun a A=>?_)
 refine aB (aG ?_)
 refine aA ?_
 refine s_mkmap (κ:=Int) (β:=Bool) (wk0 O) O O A B O ?_
 intro a w b1 A B
 have B:=r1 B
 refine S A 1 O fun a A=>aB (aG ?_)
 refine aG (aA ?_)
 refine S A 1 O fun a A=>V A B O (bW O A O (aH.len hp0 fE)) fun a A=>S A 1 O fun a A=>aB ?_
 have B:=B.emp (aC.nil (α:=Opn) 46)
 have B:=r2 B
 obtain⟨b2,c,I⟩:=bnd I
 refine dM (fun a w=>∃(w11:Value),Env 67 [(1,vp1),(5,w11),(6,(.map (some b1)))] a∧Hp Z ρ (aC 46 w11 b2.1::vJ b1 (b2.2:List (Int×Bool))::L) w) ?_ ?_
 ·refine eQ c (fun s a w=>∃(w11:Value),Env 67 [(1,vp1),(5,w11),(6,(.map (some b1))),(14,vp0),(15,(Iv (U.length:Int))),(16,(Iv s.1))] a∧Hp Z ρ (aC 46 w11 s.2.1::vJ b1 (s.2.2:List (Int×Bool))::L) w) ?_ ?_
  ·exact⟨_,A.cut ⟨O,O,O,O,O,O,tv⟩,B⟩
  rintro⟨aQ,aU,dS⟩ st a w ⟨w11,A,B⟩ E
  dsimp only at A B E
  unfold X4 at E
  refine aG (aA ?_)
  refine S A 1 O fun a A=>aB (aG ?_)
  refine dK A O (fun T=>?_) (fun T=>?_)
  ·replace E:=(it T).symm.trans E
   refine bI (aG ?_)
   obtain⟨j1,hj1,E⟩:=bnd E
   refine dM (fun a w=>∃(w11:Value),Env 67 [(1,vp1),(5,w11),(6,(.map (some b1))),(14,vp0),(15,(Iv (U.length:Int))),(16,(Iv aQ))] a∧Hp Z ρ (aC 46 w11 j1.1::vJ b1 (j1.2:List (Int×Bool))::L) w) ?_ ?_
   ·
    refine aG (aA ?_)
    obtain⟨H,o,hj1⟩:=bnd hj1
    obtain⟨b3,b3o,b3c,b3r,b3k,b3f⟩:=aH.at hp0 fE o
    obtain rfl:b3c=Enc.enc H:=b3k
    have b3f:AtP ρ b3 b3o [(Iv H.a),(Iv H.b)]:=b3f
    refine V A B O (aO O A O O b3r) fun a A=>V A B O (aK O A O (fun w X=>aX (cs:=[(Iv H.a),(Iv H.b)]) fH (fun j u J=>cell_of X.le (b3f j u J)))) fun a A=>?_
    refine dF (wk0 O) O O A B O [(Iv 0),(Iv 0)] (fun w=>by simp[Instr.alloc,go_sem]<;>rfl) ?_
    intro a w b4 A B
    have B:=r3 B
    refine aV (wk0 O) O A B O O O 0 O fH.size_ O (aP ⟨O,O,tv⟩) [(Iv H.a),(Iv H.b)] O ?_
    intro w B
    have B:=r3 B
    refine aB (aG ?_)
    refine aG (aA ?_)
    refine V A B O (xf A fV O O) fun a A=>V A B O (xl A aW 0 O O O O) fun a A=>S A 1 O fun a A=>aB ?_
    refine dK A O (fun R=>?_) (fun R=>?_)
    ·replace hj1:=(it R).symm.trans hj1
     refine dZ ?_
     obtain rfl:=oj hj1
     exact⟨_,A.cut ⟨O,O,O,O,O,O,tv⟩,(B.drop)⟩
    replace hj1:=(ie R).symm.trans hj1
    refine bI (aG ?_)
    refine aA (S A 1 O fun a A=>?_)
    refine V A B O (xf A eF O O) fun a A=>V A B O (xl A aW 0 O O O O) fun a A=>?_
    obtain⟨q,n,hj1⟩:=bnd hj1
    refine Cl A O O ent13 (aJ8 W vp1 hp1 H.b B q n) ⟨O,O,tv⟩ fun v a w d A=>?_
    obtain⟨rfl,B⟩:=d
    have B:=r3 B
    refine S A 5 O fun a A=>aB (aG ?_)
    refine aG (aA ?_)
    refine S A 2 O fun a A=>aB ?_
    obtain⟨j2,hj2,hj1⟩:=bnd hj1
    refine aJ9 (fun a w=>Env 67 [(1,vp1),(5,w11),(6,(.map (some b1))),(8,(Pv b4 0)),(9,(Iv j2)),(14,vp0),(15,(Iv (U.length:Int))),(16,(Iv aQ))] a∧Hp Z ρ (Pt b4 (.cells #[(Iv H.a),(Iv H.b)] 46 (0,0))::aC 46 w11 aU::vJ b1 (dS:List (Int×Bool))::L) w) ?_ ?_
    ·
     refine dK A O (fun Q=>?_) (fun Q=>?_)
     ·replace hj2:=(it Q).symm.trans hj2
      refine aA (S A 1 O fun a A=>?_)
      refine aB ?_
      have A:=A.cut (E':=[(1,vp1),(5,w11),(6,(.map (some b1))),(8,(Pv b4 0)),(9,(Iv (-1))),(14,vp0),(15,(Iv (U.length:Int))),(16,(Iv aQ))]) ⟨O,O,O,O,O,O,O,O,tv⟩
      obtain rfl:=oj hj2
      exact⟨A.cut ⟨O,O,O,O,O,O,O,O,tv⟩,B⟩
     replace hj2:=(ie Q).symm.trans hj2
     refine bI ?_
     obtain rfl:=oj hj2
     exact⟨A.cut ⟨O,O,O,O,O,O,O,O,tv⟩,B⟩
    rintro a w ⟨A,B⟩
    refine aG (aA ?_)
    refine S A 2 O fun a A=>?_
    refine s_mput kt3 mapty103 (wk0 O) O A B O 2 (k:=j2) (v:=true) O O O O ?_
    intro w B
    have B:=r3 B
    refine aB (aA ?_)
    refine S A 1 O fun a A=>V A B O (xf A fV O O) fun a A=>V A B O (xl A aW 0 O O O O) fun a A=>S A 1 O fun a A=>V A B O (v:=(.agg #[(Iv H.a),(Iv j2)])) (oD O A [(0,(Iv H.a)),(1,(Iv j2))] (by exact⟨⟨O,O⟩,⟨O,O⟩,tv⟩) (fun w=>by simp[Instr.build,Instr.fill,Value.cells,go_sem])) fun a A=>?_
    refine fU (wk0 O) O O A B O [(0,(.agg #[(Iv H.a),(Iv j2)]))] ⟨⟨O,O⟩,tv⟩ [(Iv H.a),(Iv j2)] 46 (fun w=>by simp[Instr.buildSlice,Instr.fill,Value.cells,go_sem]) ?_
    intro a w b5 A B
    have B:=r4 B
    obtain⟨x3,m,hj1⟩:=bnd hj1
    refine gB (wk0 O) O O A B O fE O O 2 O O (l2:=[(Opn.mk H.a j2)]) O (fun j u J=>by have:=Hp.cN 0 O 0 _ (aS O) w B j u J;simpa using this) m ?_
    intro v1 a w A B
    have B:=r4 B
    refine S A 1 O fun a A=>aB ?_
    obtain rfl:=oj hj1
    exact⟨_,A.cut ⟨O,O,O,O,O,O,tv⟩,(((B.get 1 O).drop).drop)⟩
   rintro a w ⟨w11,A,B⟩
   refine aA ?_
   obtain⟨x4,l,E⟩:=bnd E
   refine V A B O (bF O A O O (aN l)) fun a A=>S A 1 O fun a A=>aB ?_
   exact⟨_,(oj E).symm,_,A.cut ⟨O,O,O,O,O,O,tv⟩,B⟩
  replace E:=(ie T).symm.trans E
  refine dZ ?_
  refine⟨_,(oj E).symm,fun hbb=>?_⟩
  subst hbb
  exact⟨_,A.cut ⟨O,O,O,tv⟩,B⟩
 rintro a w ⟨w11,A,B⟩
 refine aG (aG ?_)
 refine aA (S A 1 O fun a A=>?_)
 refine V A B O (bW O A O (aH.len hp1 fE)) fun a A=>S A 1 O fun a A=>aB ?_
 obtain⟨b6,Y,I⟩:=bnd I
 refine dM (fun a w=>∃(w11:Value),Env 67 [(5,w11)] a∧Hp Z ρ (aC 46 w11 b6::vJ b1 (b2.2:List (Int×Bool))::L) w) ?_ ?_
 ·refine eQ Y (fun s a w=>∃(w11:Value),Env 67 [(5,w11),(6,(.map (some b1))),(42,vp1),(43,(Iv (W.length:Int))),(44,(Iv s.1))] a∧Hp Z ρ (aC 46 w11 s.2::vJ b1 (b2.2:List (Int×Bool))::L) w) ?_ ?_
  ·exact⟨_,A.cut ⟨O,O,O,O,O,tv⟩,B⟩
  rintro⟨bP,eP⟩ st a w ⟨w11,A,B⟩ C
  dsimp only at A B C
  unfold X5 at C
  refine aG (aA ?_)
  refine S A 1 O fun a A=>aB (aG ?_)
  refine dK A O (fun M=>?_) (fun M=>?_)
  ·replace C:=(it M).symm.trans C
   refine bI (aG ?_)
   refine dN (aG ?_)
   refine aA ?_
   obtain⟨F,i,C⟩:=bnd C
   obtain⟨b7,b7o,b7c,b7r,b7k,b7f⟩:=aH.at hp1 fE i
   obtain rfl:b7c=Enc.enc F:=b7k
   have b7f:AtP ρ b7 b7o [(Iv F.a),(Iv F.b)]:=b7f
   refine V A B O (aO O A O O b7r) fun a A=>V A B O (aK O A O (fun w X=>aX (cs:=[(Iv F.a),(Iv F.b)]) fH (fun j u J=>cell_of X.le (b7f j u J)))) fun a A=>?_
   refine dF (wk0 O) O O A B O [(Iv 0),(Iv 0)] (fun w=>by simp[Instr.alloc,go_sem]<;>rfl) ?_
   intro a w b8 A B
   have B:=r3 B
   refine aV (wk0 O) O A B O O O 0 O fH.size_ O (aP ⟨O,O,tv⟩) [(Iv F.a),(Iv F.b)] O ?_
   intro w B
   have B:=r3 B
   refine aB (aG ?_)
   refine aA (V A B O (xf A eF O O) fun a A=>?_)
   refine V A B O (xl A aW 0 O O O O) fun a A=>S A 2 O fun a A=>?_
   refine jI [_,_,_,_,_,_] (fun a w=>Env 67 [(57,(.bool ((decide (0≤F.b))&&(!((jW (b2.2:List (Int×Bool)) F.b).getD false))))),(5,w11),(6,(.map (some b1))),(12,(Pv b8 0)),(42,vp1),(43,(Iv (W.length:Int))),(44,(Iv bP))] a∧Hp Z ρ (Pt b8 (.cells #[(Iv F.a),(Iv F.b)] 46 (0,0))::aC 46 w11 eP::vJ b1 (b2.2:List (Int×Bool))::L) w) ?_ ?_
   ·rcases vA (decide (0≤F.b)) with D|D
    ·
     refine Gs A D O O fun a A=>G A B D O (xf A eF O O) fun a A=>G A B D O (xl A aW 0 O O O O) fun a A=>G A B D O (v:=(.bool ((jW (b2.2:List (Int×Bool)) F.b).getD false))) (ex_mget0 (zd:=(false:Bool)) kt3 mapty103 zero4 O A 2 (k:=F.b) O O O) fun a A=>Gs A D O O fun a A=>pk1 A D O O O O fun a A=>?_
     have A:=A.eqv (v':=(.bool ((decide (0≤F.b))&&(!((jW (b2.2:List (Int×Bool)) F.b).getD false))))) (by rw[D];rfl)
     exact aB ⟨A.cut ⟨O,O,O,O,O,O,O,tv⟩,B⟩
    refine Gk A D O fun a A=>Gk A D O fun a A=>Gk A D O fun a A=>Gk A D O fun a A=>Gk A D O fun a A=>pk0 A D O O O O fun a A=>?_
    have A:=A.eqv (v':=(.bool ((decide (0≤F.b))&&(!((jW (b2.2:List (Int×Bool)) F.b).getD false))))) (by rw[D];rfl)
    exact aB ⟨A.cut ⟨O,O,O,O,O,O,O,tv⟩,B⟩
   rintro a w ⟨A,B⟩
   refine aB ?_
   refine dK A O (fun K=>?_) (fun K=>?_)
   ·replace C:=(it K).symm.trans C
    refine aA (S A 1 O fun a A=>?_)
    refine V A B O (xf A eF O O) fun a A=>V A B O (xl A aW 0 O O O O) fun a A=>V A B O (v:=(.agg #[(Iv (-1)),(Iv F.b)])) (oD O A [(0,(Iv (-1))),(1,(Iv F.b))] (by exact⟨⟨O,O⟩,⟨O,O⟩,tv⟩) (fun w=>by simp[Instr.build,Instr.fill,Value.cells,go_sem])) fun a A=>?_
    refine fU (wk0 O) O O A B O [(0,(.agg #[(Iv (-1)),(Iv F.b)]))] ⟨⟨O,O⟩,tv⟩ [(Iv (-1)),(Iv F.b)] 46 (fun w=>by simp[Instr.buildSlice,Instr.fill,Value.cells,go_sem]) ?_
    intro a w b9 A B
    have B:=r4 B
    obtain⟨x6,h,C⟩:=bnd C
    refine gB (wk0 O) O O A B O fE O O 2 O O (l2:=[(Opn.mk (-1) F.b)]) O (fun j u J=>by have:=Hp.cN 0 O 0 _ (aS O) w B j u J;simpa using this) h ?_
    intro v2 a w A B
    have B:=r4 B
    refine S A 1 O fun a A=>aB (aA ?_)
    obtain⟨x7,g,C⟩:=bnd C
    refine V A B O (bF O A O O (aN g)) fun a A=>S A 1 O fun a A=>aB ?_
    exact⟨_,(oj C).symm,_,A.cut ⟨O,O,O,O,O,tv⟩,(((B.get 1 O).drop).drop)⟩
   replace C:=(ie K).symm.trans C
   refine bI (aA ?_)
   obtain⟨x8,f,C⟩:=bnd C
   refine V A B O (bF O A O O (aN f)) fun a A=>S A 1 O fun a A=>aB ?_
   exact⟨_,(oj C).symm,_,A.cut ⟨O,O,O,O,O,tv⟩,(B.drop)⟩
  replace C:=(ie M).symm.trans C
  refine dZ ?_
  refine⟨_,(oj C).symm,fun hbb=>?_⟩
  subst hbb
  exact⟨_,A.cut ⟨O,tv⟩,B⟩
 rintro a w ⟨w11,A,B⟩
 refine aG (aA ?_)
 refine S A 1 O fun a A=>?_
 obtain⟨p,e,I⟩:=bnd I
 refine s_call (wk0 O) O O A O [w11] ⟨O,tv⟩ ent56 (aL2 b6 w11 B p e) Ret.ret ?_
 intro vr3 a w d A
 obtain⟨u,rfl,B⟩:=Ret.of d
 have B:=r2 B
 refine S A 1 O fun a A=>aB (cZ ?_)
 obtain rfl:=oj I
 exact gY A O O ⟨_,O,_,O,((B.get 1 O).drop)⟩
end Go.Proofs.YtopnldfjcciieaaGreat

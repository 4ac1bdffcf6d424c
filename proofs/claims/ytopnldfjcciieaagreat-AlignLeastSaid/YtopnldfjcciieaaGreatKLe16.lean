/- The code goes as its model: assessor/align.Partner$1, slices.IndexFunc[[]assessor/api.Operation,assessor/api.Operation]@assessor/align.Partner$1, assessor/align -/
import Derived.Test.YtopnldfjcciieaaGreatKLeT
import Derived.Test.YtopnldfjcciieaaGreatKLe4
import Derived.Test.YtopnldfjcciieaaGreatKLe5
set_option linter.unusedVariables false
set_option linter.unusedSimpArgs false
set_option maxRecDepth 100000
set_option maxHeartbeats 4000000
namespace Go.Proofs.YtopnldfjcciieaaGreat
open Go.RowKit
theorem aQ7 {Z:World} {ρ:PH} {L:List bQ} {w:World} (C:Opn) (bcp0:Nat) (cp0:Int) (B:Hp Z ρ (Pt bcp0 (.cells #[(Iv cp0)] 3 (0,0))::L) w) (r:Bool) (D:G8 C cp0=some r):
  Calls Tryz.prog 39 #[(.agg #[(Iv C.a),(Iv C.b)]),(Pv bcp0 0)] w (Ret fun v w'=>v=(.bool r)∧Hp Z ρ (Pt bcp0 (.cells #[(Iv cp0)] 3 (0,0))::L) w'):=by
 refine enter (N:=8) Tryz.func39 O O [(0,(.agg #[(Iv C.a),(Iv C.b)])),(1,(Pv bcp0 0))] O (bH ⟨O,O,tv⟩) fun a A=>?_
 unfold G8 at D
 refine aG (aA ?_)
 refine iH (wk0 O) O O A B O (v:=(.agg #[(Iv C.a),(Iv C.b)])) O ?_
 intro a w b1 A B
 have B:=r2 B
 refine S A 1 O fun a A=>aB (aG ?_)
 refine aA (V A B O (xf A fV O O) fun a A=>?_)
 refine V A B O (xl A aW 0 O O O O) fun a A=>V A B O (xl A aW 1 O O O O) fun a A=>S A 2 O fun a A=>aB (cZ ?_)
 obtain rfl:=oj D
 exact gY A O O ⟨_,O,O,(B.drop)⟩
theorem zW {Z:World} {ρ:PH} {L:List bQ} {w:World} (H:(List Opn)) (vp0:Value) (hp0:aH ρ vp0 H) (bp1c0:Nat) (p1c0:Int) (C:Hp Z ρ (Pt bp1c0 (.cells #[(Iv p1c0)] 3 (0,0))::L) w) (r:Int) (G:oH H p1c0=some r):
  Calls Tryz.prog 38 #[vp0,(.func (.func 39) #[] #[(Pv bp1c0 0)])] w (Ret fun v w'=>v=(Iv r)∧Hp Z ρ (Pt bp1c0 (.cells #[(Iv p1c0)] 3 (0,0))::L) w'):=by
 refine enter (N:=19) Tryz.func38 O O [(0,vp0),(1,(.func (.func 39) #[] #[(Pv bp1c0 0)]))] O (bH ⟨O,O,tv⟩) fun a A=>?_
 unfold oH at G
 refine aG (aA ?_)
 refine S A 1 O fun a A=>aB (aG ?_)
 refine aG (aA ?_)
 refine S A 1 O fun a A=>V A C O (bW O A O (aH.len hp0 fE)) fun a A=>S A 1 O fun a A=>aB ?_
 obtain⟨b1,I,G⟩:=bnd G
 refine dM (fun a w=>∃s:Unit,b1= .brk s∧(Env 19 [] a∧Hp Z ρ (Pt bp1c0 (.cells #[(Iv p1c0)] 3 (0,0))::L) w)) ?_ ?_
 ·refine eQ I (fun s a w=>Env 19 [(0,vp0),(1,(.func (.func 39) #[] #[(Pv bp1c0 0)])),(7,(Iv (H.length:Int))),(8,(Iv s))] a∧Hp Z ρ (Pt bp1c0 (.cells #[(Iv p1c0)] 3 (0,0))::L) w) ?_ ?_
  ·exact⟨A.cut ⟨O,O,O,O,tv⟩,C⟩
  rintro aQ st a w ⟨A,C⟩ B
  unfold rU at B
  refine aG (aA ?_)
  refine S A 1 O fun a A=>aB (aG ?_)
  refine dK A O (fun F=>?_) (fun F=>?_)
  ·replace B:=(it F).symm.trans B
   refine bI (aG ?_)
   refine dN (aG ?_)
   refine aA (S A 2 O fun a A=>?_)
   refine aB (aG ?_)
   refine aA (S A 3 O fun a A=>?_)
   obtain⟨D,M,B⟩:=bnd B
   obtain⟨b2,b2o,b2c,b2r,b2k,b2f⟩:=aH.at hp0 fE M
   obtain rfl:b2c=Enc.enc D:=b2k
   have b2f:AtP ρ b2 b2o [(Iv D.a),(Iv D.b)]:=b2f
   refine V A C O (aO O A O O b2r) fun a A=>V A C O (aK O A O (fun w R=>aX (cs:=[(Iv D.a),(Iv D.b)]) fH (fun j u T=>cell_of R.le (b2f j u T)))) fun a A=>?_
   obtain⟨Q,K,B⟩:=bnd B
   refine rZ (wk0 O) O O A O O [(.agg #[(Iv D.a),(Iv D.b)])] ⟨O,tv⟩ ent39 (aQ7 D bp1c0 p1c0 C Q K) Ret.ret ?_
   intro v a w U A
   obtain⟨rfl,C⟩:=Ret.of U
   have C:=r1 C
   refine aB ?_
   have A:=A.cut (E':=[(0,vp0),(1,(.func (.func 39) #[] #[(Pv bp1c0 0)])),(5,(Iv aQ)),(7,(Iv (H.length:Int))),(8,(Iv aQ)),(16,(.bool Q))]) ⟨O,O,O,O,O,O,tv⟩
   refine dK A O (fun E=>?_) (fun E=>?_)
   ·replace B:=(it E).symm.trans B
    refine aG (aA ?_)
    refine S A 2 O fun a A=>aB (cZ ?_)
    refine⟨_,(oj B).symm,fun hb=>?_⟩
    subst hb
    obtain rfl:=oj G
    exact gY A O O ⟨_,O,O,C⟩
   replace B:=(ie E).symm.trans B
   refine bI (aA ?_)
   obtain⟨x3,J,B⟩:=bnd B
   refine V A C O (bF O A O O (aN J)) fun a A=>S A 1 O fun a A=>aB ?_
   exact⟨_,(oj B).symm,A.cut ⟨O,O,O,O,tv⟩,C⟩
  replace B:=(ie F).symm.trans B
  refine dZ ?_
  refine⟨_,(oj B).symm,fun hbb=>?_⟩
  exact⟨_,hbb.symm,A.cut trivial,C⟩
 rintro a w ⟨b1s,rfl,A,C⟩
 dsimp only at G
 refine aG (aA ?_)
 refine S A 1 O fun a A=>aB (cZ ?_)
 obtain rfl:=oj G
 exact gY A O O ⟨_,O,O,C⟩
theorem aJ8 {Z:World} {ρ:PH} {L:List bQ} {w:World} (M:(List Opn)) (vp0:Value) (hp0:aH ρ vp0 M) (F:Int) (C:Hp Z ρ (L) w) (r:(Int×Bool)) (E:zV M F=some r):
  Calls Tryz.prog 13 #[vp0,(Iv F)] w (Ret fun v w'=>v= .tuple #[(Iv r.1),(.bool r.2)]∧Hp Z ρ (L) w'):=by
 refine enter (N:=29) Tryz.func13 O O [(0,vp0),(1,(Iv F))] O (bH ⟨O,O,tv⟩) fun a A=>?_
 unfold zV at E
 refine aG (aA ?_)
 refine iH (wk0 O) O O A C O (v:=(Iv F)) O ?_
 intro a w b1 A C
 have C:=r1 C
 refine S A 2 O fun a A=>aB (aG ?_)
 refine aA (S A 1 O fun a A=>?_)
 refine V A C O (v:=(.func (.func 39) #[] #[(Pv b1 0)])) (ex_fn O A [(Pv b1 0)] (by exact⟨O,tv⟩)) fun a A=>?_
 obtain⟨H,U,E⟩:=bnd E
 refine Cl A O O ent38 (zW M vp0 hp0 b1 F C H U) ⟨O,O,tv⟩ fun v a w W A=>?_
 obtain⟨rfl,C⟩:=W
 have C:=r1 C
 refine S A 1 O fun a A=>aB (aG ?_)
 refine aG (aA ?_)
 refine S A 3 O fun a A=>?_
 refine jI [_,_,_] (fun a w=>Env 29 [(15,(.bool ((decide (H<0))||(decide (F<0))))),(0,vp0),(6,(Iv H))] a∧Hp Z ρ (Pt b1 (.cells #[(Iv F)] 3 (0,0))::L) w) ?_ ?_
 ·rcases vA (decide (H<0)) with D|D
  ·
   refine Gk A D O fun a A=>Gk A D O fun a A=>pk1 A D O O O O fun a A=>?_
   have A:=A.eqv (v':=(.bool ((decide (H<0))||(decide (F<0))))) (by rw[D];rfl)
   exact aB ⟨A.cut ⟨O,O,O,tv⟩,C⟩
  refine G A C D O (xl A aW 0 O O O O) fun a A=>Gs A D O O fun a A=>pk0 A D O O O O fun a A=>?_
  have A:=A.eqv (v':=(.bool ((decide (H<0))||(decide (F<0))))) (by rw[D];rfl)
  exact aB ⟨A.cut ⟨O,O,O,tv⟩,C⟩
 rintro a w ⟨A,C⟩
 refine S A 1 O fun a A=>?_
 obtain⟨m1,hg1,E⟩:=bnd E
 refine jI [_,_,_,_,_,_,_] (fun a w=>Env 29 [(23,(.bool m1)),(0,vp0),(6,(Iv H))] a∧Hp Z ρ (Pt b1 (.cells #[(Iv F)] 3 (0,0))::L) w) ?_ ?_
 ·rcases vA ((decide (H<0))||(decide (F<0))) with B|B
  ·
   replace hg1:=(it B).symm.trans hg1
   refine Gk A B O fun a A=>Gk A B O fun a A=>Gk A B O fun a A=>Gk A B O fun a A=>Gk A B O fun a A=>Gk A B O fun a A=>pk1 A B O O O O fun a A=>?_
   obtain rfl:=oj hg1
   exact aB ⟨A.cut ⟨O,O,O,tv⟩,C⟩
  replace hg1:=(ie B).symm.trans hg1
  refine Gs A B O O fun a A=>Gs A B O O fun a A=>?_
  obtain⟨K,T,hg1⟩:=bnd hg1
  obtain⟨b2,b2o,b2c,b2r,b2k,b2f⟩:=aH.at hp0 fE T
  obtain rfl:b2c=Enc.enc K:=b2k
  have b2f:AtP ρ b2 b2o [(Iv K.a),(Iv K.b)]:=b2f
  refine G A C B O (aO O A O O b2r) fun a A=>G A C B O (xf A eF O O) fun a A=>G A C B O (aK O A O (fun w Q=>aZ aW (b2f.c 1 O w Q))) fun a A=>Gs A B O O fun a A=>pk0 A B O O O O fun a A=>?_
  obtain rfl:=oj hg1
  exact aB ⟨A.cut ⟨O,O,O,tv⟩,C⟩
 rintro a w ⟨A,C⟩
 refine aB ?_
 refine dK A O (fun I=>?_) (fun I=>?_)
 ·replace E:=(it I).symm.trans E
  refine aG (aA ?_)
  refine S A 2 O fun a A=>aB (cZ ?_)
  obtain rfl:=oj E
  exact N7 A O O O ⟨_,O,O,(C.drop)⟩
 replace E:=(ie I).symm.trans E
 refine bI (aG ?_)
 refine aA (S A 2 O fun a A=>?_)
 obtain⟨J,R,E⟩:=bnd E
 obtain⟨b3,b3o,b3c,b3r,b3k,b3f⟩:=aH.at hp0 fE R
 obtain rfl:b3c=Enc.enc J:=b3k
 have b3f:AtP ρ b3 b3o [(Iv J.a),(Iv J.b)]:=b3f
 refine V A C O (aO O A O O b3r) fun a A=>V A C O (xf A eF O O) fun a A=>V A C O (aK O A O (fun w Q=>aZ aW (b3f.c 1 O w Q))) fun a A=>S A 2 O fun a A=>aB (cZ ?_)
 obtain rfl:=oj E
 exact N7 A O O O ⟨_,O,O,(C.drop)⟩
end Go.Proofs.YtopnldfjcciieaaGreat

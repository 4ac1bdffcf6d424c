/- The code goes as its model: assessor/distance.large$1, slices.IndexFunc[[]assessor/api.Node,assessor/api.Node]@assessor/distance.large$1, slices.ContainsFunc[[] -/
import Derived.Test.YtopnldfjcciieaaGreatKLeT
import Derived.Test.YtopnldfjcciieaaGreatKLe3
import Derived.Test.YtopnldfjcciieaaGreatKLe5
import Derived.Test.YtopnldfjcciieaaGreatKLe6
import Derived.Test.YtopnldfjcciieaaGreatKLe12
set_option linter.unusedVariables false
set_option linter.unusedSimpArgs false
set_option maxRecDepth 100000
set_option maxHeartbeats 4000000
namespace Go.Proofs.YtopnldfjcciieaaGreat
open Go.RowKit
theorem aP9 {Z:World} {ρ:PH} {L:List bQ} {w:World} (A:Node) (aI:Value) (aY:aH ρ aI A.kids) (C:Hp Z ρ (L) w) (r:Bool) (D:tX A=some r):
  Calls Tryz.prog 89 #[(.agg #[(Iv A.kind),(.string A.text),(Iv A.at_),(Iv A.fin),aI])] w (Ret fun v w'=>v=(.bool r)∧Hp Z ρ (L) w'):=by
 refine enter (N:=6) Tryz.func89 O O [(0,(.agg #[(Iv A.kind),(.string A.text),(Iv A.at_),(Iv A.fin),aI]))] O (bH ⟨O,tv⟩) fun a B=>?_
 unfold tX at D
 refine aG (aA ?_)
 refine iH (wk0 O) O O B C O (v:=(.agg #[(Iv A.kind),(.string A.text),(Iv A.at_),(Iv A.fin),aI])) O ?_
 intro a w b1 B C
 have C:=r1 C
 refine S B 1 O fun a B=>aB (aG ?_)
 refine aA (V B C O (aK O B O (fun w G=>aX (cs:=[(Iv A.kind),(.string A.text),(Iv A.at_),(Iv A.fin),aI]) cO (Hp.cN 0 O 0 _ (aS O) w G))) fun a B=>?_)
 obtain⟨F,E,D⟩:=bnd D
 refine Cl B O O ent64 (aN5 A aI aY C F E) ⟨O,tv⟩ fun v a w H B=>?_
 obtain⟨rfl,C⟩:=H
 have C:=r1 C
 refine S B 2 O fun a B=>aB (cZ ?_)
 obtain rfl:=oj D
 exact gY B O O ⟨_,O,O,(C.drop)⟩
theorem zS {Z:World} {ρ:PH} {L:List bQ} {w:World} (H:(List Node)) (vp0:Value) (hp0:aH ρ vp0 H) (C:Hp Z ρ (L) w) (r:Int) (G:jL H=some r):
  Calls Tryz.prog 103 #[vp0,(.func (.func 89) #[] #[])] w (Ret fun v w'=>v=(Iv r)∧Hp Z ρ (L) w'):=by
 refine enter (N:=19) Tryz.func103 O O [(0,vp0),(1,(.func (.func 89) #[] #[]))] O (bH ⟨O,O,tv⟩) fun a A=>?_
 unfold jL at G
 refine aG (aA ?_)
 refine S A 1 O fun a A=>aB (aG ?_)
 refine aG (aA ?_)
 refine S A 1 O fun a A=>V A C O (bW O A O (aH.len hp0 iZ)) fun a A=>S A 1 O fun a A=>aB ?_
 obtain⟨b1,I,G⟩:=bnd G
 refine dM (fun a w=>∃s:Unit,b1= .brk s∧(Env 19 [] a∧Hp Z ρ (L) w)) ?_ ?_
 ·refine eQ I (fun s a w=>Env 19 [(0,vp0),(1,(.func (.func 89) #[] #[])),(7,(Iv (H.length:Int))),(8,(Iv s))] a∧Hp Z ρ (L) w) ?_ ?_
  ·exact⟨A.cut ⟨O,O,O,O,tv⟩,C⟩
  rintro aQ st a w ⟨A,C⟩ B
  unfold gV at B
  refine aG (aA ?_)
  refine S A 1 O fun a A=>aB (aG ?_)
  refine dK A O (fun F=>?_) (fun F=>?_)
  ·replace B:=(it F).symm.trans B
   refine bI (aG ?_)
   refine dN (aG ?_)
   refine aA (S A 2 O fun a A=>?_)
   refine aB (aG ?_)
   refine aA (S A 3 O fun a A=>?_)
   obtain⟨D,M,B⟩:=bnd B
   obtain⟨b2,b2o,b2c,b2r,b2k,b2f⟩:=aH.at hp0 iZ M
   obtain⟨uP,rfl,aL7⟩:=NodeAt.opens b2k
   have b2f:AtP ρ b2 b2o [(Iv D.kind),(.string D.text),(Iv D.at_),(Iv D.fin),uP]:=b2f
   refine V A C O (aO O A O O b2r) fun a A=>V A C O (aK O A O (fun w R=>aX (cs:=[(Iv D.kind),(.string D.text),(Iv D.at_),(Iv D.fin),uP]) cO (fun j u T=>cell_of R.le (b2f j u T)))) fun a A=>?_
   obtain⟨Q,K,B⟩:=bnd B
   refine rZ (wk0 O) O O A O O [(.agg #[(Iv D.kind),(.string D.text),(Iv D.at_),(Iv D.fin),uP])] ⟨O,tv⟩ ent89 (aP9 D uP aL7 C Q K) Ret.ret ?_
   intro v a w U A
   obtain⟨rfl,C⟩:=Ret.of U
   have C:=r0 C
   refine aB ?_
   have A:=A.cut (E':=[(0,vp0),(1,(.func (.func 89) #[] #[])),(5,(Iv aQ)),(7,(Iv (H.length:Int))),(8,(Iv aQ)),(16,(.bool Q))]) ⟨O,O,O,O,O,O,tv⟩
   refine dK A O (fun E=>?_) (fun E=>?_)
   ·replace B:=(it E).symm.trans B
    refine aG (aA ?_)
    refine S A 2 O fun a A=>aB (cZ ?_)
    refine⟨_,(oj B).symm,fun hb=>?_⟩
    subst hb
    obtain rfl:=oj G
    exact gY A O O ⟨_,O,O,C⟩
   replace B:=(ie E).symm.trans B
   refine bI (aA ?_)
   obtain⟨x3,J,B⟩:=bnd B
   refine V A C O (bF O A O O (aN J)) fun a A=>S A 1 O fun a A=>aB ?_
   exact⟨_,(oj B).symm,A.cut ⟨O,O,O,O,tv⟩,C⟩
  replace B:=(ie F).symm.trans B
  refine dZ ?_
  refine⟨_,(oj B).symm,fun hbb=>?_⟩
  exact⟨_,hbb.symm,A.cut trivial,C⟩
 rintro a w ⟨b1s,rfl,A,C⟩
 dsimp only at G
 refine aG (aA ?_)
 refine S A 1 O fun a A=>aB (cZ ?_)
 obtain rfl:=oj G
 exact gY A O O ⟨_,O,O,C⟩
theorem yD {Z:World} {ρ:PH} {L:List bQ} {w:World} (D:(List Node)) (vp0:Value) (hp0:aH ρ vp0 D) (B:Hp Z ρ (L) w) (r:Bool) (C:iW D=some r):
  Calls Tryz.prog 88 #[vp0,(.func (.func 89) #[] #[])] w (Ret fun v w'=>v=(.bool r)∧Hp Z ρ (L) w'):=by
 refine enter (N:=9) Tryz.func88 O O [(0,vp0),(1,(.func (.func 89) #[] #[]))] O (bH ⟨O,O,tv⟩) fun a A=>?_
 unfold iW at C
 refine aG (aA ?_)
 refine S A 1 O fun a A=>aB (aG ?_)
 refine aA (S A 2 O fun a A=>?_)
 obtain⟨F,E,C⟩:=bnd C
 refine Cl A O O ent103 (zS D vp0 hp0 B F E) ⟨O,O,tv⟩ fun v a w G A=>?_
 obtain⟨rfl,B⟩:=G
 have B:=r0 B
 refine S A 2 O fun a A=>aB (cZ ?_)
 obtain rfl:=oj C
 exact gY A O O ⟨_,O,O,B⟩
theorem aS8 {Z:World} {ρ:PH} {L:List bQ} {w:World} (D:(List Node)) (vp0:Value) (hp0:aH ρ vp0 D) (B:Hp Z ρ (L) w) (r:Bool) (C:vX D=some r):
  Calls Tryz.prog 67 #[vp0] w (Ret fun v w'=>v=(.bool r)∧Hp Z ρ (L) w'):=by
 refine enter (N:=5) Tryz.func67 O O [(0,vp0)] O (bH ⟨O,tv⟩) fun a A=>?_
 unfold vX at C
 refine aG (aA ?_)
 refine S A 1 O fun a A=>aB (aG ?_)
 refine aA (S A 1 O fun a A=>?_)
 obtain⟨F,E,C⟩:=bnd C
 refine Cl A O O ent88 (yD D vp0 hp0 B F E) ⟨O,O,tv⟩ fun v a w G A=>?_
 obtain⟨rfl,B⟩:=G
 have B:=r0 B
 refine S A 1 O fun a A=>aB (cZ ?_)
 obtain rfl:=oj C
 exact gY A O O ⟨_,O,O,B⟩
theorem aD1 (self:Node→Int→DFlat→Option (Int×DFlat)) (hself:∀{Z:World} {ρ:PH} {L:List bQ} {w:World} (D:Node) (aI:Value) (aY:aH ρ aI D.kids) (bcp0:Nat) (cp0:Int) (bcp1:Nat) (cp1:DFlat) (eH:Value) (fM:Value) (dU:Value) (bcp2:Nat) (A:Hp Z ρ (Pt bcp0 (.cells #[(Iv cp0)] 3 (0,0))::Pt bcp1 (.cells #[eH,fM,dU] 135 (0,0))::aC 156 eH cp1.labels::aC 3 fM cp1.left::aC 3 dU cp1.numbers::Pt bcp2 (.cells #[(.func (.func 104) #[] #[(Pv bcp0 0),(Pv bcp1 0),(Pv bcp2 0)])] 154 (0,0))::L) w) (r:(Int×DFlat)) (K:self D cp0 cp1=some r),Calls Tryz.prog 104 #[(.agg #[(Iv D.kind),(.string D.text),(Iv D.at_),(Iv D.fin),aI]),(Pv bcp0 0),(Pv bcp1 0),(Pv bcp2 0)] w (Ret fun v w'=>∃(pW:Value) (tZ:Value) (nZ:Value),v= .tuple #[]∧Hp Z ρ (Pt bcp0 (.cells #[(Iv r.1)] 3 (0,0))::Pt bcp1 (.cells #[pW,tZ,nZ] 135 (0,0))::aC 156 pW r.2.labels::aC 3 tZ r.2.left::aC 3 nZ r.2.numbers::Pt bcp2 (.cells #[(.func (.func 104) #[] #[(Pv bcp0 0),(Pv bcp1 0),(Pv bcp2 0)])] 154 (0,0))::L) w')) {Z:World} {ρ:PH} {L:List bQ} {w:World} (D:Node) (aI:Value) (aY:aH ρ aI D.kids) (bcp0:Nat) (cp0:Int) (bcp1:Nat) (cp1:DFlat) (eH:Value) (fM:Value) (dU:Value) (bcp2:Nat) (A:Hp Z ρ (Pt bcp0 (.cells #[(Iv cp0)] 3 (0,0))::Pt bcp1 (.cells #[eH,fM,dU] 135 (0,0))::aC 156 eH cp1.labels::aC 3 fM cp1.left::aC 3 dU cp1.numbers::Pt bcp2 (.cells #[(.func (.func 104) #[] #[(Pv bcp0 0),(Pv bcp1 0),(Pv bcp2 0)])] 154 (0,0))::L) w) (r:(Int×DFlat)) (K:qP self D cp0 cp1=some r):
  Calls Tryz.prog 104 #[(.agg #[(Iv D.kind),(.string D.text),(Iv D.at_),(Iv D.fin),aI]),(Pv bcp0 0),(Pv bcp1 0),(Pv bcp2 0)] w (Ret fun v w'=>∃(pW:Value) (tZ:Value) (nZ:Value),v= .tuple #[]∧Hp Z ρ (Pt bcp0 (.cells #[(Iv r.1)] 3 (0,0))::Pt bcp1 (.cells #[pW,tZ,nZ] 135 (0,0))::aC 156 pW r.2.labels::aC 3 tZ r.2.left::aC 3 nZ r.2.numbers::Pt bcp2 (.cells #[(.func (.func 104) #[] #[(Pv bcp0 0),(Pv bcp1 0),(Pv bcp2 0)])] 154 (0,0))::L) w'):=by
 refine enter (N:=48) Tryz.func104 O O [(0,(.agg #[(Iv D.kind),(.string D.text),(Iv D.at_),(Iv D.fin),aI])),(1,(Pv bcp0 0)),(2,(Pv bcp1 0)),(3,(Pv bcp2 0))] O (bH ⟨O,O,O,O,tv⟩) fun a B=>?_
 unfold qP at K
 refine aG (aA ?_)
 refine iH (wk0 O) O O B A O (v:=(.agg #[(Iv D.kind),(.string D.text),(Iv D.at_),(Iv D.fin),aI])) O ?_
 intro a w b1 B A
 have A:=r7 A
 refine aB (aG ?_)
 refine jU kr kr A ?_
 refine Vq B O (xl B aW 1 O O O O) fun a B=>Vq B O (xf B jT O O) fun a B=>Vq B O (xl B lM 2 O O O O) fun a B=>Vq B O (bW O B O (aC.len A 3 O uF)) fun a B=>Sq B 2 O fun a B=>?_
 refine jQ fun w A=>?_
 have A:=r7 A
 refine aG (aA ?_)
 refine V B A O (xl B aW 1 O O O O) fun a B=>?_
 obtain⟨f,Y,K⟩:=bnd K
 refine V B A O (bF O B O O (aN Y)) fun a B=>?_
 refine aV (wk0 O) O B A O O O 1 O aW.size_ O (aP ⟨O,tv⟩) [(Iv f)] O ?_
 intro w A
 have A:=r7 A
 refine aB (aG ?_)
 refine aG (aA ?_)
 refine V B A O (xf B qA O O) fun a B=>V B A O (xl B iK 0 O O O O) fun a B=>V B A O (bW O B O (aH.len aY iZ)) fun a B=>S B 1 O fun a B=>aB ?_
 obtain⟨b2,R,K⟩:=bnd K
 refine dM (fun a w=>∃(w3:Value) (w4:Value) (w5:Value),Env 48 [(2,(Pv bcp1 0)),(4,(Pv b1 0)),(5,(Iv cp0)),(6,(Iv (cp1.labels.length:Int)))] a∧Hp Z ρ (Pt b1 (.cells #[(Iv D.kind),(.string D.text),(Iv D.at_),(Iv D.fin),aI] 24 (0,0))::Pt bcp0 (.cells #[(Iv b2.1)] 3 (0,0))::Pt bcp1 (.cells #[w3,w4,w5] 135 (0,0))::aC 156 w3 b2.2.1::aC 3 w4 b2.2.2.1::aC 3 w5 b2.2.2.2::Pt bcp2 (.cells #[(.func (.func 104) #[] #[(Pv bcp0 0),(Pv bcp1 0),(Pv bcp2 0)])] 154 (0,0))::L) w) ?_ ?_
 ·refine eQ R (fun s a w=>∃(w3:Value) (w4:Value) (w5:Value),Env 48 [(2,(Pv bcp1 0)),(3,(Pv bcp2 0)),(4,(Pv b1 0)),(5,(Iv cp0)),(6,(Iv (cp1.labels.length:Int))),(16,aI),(17,(Iv (D.kids.length:Int))),(18,(Iv s.1))] a∧Hp Z ρ (Pt b1 (.cells #[(Iv D.kind),(.string D.text),(Iv D.at_),(Iv D.fin),aI] 24 (0,0))::Pt bcp0 (.cells #[(Iv s.2.1)] 3 (0,0))::Pt bcp1 (.cells #[w3,w4,w5] 135 (0,0))::aC 156 w3 s.2.2.1::aC 3 w4 s.2.2.2.1::aC 3 w5 s.2.2.2.2::Pt bcp2 (.cells #[(.func (.func 104) #[] #[(Pv bcp0 0),(Pv bcp1 0),(Pv bcp2 0)])] 154 (0,0))::L) w) ?_ ?_
  ·exact⟨_,_,_,B.cut ⟨O,O,O,O,O,O,O,O,tv⟩,A⟩
  rintro⟨aQ,aU,dS,fK,lp1_4⟩ st a w ⟨w3,w4,w5,B,A⟩ H
  dsimp only at B A H
  unfold nO at H
  refine aG (aA ?_)
  refine S B 1 O fun a B=>aB (aG ?_)
  refine dK B O (fun M=>?_) (fun M=>?_)
  ·replace H:=(it M).symm.trans H
   refine bI (aG ?_)
   refine dN (aG ?_)
   refine aA ?_
   obtain⟨J,X,H⟩:=bnd H
   obtain⟨b3,b3o,b3c,b3r,b3k,b3f⟩:=aH.at aY iZ X
   obtain⟨pU,rfl,P6⟩:=NodeAt.opens b3k
   have b3f:AtP ρ b3 b3o [(Iv J.kind),(.string J.text),(Iv J.at_),(Iv J.fin),pU]:=b3f
   refine V B A O (aO O B O O b3r) fun a B=>V B A O (aK O B O (fun w Q=>aX (cs:=[(Iv J.kind),(.string J.text),(Iv J.at_),(Iv J.fin),pU]) cO (fun j u E=>cell_of Q.le (b3f j u E)))) fun a B=>?_
   refine dF (wk0 O) O O B A O [(Iv 0),(.string ByteArray.empty),(Iv 0),(Iv 0),N0] (fun w=>by simp[Instr.alloc,go_sem]<;>rfl) ?_
   intro a w b4 B A
   have A:=r8 A
   refine aV (wk0 O) O B A O O O 0 O cO.size_ O (aP ⟨O,O,O,O,(aH.one P6),tv⟩) [(Iv J.kind),(.string J.text),(Iv J.at_),(Iv J.fin),pU] O ?_
   intro w A
   have A:=r8 A
   refine aB ?_
   have B:=B.cut (E':=[(2,(Pv bcp1 0)),(3,(Pv bcp2 0)),(4,(Pv b1 0)),(5,(Iv cp0)),(6,(Iv (cp1.labels.length:Int))),(8,(Pv b4 0)),(16,aI),(17,(Iv (D.kids.length:Int))),(18,(Iv aQ))]) ⟨O,O,O,O,O,O,O,O,O,tv⟩
   refine aA (V B A O (xl B varty154 7 O O O O) fun a B=>?_)
   refine V B A O (aK O B O (fun w Q=>aX (cs:=[(Iv J.kind),(.string J.text),(Iv J.at_),(Iv J.fin),pU]) cO (Hp.cN 0 O 0 _ (aS O) w Q))) fun a B=>?_
   obtain⟨e,W,H⟩:=bnd H
   refine rZ (wk0 O) O O B O O [(.agg #[(Iv J.kind),(.string J.text),(Iv J.at_),(Iv J.fin),pU])] ⟨O,tv⟩ ent104 (hself J pU P6 bcp0 aU bcp1 (DFlat.mk dS fK lp1_4) w3 w4 w5 bcp2 ((((((A.get 7 O).get 7 O).get 7 O).get 7 O).get 7 O).get 7 O) e W) Ret.ret ?_
   intro v a w g B
   obtain⟨aJ7,aS5,aD7,rfl,A⟩:=Ret.of g
   have A:=r8 A
   refine aB (aA ?_)
   obtain⟨x4,U,H⟩:=bnd H
   refine V B A O (bF O B O O (aN U)) fun a B=>S B 1 O fun a B=>aB ?_
   exact⟨_,(oj H).symm,_,_,_,B.cut ⟨O,O,O,O,O,O,O,O,tv⟩,(((((((((A.get 5 O).get 5 O).get 5 O).get 5 O).get 5 O).get 5 O).get 7 O).get 7 O).drop)⟩
  replace H:=(ie M).symm.trans H
  refine dZ ?_
  refine⟨_,(oj H).symm,fun hbb=>?_⟩
  subst hbb
  exact⟨_,_,_,B.cut ⟨O,O,O,O,tv⟩,A⟩
 rintro a w ⟨w3,w4,w5,B,A⟩
 obtain⟨d,I,K⟩:=bnd K
 obtain⟨c,G,K⟩:=bnd K
 obtain⟨b,F,K⟩:=bnd K
 have A:=A.drew
 refine gK ([([],At0 Z ρ),([],At1 Z ρ (Pt b1 (.cells #[(Iv D.kind),(.string D.text),(Iv D.at_),(Iv D.fin),aI] 24 (0,0)))),([20,22,24],At1 Z ρ (Pt bcp1 (.cells #[w3,w4,w5] 135 (0,0))))]:Facts) (fun a w=>∃y15:Nat,∃y14:Nat,∃y13:Nat,∃y3:Value,∃y4:Value,∃y5:Value,Env 48 [] a∧Hp Z ρ (Pt y15 (.cells #[(Iv cp0)] 3 (0,0))::Pt y14 (.cells #[(Iv (cp1.labels.length:Int))] 3 (0,0))::Pt y13 (.cells #[(Iv D.kind),(.string D.text)] 156 (0,0))::Pt b1 (.cells #[(Iv D.kind),(.string D.text),(Iv D.at_),(Iv D.fin),aI] 24 (0,0))::Pt bcp0 (.cells #[(Iv b2.1)] 3 (0,0))::Pt bcp1 (.cells #[y3,y4,y5] 135 (0,0))::aC 156 y3 d::aC 3 y4 c::aC 3 y5 b::Pt bcp2 (.cells #[(.func (.func 104) #[] #[(Pv bcp0 0),(Pv bcp1 0),(Pv bcp2 0)])] 154 (0,0))::L) w) kr ⟨fun _=>⟨_,A⟩,fun _=>⟨_,(A.get 0 O)⟩,fun _=>⟨_,(A.get 2 O)⟩,tv⟩ (fun C=>?_) ?_
 ·
  generalize w.drew=w at C A⊢
  refine T0 0 B C O O O kr (fun _=>xf B jT O O) fun a B C=>T 1 2 B C O O O kr (fun _=>xl B lM 0 O O O O) fun a B C=>T0 2 B C O O O kr (fun _=>xf B zH O O) fun a B C=>T 3 1 B C O O O kr (fun _=>xl B aW 0 O O O O) fun a B C=>T0 4 B C O O O kr (fun _=>xf B xC O O) fun a B C=>T 5 1 B C O O O kr (fun _=>xl B V8 0 O O O O) fun a B C=>T0 6 B C O O O kr (v:=(.agg #[(Iv D.kind),(.string D.text)])) (fun _=>oD O B [(0,(Iv D.kind)),(1,(.string D.text))] (by exact⟨⟨O,O⟩,⟨O,O⟩,tv⟩) (fun w=>by simp[Instr.build,Instr.fill,Value.cells,go_sem])) fun a B C=>T0 9 B C O O O kr (fun _=>xf B iL O O) fun a B C=>T 10 2 B C O O O kr (fun _=>xl B aT 0 O O O O) fun a B C=>Ts [11] B C O O kr fun a B C=>T0 14 B C O O O kr (fun _=>xf B kP O O) fun a B C=>T 15 2 B C O O O kr (fun _=>xl B aT 0 O O O O) fun a B C=>Ts [16] B C O O kr fun a B C=>?_
  refine fQ [7,12,17] kr O ?_
  refine uE.2 ⟨?_,uE.2 ⟨?_,uE.2 ⟨?_,fun _ h=>absurd h (by simp)⟩⟩⟩
  ·
   refine dV O ?_
   refine fU (wk0 O) O O B A O [(0,(.agg #[(Iv D.kind),(.string D.text)]))] ⟨⟨O,O⟩,tv⟩ [(Iv D.kind),(.string D.text)] 156 (fun w=>by simp[Instr.buildSlice,Instr.fill,Value.cells,go_sem]) ?_
   intro a w b8 B A
   have A:=r8 A
   refine aB (aF ⟨gp0 A,gp 1 A O,gp 3 A O,tv⟩ fun C=>?_)
   refine fQ [8,12,17] kr O ?_
   refine uE.2 ⟨?_,uE.2 ⟨?_,uE.2 ⟨?_,fun _ h=>absurd h (by simp)⟩⟩⟩
   ·
    refine dV O ?_
    refine gB (wk0 O) O O B A O uF O O 4 O O (l2:=[(Lbl.mk D.kind D.text)]) O (fun j u E=>by have:=Hp.cN 0 O 0 _ (aS O) w A j u E;simpa using this) I ?_
    intro v4 a w B A
    have A:=r8 A
    refine aB (aF ⟨gp0 A,gp 1 A O,gp 3 A O,tv⟩ fun C=>?_)
    refine T0 19 B C O O O kr (fun _=>xf B jT O O) fun a B C=>?_
    refine fQ [12,17] kr O ?_
    refine uE.2 ⟨?_,uE.2 ⟨?_,fun _ h=>absurd h (by simp)⟩⟩
    ·
     refine dV O ?_
     refine fU (wk0 O) O O B A O [(0,(Iv (cp1.labels.length:Int)))] ⟨⟨O,O⟩,tv⟩ [(Iv (cp1.labels.length:Int))] 3 (fun w=>by simp[Instr.buildSlice,Instr.fill,Value.cells,go_sem]) ?_
     intro a w b9 B A
     have A:=r9 A
     refine aB (aF ⟨gp0 A,gp 2 A O,gp 4 A O,tv⟩ fun C=>?_)
     refine fQ [13,17] kr O ?_
     refine uE.2 ⟨?_,uE.2 ⟨?_,fun _ h=>absurd h (by simp)⟩⟩
     ·
      refine dV O ?_
      refine gB (wk0 O) O O B A O bD O O 6 O O (l2:=[(cp1.labels.length:Int)]) O (fun j u E=>by have:=Hp.cN 0 O 0 _ (aS O) w A j u E;simpa using this) G ?_
      intro v5 a w B A
      have A:=r9 A
      refine aB (aF ⟨gp0 A,gp 2 A O,gp 4 A O,tv⟩ fun C=>?_)
      refine W1 17 kr O ?_
      refine fU (wk0 O) O O B A O [(0,(Iv cp0))] ⟨⟨O,O⟩,tv⟩ [(Iv cp0)] 3 (fun w=>by simp[Instr.buildSlice,Instr.fill,Value.cells,go_sem]) ?_
      intro a w b10 B A
      have A:=r10 A
      refine aB (aF ⟨gp0 A,gp 3 A O,gp 5 A O,tv⟩ fun C=>?_)
      refine W1 18 kr O ?_
      refine gB (wk0 O) O O B A O bD O O 8 O O (l2:=[cp0]) O (fun j u E=>by have:=Hp.cN 0 O 0 _ (aS O) w A j u E;simpa using this) F ?_
      intro v6 a w B A
      have A:=r10 A
      refine aB (aF ⟨gp0 A,gp 3 A O,gp 5 A O,tv⟩ fun C=>?_)
      refine W1 20 kr O ?_
      refine bV (wk0 O) O B A O O O 5 O lM.size_ (aC.cells A 6 O) (aC.one A 6 O) O [v4,w4,w5] O ?_
      intro w A
      have A:=r10 A
      refine aB (aF ⟨gp0 A,gp 3 A O,dead kr,tv⟩ fun C=>?_)
      refine T0 21 B C O O O kr (fun _=>xf B iL O O) fun a B C=>?_
      refine W1 22 kr O ?_
      refine bV (wk0 O) O B A O O O 5 O aT.size_ (aC.cells A 7 O) (aC.one A 7 O) O [v4,v5,w5] O ?_
      intro w A
      have A:=r10 A
      refine aB (aF ⟨gp0 A,gp 3 A O,dead kr,tv⟩ fun C=>?_)
      refine T0 23 B C O O O kr (fun _=>xf B kP O O) fun a B C=>?_
      refine W1 24 kr O ?_
      refine bV (wk0 O) O B A O O O 5 O aT.size_ (aC.cells A 8 O) (aC.one A 8 O) O [v4,v5,v6] O ?_
      intro w A
      have A:=r10 A
      refine aB (aF ⟨gp0 A,gp 3 A O,dead kr,tv⟩ fun C=>?_)
      exact bT kr ⟨_,_,_,_,_,_,B.cut trivial,A⟩
     refine dV O ?_
     refine fU (wk0 O) O O B A O [(0,(Iv cp0))] ⟨⟨O,O⟩,tv⟩ [(Iv cp0)] 3 (fun w=>by simp[Instr.buildSlice,Instr.fill,Value.cells,go_sem]) ?_
     intro a w b11 B A
     have A:=r10 A
     refine aB (aF ⟨gp0 A,gp 3 A O,gp 5 A O,tv⟩ fun C=>?_)
     refine W1 13 kr O ?_
     refine gB (wk0 O) O O B A O bD O O 7 O O (l2:=[(cp1.labels.length:Int)]) O (fun j u E=>by have:=Hp.cN 1 O 0 _ (aS O) w A j u E;simpa using this) G ?_
     intro v7 a w B A
     have A:=r10 A
     refine aB (aF ⟨gp0 A,gp 3 A O,gp 5 A O,tv⟩ fun C=>?_)
     refine W1 18 kr O ?_
     refine gB (wk0 O) O O B A O bD O O 8 O O (l2:=[cp0]) O (fun j u E=>by have:=Hp.cN 0 O 0 _ (aS O) w A j u E;simpa using this) F ?_
     intro v8 a w B A
     have A:=r10 A
     refine aB (aF ⟨gp0 A,gp 3 A O,gp 5 A O,tv⟩ fun C=>?_)
     refine W1 20 kr O ?_
     refine bV (wk0 O) O B A O O O 5 O lM.size_ (aC.cells A 6 O) (aC.one A 6 O) O [v4,w4,w5] O ?_
     intro w A
     have A:=r10 A
     refine aB (aF ⟨gp0 A,gp 3 A O,dead kr,tv⟩ fun C=>?_)
     refine T0 21 B C O O O kr (fun _=>xf B iL O O) fun a B C=>?_
     refine W1 22 kr O ?_
     refine bV (wk0 O) O B A O O O 5 O aT.size_ (aC.cells A 7 O) (aC.one A 7 O) O [v4,v7,w5] O ?_
     intro w A
     have A:=r10 A
     refine aB (aF ⟨gp0 A,gp 3 A O,dead kr,tv⟩ fun C=>?_)
     refine T0 23 B C O O O kr (fun _=>xf B kP O O) fun a B C=>?_
     refine W1 24 kr O ?_
     refine bV (wk0 O) O B A O O O 5 O aT.size_ (aC.cells A 8 O) (aC.one A 8 O) O [v4,v7,v8] O ?_
     intro w A
     have A:=r10 A
     refine aB (aF ⟨gp0 A,gp 3 A O,dead kr,tv⟩ fun C=>?_)
     exact bT kr ⟨_,_,_,_,_,_,B.cut trivial,A⟩
    refine dV O ?_
    refine fU (wk0 O) O O B A O [(0,(Iv cp0))] ⟨⟨O,O⟩,tv⟩ [(Iv cp0)] 3 (fun w=>by simp[Instr.buildSlice,Instr.fill,Value.cells,go_sem]) ?_
    intro a w b12 B A
    have A:=r9 A
    refine aB (aF ⟨gp0 A,gp 2 A O,gp 4 A O,tv⟩ fun C=>?_)
    refine W1 12 kr O ?_
    refine fU (wk0 O) O O B A O [(0,(Iv (cp1.labels.length:Int)))] ⟨⟨O,O⟩,tv⟩ [(Iv (cp1.labels.length:Int))] 3 (fun w=>by simp[Instr.buildSlice,Instr.fill,Value.cells,go_sem]) ?_
    intro a w b13 B A
    have A:=r10 A
    refine aB (aF ⟨gp0 A,gp 3 A O,gp 5 A O,tv⟩ fun C=>?_)
    refine W1 13 kr O ?_
    refine gB (wk0 O) O O B A O bD O O 7 O O (l2:=[(cp1.labels.length:Int)]) O (fun j u E=>by have:=Hp.cN 0 O 0 _ (aS O) w A j u E;simpa using this) G ?_
    intro v9 a w B A
    have A:=r10 A
    refine aB (aF ⟨gp0 A,gp 3 A O,gp 5 A O,tv⟩ fun C=>?_)
    refine W1 18 kr O ?_
    refine gB (wk0 O) O O B A O bD O O 8 O O (l2:=[cp0]) O (fun j u E=>by have:=Hp.cN 1 O 0 _ (aS O) w A j u E;simpa using this) F ?_
    intro v10 a w B A
    have A:=r10 A
    refine aB (aF ⟨gp0 A,gp 3 A O,gp 5 A O,tv⟩ fun C=>?_)
    refine W1 20 kr O ?_
    refine bV (wk0 O) O B A O O O 5 O lM.size_ (aC.cells A 6 O) (aC.one A 6 O) O [v4,w4,w5] O ?_
    intro w A
    have A:=r10 A
    refine aB (aF ⟨gp0 A,gp 3 A O,dead kr,tv⟩ fun C=>?_)
    refine T0 21 B C O O O kr (fun _=>xf B iL O O) fun a B C=>?_
    refine W1 22 kr O ?_
    refine bV (wk0 O) O B A O O O 5 O aT.size_ (aC.cells A 7 O) (aC.one A 7 O) O [v4,v9,w5] O ?_
    intro w A
    have A:=r10 A
    refine aB (aF ⟨gp0 A,gp 3 A O,dead kr,tv⟩ fun C=>?_)
    refine T0 23 B C O O O kr (fun _=>xf B kP O O) fun a B C=>?_
    refine W1 24 kr O ?_
    refine bV (wk0 O) O B A O O O 5 O aT.size_ (aC.cells A 8 O) (aC.one A 8 O) O [v4,v9,v10] O ?_
    intro w A
    have A:=r10 A
    refine aB (aF ⟨gp0 A,gp 3 A O,dead kr,tv⟩ fun C=>?_)
    exact bT kr ⟨_,_,_,_,_,_,B.cut trivial,((((((((((A.get 9 O).get 9 O).get 9 O).get 9 O).get 9 O).get 9 O).get 9 O).get 9 O).get 8 O).get 9 O)⟩
   ·
    refine dV O ?_
    refine fU (wk0 O) O O B A O [(0,(Iv (cp1.labels.length:Int)))] ⟨⟨O,O⟩,tv⟩ [(Iv (cp1.labels.length:Int))] 3 (fun w=>by simp[Instr.buildSlice,Instr.fill,Value.cells,go_sem]) ?_
    intro a w b14 B A
    have A:=r9 A
    refine aB (aF ⟨gp0 A,gp 2 A O,gp 4 A O,tv⟩ fun C=>?_)
    refine fQ [8,17] kr O ?_
    refine uE.2 ⟨?_,uE.2 ⟨?_,fun _ h=>absurd h (by simp)⟩⟩
    ·
     refine dV O ?_
     refine gB (wk0 O) O O B A O uF O O 5 O O (l2:=[(Lbl.mk D.kind D.text)]) O (fun j u E=>by have:=Hp.cN 1 O 0 _ (aS O) w A j u E;simpa using this) I ?_
     intro v11 a w B A
     have A:=r9 A
     refine aB (aF ⟨gp0 A,gp 2 A O,gp 4 A O,tv⟩ fun C=>?_)
     refine T0 19 B C O O O kr (fun _=>xf B jT O O) fun a B C=>?_
     refine fQ [13,17] kr O ?_
     refine uE.2 ⟨?_,uE.2 ⟨?_,fun _ h=>absurd h (by simp)⟩⟩
     ·
      refine dV O ?_
      refine gB (wk0 O) O O B A O bD O O 6 O O (l2:=[(cp1.labels.length:Int)]) O (fun j u E=>by have:=Hp.cN 0 O 0 _ (aS O) w A j u E;simpa using this) G ?_
      intro v12 a w B A
      have A:=r9 A
      refine aB (aF ⟨gp0 A,gp 2 A O,gp 4 A O,tv⟩ fun C=>?_)
      refine W1 17 kr O ?_
      refine fU (wk0 O) O O B A O [(0,(Iv cp0))] ⟨⟨O,O⟩,tv⟩ [(Iv cp0)] 3 (fun w=>by simp[Instr.buildSlice,Instr.fill,Value.cells,go_sem]) ?_
      intro a w b15 B A
      have A:=r10 A
      refine aB (aF ⟨gp0 A,gp 3 A O,gp 5 A O,tv⟩ fun C=>?_)
      refine W1 18 kr O ?_
      refine gB (wk0 O) O O B A O bD O O 8 O O (l2:=[cp0]) O (fun j u E=>by have:=Hp.cN 0 O 0 _ (aS O) w A j u E;simpa using this) F ?_
      intro v13 a w B A
      have A:=r10 A
      refine aB (aF ⟨gp0 A,gp 3 A O,gp 5 A O,tv⟩ fun C=>?_)
      refine W1 20 kr O ?_
      refine bV (wk0 O) O B A O O O 5 O lM.size_ (aC.cells A 6 O) (aC.one A 6 O) O [v11,w4,w5] O ?_
      intro w A
      have A:=r10 A
      refine aB (aF ⟨gp0 A,gp 3 A O,dead kr,tv⟩ fun C=>?_)
      refine T0 21 B C O O O kr (fun _=>xf B iL O O) fun a B C=>?_
      refine W1 22 kr O ?_
      refine bV (wk0 O) O B A O O O 5 O aT.size_ (aC.cells A 7 O) (aC.one A 7 O) O [v11,v12,w5] O ?_
      intro w A
      have A:=r10 A
      refine aB (aF ⟨gp0 A,gp 3 A O,dead kr,tv⟩ fun C=>?_)
      refine T0 23 B C O O O kr (fun _=>xf B kP O O) fun a B C=>?_
      refine W1 24 kr O ?_
      refine bV (wk0 O) O B A O O O 5 O aT.size_ (aC.cells A 8 O) (aC.one A 8 O) O [v11,v12,v13] O ?_
      intro w A
      have A:=r10 A
      refine aB (aF ⟨gp0 A,gp 3 A O,dead kr,tv⟩ fun C=>?_)
      exact bT kr ⟨_,_,_,_,_,_,B.cut trivial,A⟩
     refine dV O ?_
     refine fU (wk0 O) O O B A O [(0,(Iv cp0))] ⟨⟨O,O⟩,tv⟩ [(Iv cp0)] 3 (fun w=>by simp[Instr.buildSlice,Instr.fill,Value.cells,go_sem]) ?_
     intro a w b16 B A
     have A:=r10 A
     refine aB (aF ⟨gp0 A,gp 3 A O,gp 5 A O,tv⟩ fun C=>?_)
     refine W1 13 kr O ?_
     refine gB (wk0 O) O O B A O bD O O 7 O O (l2:=[(cp1.labels.length:Int)]) O (fun j u E=>by have:=Hp.cN 1 O 0 _ (aS O) w A j u E;simpa using this) G ?_
     intro v14 a w B A
     have A:=r10 A
     refine aB (aF ⟨gp0 A,gp 3 A O,gp 5 A O,tv⟩ fun C=>?_)
     refine W1 18 kr O ?_
     refine gB (wk0 O) O O B A O bD O O 8 O O (l2:=[cp0]) O (fun j u E=>by have:=Hp.cN 0 O 0 _ (aS O) w A j u E;simpa using this) F ?_
     intro v15 a w B A
     have A:=r10 A
     refine aB (aF ⟨gp0 A,gp 3 A O,gp 5 A O,tv⟩ fun C=>?_)
     refine W1 20 kr O ?_
     refine bV (wk0 O) O B A O O O 5 O lM.size_ (aC.cells A 6 O) (aC.one A 6 O) O [v11,w4,w5] O ?_
     intro w A
     have A:=r10 A
     refine aB (aF ⟨gp0 A,gp 3 A O,dead kr,tv⟩ fun C=>?_)
     refine T0 21 B C O O O kr (fun _=>xf B iL O O) fun a B C=>?_
     refine W1 22 kr O ?_
     refine bV (wk0 O) O B A O O O 5 O aT.size_ (aC.cells A 7 O) (aC.one A 7 O) O [v11,v14,w5] O ?_
     intro w A
     have A:=r10 A
     refine aB (aF ⟨gp0 A,gp 3 A O,dead kr,tv⟩ fun C=>?_)
     refine T0 23 B C O O O kr (fun _=>xf B kP O O) fun a B C=>?_
     refine W1 24 kr O ?_
     refine bV (wk0 O) O B A O O O 5 O aT.size_ (aC.cells A 8 O) (aC.one A 8 O) O [v11,v14,v15] O ?_
     intro w A
     have A:=r10 A
     refine aB (aF ⟨gp0 A,gp 3 A O,dead kr,tv⟩ fun C=>?_)
     exact bT kr ⟨_,_,_,_,_,_,B.cut trivial,A⟩
    refine dV O ?_
    refine fU (wk0 O) O O B A O [(0,(Iv cp0))] ⟨⟨O,O⟩,tv⟩ [(Iv cp0)] 3 (fun w=>by simp[Instr.buildSlice,Instr.fill,Value.cells,go_sem]) ?_
    intro a w b17 B A
    have A:=r10 A
    refine aB (aF ⟨gp0 A,gp 3 A O,gp 5 A O,tv⟩ fun C=>?_)
    refine W1 8 kr O ?_
    refine gB (wk0 O) O O B A O uF O O 6 O O (l2:=[(Lbl.mk D.kind D.text)]) O (fun j u E=>by have:=Hp.cN 2 O 0 _ (aS O) w A j u E;simpa using this) I ?_
    intro v16 a w B A
    have A:=r10 A
    refine aB (aF ⟨gp0 A,gp 3 A O,gp 5 A O,tv⟩ fun C=>?_)
    refine T0 19 B C O O O kr (fun _=>xf B jT O O) fun a B C=>?_
    refine W1 13 kr O ?_
    refine gB (wk0 O) O O B A O bD O O 7 O O (l2:=[(cp1.labels.length:Int)]) O (fun j u E=>by have:=Hp.cN 1 O 0 _ (aS O) w A j u E;simpa using this) G ?_
    intro v17 a w B A
    have A:=r10 A
    refine aB (aF ⟨gp0 A,gp 3 A O,gp 5 A O,tv⟩ fun C=>?_)
    refine W1 18 kr O ?_
    refine gB (wk0 O) O O B A O bD O O 8 O O (l2:=[cp0]) O (fun j u E=>by have:=Hp.cN 0 O 0 _ (aS O) w A j u E;simpa using this) F ?_
    intro v18 a w B A
    have A:=r10 A
    refine aB (aF ⟨gp0 A,gp 3 A O,gp 5 A O,tv⟩ fun C=>?_)
    refine W1 20 kr O ?_
    refine bV (wk0 O) O B A O O O 5 O lM.size_ (aC.cells A 6 O) (aC.one A 6 O) O [v16,w4,w5] O ?_
    intro w A
    have A:=r10 A
    refine aB (aF ⟨gp0 A,gp 3 A O,dead kr,tv⟩ fun C=>?_)
    refine T0 21 B C O O O kr (fun _=>xf B iL O O) fun a B C=>?_
    refine W1 22 kr O ?_
    refine bV (wk0 O) O B A O O O 5 O aT.size_ (aC.cells A 7 O) (aC.one A 7 O) O [v16,v17,w5] O ?_
    intro w A
    have A:=r10 A
    refine aB (aF ⟨gp0 A,gp 3 A O,dead kr,tv⟩ fun C=>?_)
    refine T0 23 B C O O O kr (fun _=>xf B kP O O) fun a B C=>?_
    refine W1 24 kr O ?_
    refine bV (wk0 O) O B A O O O 5 O aT.size_ (aC.cells A 8 O) (aC.one A 8 O) O [v16,v17,v18] O ?_
    intro w A
    have A:=r10 A
    refine aB (aF ⟨gp0 A,gp 3 A O,dead kr,tv⟩ fun C=>?_)
    exact bT kr ⟨_,_,_,_,_,_,B.cut trivial,A⟩
   refine dV O ?_
   refine fU (wk0 O) O O B A O [(0,(Iv cp0))] ⟨⟨O,O⟩,tv⟩ [(Iv cp0)] 3 (fun w=>by simp[Instr.buildSlice,Instr.fill,Value.cells,go_sem]) ?_
   intro a w b18 B A
   have A:=r9 A
   refine aB (aF ⟨gp0 A,gp 2 A O,gp 4 A O,tv⟩ fun C=>?_)
   refine fQ [8,12] kr O ?_
   refine uE.2 ⟨?_,uE.2 ⟨?_,fun _ h=>absurd h (by simp)⟩⟩
   ·
    refine dV O ?_
    refine gB (wk0 O) O O B A O uF O O 5 O O (l2:=[(Lbl.mk D.kind D.text)]) O (fun j u E=>by have:=Hp.cN 1 O 0 _ (aS O) w A j u E;simpa using this) I ?_
    intro v19 a w B A
    have A:=r9 A
    refine aB (aF ⟨gp0 A,gp 2 A O,gp 4 A O,tv⟩ fun C=>?_)
    refine T0 19 B C O O O kr (fun _=>xf B jT O O) fun a B C=>?_
    refine W1 12 kr O ?_
    refine fU (wk0 O) O O B A O [(0,(Iv (cp1.labels.length:Int)))] ⟨⟨O,O⟩,tv⟩ [(Iv (cp1.labels.length:Int))] 3 (fun w=>by simp[Instr.buildSlice,Instr.fill,Value.cells,go_sem]) ?_
    intro a w b19 B A
    have A:=r10 A
    refine aB (aF ⟨gp0 A,gp 3 A O,gp 5 A O,tv⟩ fun C=>?_)
    refine W1 13 kr O ?_
    refine gB (wk0 O) O O B A O bD O O 7 O O (l2:=[(cp1.labels.length:Int)]) O (fun j u E=>by have:=Hp.cN 0 O 0 _ (aS O) w A j u E;simpa using this) G ?_
    intro v20 a w B A
    have A:=r10 A
    refine aB (aF ⟨gp0 A,gp 3 A O,gp 5 A O,tv⟩ fun C=>?_)
    refine W1 18 kr O ?_
    refine gB (wk0 O) O O B A O bD O O 8 O O (l2:=[cp0]) O (fun j u E=>by have:=Hp.cN 1 O 0 _ (aS O) w A j u E;simpa using this) F ?_
    intro v21 a w B A
    have A:=r10 A
    refine aB (aF ⟨gp0 A,gp 3 A O,gp 5 A O,tv⟩ fun C=>?_)
    refine W1 20 kr O ?_
    refine bV (wk0 O) O B A O O O 5 O lM.size_ (aC.cells A 6 O) (aC.one A 6 O) O [v19,w4,w5] O ?_
    intro w A
    have A:=r10 A
    refine aB (aF ⟨gp0 A,gp 3 A O,dead kr,tv⟩ fun C=>?_)
    refine T0 21 B C O O O kr (fun _=>xf B iL O O) fun a B C=>?_
    refine W1 22 kr O ?_
    refine bV (wk0 O) O B A O O O 5 O aT.size_ (aC.cells A 7 O) (aC.one A 7 O) O [v19,v20,w5] O ?_
    intro w A
    have A:=r10 A
    refine aB (aF ⟨gp0 A,gp 3 A O,dead kr,tv⟩ fun C=>?_)
    refine T0 23 B C O O O kr (fun _=>xf B kP O O) fun a B C=>?_
    refine W1 24 kr O ?_
    refine bV (wk0 O) O B A O O O 5 O aT.size_ (aC.cells A 8 O) (aC.one A 8 O) O [v19,v20,v21] O ?_
    intro w A
    have A:=r10 A
    refine aB (aF ⟨gp0 A,gp 3 A O,dead kr,tv⟩ fun C=>?_)
    exact bT kr ⟨_,_,_,_,_,_,B.cut trivial,((((((((((A.get 9 O).get 9 O).get 9 O).get 9 O).get 9 O).get 9 O).get 9 O).get 9 O).get 8 O).get 9 O)⟩
   refine dV O ?_
   refine fU (wk0 O) O O B A O [(0,(Iv (cp1.labels.length:Int)))] ⟨⟨O,O⟩,tv⟩ [(Iv (cp1.labels.length:Int))] 3 (fun w=>by simp[Instr.buildSlice,Instr.fill,Value.cells,go_sem]) ?_
   intro a w b20 B A
   have A:=r10 A
   refine aB (aF ⟨gp0 A,gp 3 A O,gp 5 A O,tv⟩ fun C=>?_)
   refine W1 8 kr O ?_
   refine gB (wk0 O) O O B A O uF O O 6 O O (l2:=[(Lbl.mk D.kind D.text)]) O (fun j u E=>by have:=Hp.cN 2 O 0 _ (aS O) w A j u E;simpa using this) I ?_
   intro v22 a w B A
   have A:=r10 A
   refine aB (aF ⟨gp0 A,gp 3 A O,gp 5 A O,tv⟩ fun C=>?_)
   refine T0 19 B C O O O kr (fun _=>xf B jT O O) fun a B C=>?_
   refine W1 13 kr O ?_
   refine gB (wk0 O) O O B A O bD O O 7 O O (l2:=[(cp1.labels.length:Int)]) O (fun j u E=>by have:=Hp.cN 0 O 0 _ (aS O) w A j u E;simpa using this) G ?_
   intro v23 a w B A
   have A:=r10 A
   refine aB (aF ⟨gp0 A,gp 3 A O,gp 5 A O,tv⟩ fun C=>?_)
   refine W1 18 kr O ?_
   refine gB (wk0 O) O O B A O bD O O 8 O O (l2:=[cp0]) O (fun j u E=>by have:=Hp.cN 1 O 0 _ (aS O) w A j u E;simpa using this) F ?_
   intro v24 a w B A
   have A:=r10 A
   refine aB (aF ⟨gp0 A,gp 3 A O,gp 5 A O,tv⟩ fun C=>?_)
   refine W1 20 kr O ?_
   refine bV (wk0 O) O B A O O O 5 O lM.size_ (aC.cells A 6 O) (aC.one A 6 O) O [v22,w4,w5] O ?_
   intro w A
   have A:=r10 A
   refine aB (aF ⟨gp0 A,gp 3 A O,dead kr,tv⟩ fun C=>?_)
   refine T0 21 B C O O O kr (fun _=>xf B iL O O) fun a B C=>?_
   refine W1 22 kr O ?_
   refine bV (wk0 O) O B A O O O 5 O aT.size_ (aC.cells A 7 O) (aC.one A 7 O) O [v22,v23,w5] O ?_
   intro w A
   have A:=r10 A
   refine aB (aF ⟨gp0 A,gp 3 A O,dead kr,tv⟩ fun C=>?_)
   refine T0 23 B C O O O kr (fun _=>xf B kP O O) fun a B C=>?_
   refine W1 24 kr O ?_
   refine bV (wk0 O) O B A O O O 5 O aT.size_ (aC.cells A 8 O) (aC.one A 8 O) O [v22,v23,v24] O ?_
   intro w A
   have A:=r10 A
   refine aB (aF ⟨gp0 A,gp 3 A O,dead kr,tv⟩ fun C=>?_)
   exact bT kr ⟨_,_,_,_,_,_,B.cut trivial,((((((((((A.get 9 O).get 9 O).get 9 O).get 9 O).get 9 O).get 9 O).get 9 O).get 9 O).get 8 O).get 9 O)⟩
  ·
   refine dV O ?_
   refine fU (wk0 O) O O B A O [(0,(Iv (cp1.labels.length:Int)))] ⟨⟨O,O⟩,tv⟩ [(Iv (cp1.labels.length:Int))] 3 (fun w=>by simp[Instr.buildSlice,Instr.fill,Value.cells,go_sem]) ?_
   intro a w b21 B A
   have A:=r8 A
   refine aB (aF ⟨gp0 A,gp 1 A O,gp 3 A O,tv⟩ fun C=>?_)
   refine fQ [7,17] kr O ?_
   refine uE.2 ⟨?_,uE.2 ⟨?_,fun _ h=>absurd h (by simp)⟩⟩
   ·
    refine dV O ?_
    refine fU (wk0 O) O O B A O [(0,(.agg #[(Iv D.kind),(.string D.text)]))] ⟨⟨O,O⟩,tv⟩ [(Iv D.kind),(.string D.text)] 156 (fun w=>by simp[Instr.buildSlice,Instr.fill,Value.cells,go_sem]) ?_
    intro a w b22 B A
    have A:=r9 A
    refine aB (aF ⟨gp0 A,gp 2 A O,gp 4 A O,tv⟩ fun C=>?_)
    refine fQ [8,17] kr O ?_
    refine uE.2 ⟨?_,uE.2 ⟨?_,fun _ h=>absurd h (by simp)⟩⟩
    ·
     refine dV O ?_
     refine gB (wk0 O) O O B A O uF O O 5 O O (l2:=[(Lbl.mk D.kind D.text)]) O (fun j u E=>by have:=Hp.cN 0 O 0 _ (aS O) w A j u E;simpa using this) I ?_
     intro v25 a w B A
     have A:=r9 A
     refine aB (aF ⟨gp0 A,gp 2 A O,gp 4 A O,tv⟩ fun C=>?_)
     refine T0 19 B C O O O kr (fun _=>xf B jT O O) fun a B C=>?_
     refine fQ [13,17] kr O ?_
     refine uE.2 ⟨?_,uE.2 ⟨?_,fun _ h=>absurd h (by simp)⟩⟩
     ·
      refine dV O ?_
      refine gB (wk0 O) O O B A O bD O O 6 O O (l2:=[(cp1.labels.length:Int)]) O (fun j u E=>by have:=Hp.cN 1 O 0 _ (aS O) w A j u E;simpa using this) G ?_
      intro v26 a w B A
      have A:=r9 A
      refine aB (aF ⟨gp0 A,gp 2 A O,gp 4 A O,tv⟩ fun C=>?_)
      refine W1 17 kr O ?_
      refine fU (wk0 O) O O B A O [(0,(Iv cp0))] ⟨⟨O,O⟩,tv⟩ [(Iv cp0)] 3 (fun w=>by simp[Instr.buildSlice,Instr.fill,Value.cells,go_sem]) ?_
      intro a w b23 B A
      have A:=r10 A
      refine aB (aF ⟨gp0 A,gp 3 A O,gp 5 A O,tv⟩ fun C=>?_)
      refine W1 18 kr O ?_
      refine gB (wk0 O) O O B A O bD O O 8 O O (l2:=[cp0]) O (fun j u E=>by have:=Hp.cN 0 O 0 _ (aS O) w A j u E;simpa using this) F ?_
      intro v27 a w B A
      have A:=r10 A
      refine aB (aF ⟨gp0 A,gp 3 A O,gp 5 A O,tv⟩ fun C=>?_)
      refine W1 20 kr O ?_
      refine bV (wk0 O) O B A O O O 5 O lM.size_ (aC.cells A 6 O) (aC.one A 6 O) O [v25,w4,w5] O ?_
      intro w A
      have A:=r10 A
      refine aB (aF ⟨gp0 A,gp 3 A O,dead kr,tv⟩ fun C=>?_)
      refine T0 21 B C O O O kr (fun _=>xf B iL O O) fun a B C=>?_
      refine W1 22 kr O ?_
      refine bV (wk0 O) O B A O O O 5 O aT.size_ (aC.cells A 7 O) (aC.one A 7 O) O [v25,v26,w5] O ?_
      intro w A
      have A:=r10 A
      refine aB (aF ⟨gp0 A,gp 3 A O,dead kr,tv⟩ fun C=>?_)
      refine T0 23 B C O O O kr (fun _=>xf B kP O O) fun a B C=>?_
      refine W1 24 kr O ?_
      refine bV (wk0 O) O B A O O O 5 O aT.size_ (aC.cells A 8 O) (aC.one A 8 O) O [v25,v26,v27] O ?_
      intro w A
      have A:=r10 A
      refine aB (aF ⟨gp0 A,gp 3 A O,dead kr,tv⟩ fun C=>?_)
      exact bT kr ⟨_,_,_,_,_,_,B.cut trivial,((((((((((A.get 9 O).get 9 O).get 9 O).get 9 O).get 9 O).get 9 O).get 9 O).get 8 O).get 9 O).get 9 O)⟩
     refine dV O ?_
     refine fU (wk0 O) O O B A O [(0,(Iv cp0))] ⟨⟨O,O⟩,tv⟩ [(Iv cp0)] 3 (fun w=>by simp[Instr.buildSlice,Instr.fill,Value.cells,go_sem]) ?_
     intro a w b24 B A
     have A:=r10 A
     refine aB (aF ⟨gp0 A,gp 3 A O,gp 5 A O,tv⟩ fun C=>?_)
     refine W1 13 kr O ?_
     refine gB (wk0 O) O O B A O bD O O 7 O O (l2:=[(cp1.labels.length:Int)]) O (fun j u E=>by have:=Hp.cN 2 O 0 _ (aS O) w A j u E;simpa using this) G ?_
     intro v28 a w B A
     have A:=r10 A
     refine aB (aF ⟨gp0 A,gp 3 A O,gp 5 A O,tv⟩ fun C=>?_)
     refine W1 18 kr O ?_
     refine gB (wk0 O) O O B A O bD O O 8 O O (l2:=[cp0]) O (fun j u E=>by have:=Hp.cN 0 O 0 _ (aS O) w A j u E;simpa using this) F ?_
     intro v29 a w B A
     have A:=r10 A
     refine aB (aF ⟨gp0 A,gp 3 A O,gp 5 A O,tv⟩ fun C=>?_)
     refine W1 20 kr O ?_
     refine bV (wk0 O) O B A O O O 5 O lM.size_ (aC.cells A 6 O) (aC.one A 6 O) O [v25,w4,w5] O ?_
     intro w A
     have A:=r10 A
     refine aB (aF ⟨gp0 A,gp 3 A O,dead kr,tv⟩ fun C=>?_)
     refine T0 21 B C O O O kr (fun _=>xf B iL O O) fun a B C=>?_
     refine W1 22 kr O ?_
     refine bV (wk0 O) O B A O O O 5 O aT.size_ (aC.cells A 7 O) (aC.one A 7 O) O [v25,v28,w5] O ?_
     intro w A
     have A:=r10 A
     refine aB (aF ⟨gp0 A,gp 3 A O,dead kr,tv⟩ fun C=>?_)
     refine T0 23 B C O O O kr (fun _=>xf B kP O O) fun a B C=>?_
     refine W1 24 kr O ?_
     refine bV (wk0 O) O B A O O O 5 O aT.size_ (aC.cells A 8 O) (aC.one A 8 O) O [v25,v28,v29] O ?_
     intro w A
     have A:=r10 A
     refine aB (aF ⟨gp0 A,gp 3 A O,dead kr,tv⟩ fun C=>?_)
     exact bT kr ⟨_,_,_,_,_,_,B.cut trivial,((((((((((A.get 9 O).get 9 O).get 9 O).get 9 O).get 9 O).get 9 O).get 9 O).get 8 O).get 9 O).get 9 O)⟩
    refine dV O ?_
    refine fU (wk0 O) O O B A O [(0,(Iv cp0))] ⟨⟨O,O⟩,tv⟩ [(Iv cp0)] 3 (fun w=>by simp[Instr.buildSlice,Instr.fill,Value.cells,go_sem]) ?_
    intro a w b25 B A
    have A:=r10 A
    refine aB (aF ⟨gp0 A,gp 3 A O,gp 5 A O,tv⟩ fun C=>?_)
    refine W1 8 kr O ?_
    refine gB (wk0 O) O O B A O uF O O 6 O O (l2:=[(Lbl.mk D.kind D.text)]) O (fun j u E=>by have:=Hp.cN 1 O 0 _ (aS O) w A j u E;simpa using this) I ?_
    intro v30 a w B A
    have A:=r10 A
    refine aB (aF ⟨gp0 A,gp 3 A O,gp 5 A O,tv⟩ fun C=>?_)
    refine T0 19 B C O O O kr (fun _=>xf B jT O O) fun a B C=>?_
    refine W1 13 kr O ?_
    refine gB (wk0 O) O O B A O bD O O 7 O O (l2:=[(cp1.labels.length:Int)]) O (fun j u E=>by have:=Hp.cN 2 O 0 _ (aS O) w A j u E;simpa using this) G ?_
    intro v31 a w B A
    have A:=r10 A
    refine aB (aF ⟨gp0 A,gp 3 A O,gp 5 A O,tv⟩ fun C=>?_)
    refine W1 18 kr O ?_
    refine gB (wk0 O) O O B A O bD O O 8 O O (l2:=[cp0]) O (fun j u E=>by have:=Hp.cN 0 O 0 _ (aS O) w A j u E;simpa using this) F ?_
    intro v32 a w B A
    have A:=r10 A
    refine aB (aF ⟨gp0 A,gp 3 A O,gp 5 A O,tv⟩ fun C=>?_)
    refine W1 20 kr O ?_
    refine bV (wk0 O) O B A O O O 5 O lM.size_ (aC.cells A 6 O) (aC.one A 6 O) O [v30,w4,w5] O ?_
    intro w A
    have A:=r10 A
    refine aB (aF ⟨gp0 A,gp 3 A O,dead kr,tv⟩ fun C=>?_)
    refine T0 21 B C O O O kr (fun _=>xf B iL O O) fun a B C=>?_
    refine W1 22 kr O ?_
    refine bV (wk0 O) O B A O O O 5 O aT.size_ (aC.cells A 7 O) (aC.one A 7 O) O [v30,v31,w5] O ?_
    intro w A
    have A:=r10 A
    refine aB (aF ⟨gp0 A,gp 3 A O,dead kr,tv⟩ fun C=>?_)
    refine T0 23 B C O O O kr (fun _=>xf B kP O O) fun a B C=>?_
    refine W1 24 kr O ?_
    refine bV (wk0 O) O B A O O O 5 O aT.size_ (aC.cells A 8 O) (aC.one A 8 O) O [v30,v31,v32] O ?_
    intro w A
    have A:=r10 A
    refine aB (aF ⟨gp0 A,gp 3 A O,dead kr,tv⟩ fun C=>?_)
    exact bT kr ⟨_,_,_,_,_,_,B.cut trivial,((((((((((A.get 9 O).get 9 O).get 9 O).get 9 O).get 9 O).get 9 O).get 9 O).get 8 O).get 9 O).get 9 O)⟩
   refine dV O ?_
   refine fU (wk0 O) O O B A O [(0,(Iv cp0))] ⟨⟨O,O⟩,tv⟩ [(Iv cp0)] 3 (fun w=>by simp[Instr.buildSlice,Instr.fill,Value.cells,go_sem]) ?_
   intro a w b26 B A
   have A:=r9 A
   refine aB (aF ⟨gp0 A,gp 2 A O,gp 4 A O,tv⟩ fun C=>?_)
   refine W1 7 kr O ?_
   refine fU (wk0 O) O O B A O [(0,(.agg #[(Iv D.kind),(.string D.text)]))] ⟨⟨O,O⟩,tv⟩ [(Iv D.kind),(.string D.text)] 156 (fun w=>by simp[Instr.buildSlice,Instr.fill,Value.cells,go_sem]) ?_
   intro a w b27 B A
   have A:=r10 A
   refine aB (aF ⟨gp0 A,gp 3 A O,gp 5 A O,tv⟩ fun C=>?_)
   refine W1 8 kr O ?_
   refine gB (wk0 O) O O B A O uF O O 6 O O (l2:=[(Lbl.mk D.kind D.text)]) O (fun j u E=>by have:=Hp.cN 0 O 0 _ (aS O) w A j u E;simpa using this) I ?_
   intro v33 a w B A
   have A:=r10 A
   refine aB (aF ⟨gp0 A,gp 3 A O,gp 5 A O,tv⟩ fun C=>?_)
   refine T0 19 B C O O O kr (fun _=>xf B jT O O) fun a B C=>?_
   refine W1 13 kr O ?_
   refine gB (wk0 O) O O B A O bD O O 7 O O (l2:=[(cp1.labels.length:Int)]) O (fun j u E=>by have:=Hp.cN 2 O 0 _ (aS O) w A j u E;simpa using this) G ?_
   intro v34 a w B A
   have A:=r10 A
   refine aB (aF ⟨gp0 A,gp 3 A O,gp 5 A O,tv⟩ fun C=>?_)
   refine W1 18 kr O ?_
   refine gB (wk0 O) O O B A O bD O O 8 O O (l2:=[cp0]) O (fun j u E=>by have:=Hp.cN 1 O 0 _ (aS O) w A j u E;simpa using this) F ?_
   intro v35 a w B A
   have A:=r10 A
   refine aB (aF ⟨gp0 A,gp 3 A O,gp 5 A O,tv⟩ fun C=>?_)
   refine W1 20 kr O ?_
   refine bV (wk0 O) O B A O O O 5 O lM.size_ (aC.cells A 6 O) (aC.one A 6 O) O [v33,w4,w5] O ?_
   intro w A
   have A:=r10 A
   refine aB (aF ⟨gp0 A,gp 3 A O,dead kr,tv⟩ fun C=>?_)
   refine T0 21 B C O O O kr (fun _=>xf B iL O O) fun a B C=>?_
   refine W1 22 kr O ?_
   refine bV (wk0 O) O B A O O O 5 O aT.size_ (aC.cells A 7 O) (aC.one A 7 O) O [v33,v34,w5] O ?_
   intro w A
   have A:=r10 A
   refine aB (aF ⟨gp0 A,gp 3 A O,dead kr,tv⟩ fun C=>?_)
   refine T0 23 B C O O O kr (fun _=>xf B kP O O) fun a B C=>?_
   refine W1 24 kr O ?_
   refine bV (wk0 O) O B A O O O 5 O aT.size_ (aC.cells A 8 O) (aC.one A 8 O) O [v33,v34,v35] O ?_
   intro w A
   have A:=r10 A
   refine aB (aF ⟨gp0 A,gp 3 A O,dead kr,tv⟩ fun C=>?_)
   exact bT kr ⟨_,_,_,_,_,_,B.cut trivial,((((((((((A.get 9 O).get 9 O).get 9 O).get 9 O).get 9 O).get 9 O).get 9 O).get 7 O).get 9 O).get 9 O)⟩
  refine dV O ?_
  refine fU (wk0 O) O O B A O [(0,(Iv cp0))] ⟨⟨O,O⟩,tv⟩ [(Iv cp0)] 3 (fun w=>by simp[Instr.buildSlice,Instr.fill,Value.cells,go_sem]) ?_
  intro a w b28 B A
  have A:=r8 A
  refine aB (aF ⟨gp0 A,gp 1 A O,gp 3 A O,tv⟩ fun C=>?_)
  refine fQ [7,12] kr O ?_
  refine uE.2 ⟨?_,uE.2 ⟨?_,fun _ h=>absurd h (by simp)⟩⟩
  ·
   refine dV O ?_
   refine fU (wk0 O) O O B A O [(0,(.agg #[(Iv D.kind),(.string D.text)]))] ⟨⟨O,O⟩,tv⟩ [(Iv D.kind),(.string D.text)] 156 (fun w=>by simp[Instr.buildSlice,Instr.fill,Value.cells,go_sem]) ?_
   intro a w b29 B A
   have A:=r9 A
   refine aB (aF ⟨gp0 A,gp 2 A O,gp 4 A O,tv⟩ fun C=>?_)
   refine fQ [8,12] kr O ?_
   refine uE.2 ⟨?_,uE.2 ⟨?_,fun _ h=>absurd h (by simp)⟩⟩
   ·
    refine dV O ?_
    refine gB (wk0 O) O O B A O uF O O 5 O O (l2:=[(Lbl.mk D.kind D.text)]) O (fun j u E=>by have:=Hp.cN 0 O 0 _ (aS O) w A j u E;simpa using this) I ?_
    intro v36 a w B A
    have A:=r9 A
    refine aB (aF ⟨gp0 A,gp 2 A O,gp 4 A O,tv⟩ fun C=>?_)
    refine T0 19 B C O O O kr (fun _=>xf B jT O O) fun a B C=>?_
    refine W1 12 kr O ?_
    refine fU (wk0 O) O O B A O [(0,(Iv (cp1.labels.length:Int)))] ⟨⟨O,O⟩,tv⟩ [(Iv (cp1.labels.length:Int))] 3 (fun w=>by simp[Instr.buildSlice,Instr.fill,Value.cells,go_sem]) ?_
    intro a w b30 B A
    have A:=r10 A
    refine aB (aF ⟨gp0 A,gp 3 A O,gp 5 A O,tv⟩ fun C=>?_)
    refine W1 13 kr O ?_
    refine gB (wk0 O) O O B A O bD O O 7 O O (l2:=[(cp1.labels.length:Int)]) O (fun j u E=>by have:=Hp.cN 0 O 0 _ (aS O) w A j u E;simpa using this) G ?_
    intro v37 a w B A
    have A:=r10 A
    refine aB (aF ⟨gp0 A,gp 3 A O,gp 5 A O,tv⟩ fun C=>?_)
    refine W1 18 kr O ?_
    refine gB (wk0 O) O O B A O bD O O 8 O O (l2:=[cp0]) O (fun j u E=>by have:=Hp.cN 2 O 0 _ (aS O) w A j u E;simpa using this) F ?_
    intro v38 a w B A
    have A:=r10 A
    refine aB (aF ⟨gp0 A,gp 3 A O,gp 5 A O,tv⟩ fun C=>?_)
    refine W1 20 kr O ?_
    refine bV (wk0 O) O B A O O O 5 O lM.size_ (aC.cells A 6 O) (aC.one A 6 O) O [v36,w4,w5] O ?_
    intro w A
    have A:=r10 A
    refine aB (aF ⟨gp0 A,gp 3 A O,dead kr,tv⟩ fun C=>?_)
    refine T0 21 B C O O O kr (fun _=>xf B iL O O) fun a B C=>?_
    refine W1 22 kr O ?_
    refine bV (wk0 O) O B A O O O 5 O aT.size_ (aC.cells A 7 O) (aC.one A 7 O) O [v36,v37,w5] O ?_
    intro w A
    have A:=r10 A
    refine aB (aF ⟨gp0 A,gp 3 A O,dead kr,tv⟩ fun C=>?_)
    refine T0 23 B C O O O kr (fun _=>xf B kP O O) fun a B C=>?_
    refine W1 24 kr O ?_
    refine bV (wk0 O) O B A O O O 5 O aT.size_ (aC.cells A 8 O) (aC.one A 8 O) O [v36,v37,v38] O ?_
    intro w A
    have A:=r10 A
    refine aB (aF ⟨gp0 A,gp 3 A O,dead kr,tv⟩ fun C=>?_)
    exact bT kr ⟨_,_,_,_,_,_,B.cut trivial,((((((((((A.get 9 O).get 9 O).get 9 O).get 9 O).get 9 O).get 9 O).get 9 O).get 8 O).get 8 O).get 9 O)⟩
   refine dV O ?_
   refine fU (wk0 O) O O B A O [(0,(Iv (cp1.labels.length:Int)))] ⟨⟨O,O⟩,tv⟩ [(Iv (cp1.labels.length:Int))] 3 (fun w=>by simp[Instr.buildSlice,Instr.fill,Value.cells,go_sem]) ?_
   intro a w b31 B A
   have A:=r10 A
   refine aB (aF ⟨gp0 A,gp 3 A O,gp 5 A O,tv⟩ fun C=>?_)
   refine W1 8 kr O ?_
   refine gB (wk0 O) O O B A O uF O O 6 O O (l2:=[(Lbl.mk D.kind D.text)]) O (fun j u E=>by have:=Hp.cN 1 O 0 _ (aS O) w A j u E;simpa using this) I ?_
   intro v39 a w B A
   have A:=r10 A
   refine aB (aF ⟨gp0 A,gp 3 A O,gp 5 A O,tv⟩ fun C=>?_)
   refine T0 19 B C O O O kr (fun _=>xf B jT O O) fun a B C=>?_
   refine W1 13 kr O ?_
   refine gB (wk0 O) O O B A O bD O O 7 O O (l2:=[(cp1.labels.length:Int)]) O (fun j u E=>by have:=Hp.cN 0 O 0 _ (aS O) w A j u E;simpa using this) G ?_
   intro v40 a w B A
   have A:=r10 A
   refine aB (aF ⟨gp0 A,gp 3 A O,gp 5 A O,tv⟩ fun C=>?_)
   refine W1 18 kr O ?_
   refine gB (wk0 O) O O B A O bD O O 8 O O (l2:=[cp0]) O (fun j u E=>by have:=Hp.cN 2 O 0 _ (aS O) w A j u E;simpa using this) F ?_
   intro v41 a w B A
   have A:=r10 A
   refine aB (aF ⟨gp0 A,gp 3 A O,gp 5 A O,tv⟩ fun C=>?_)
   refine W1 20 kr O ?_
   refine bV (wk0 O) O B A O O O 5 O lM.size_ (aC.cells A 6 O) (aC.one A 6 O) O [v39,w4,w5] O ?_
   intro w A
   have A:=r10 A
   refine aB (aF ⟨gp0 A,gp 3 A O,dead kr,tv⟩ fun C=>?_)
   refine T0 21 B C O O O kr (fun _=>xf B iL O O) fun a B C=>?_
   refine W1 22 kr O ?_
   refine bV (wk0 O) O B A O O O 5 O aT.size_ (aC.cells A 7 O) (aC.one A 7 O) O [v39,v40,w5] O ?_
   intro w A
   have A:=r10 A
   refine aB (aF ⟨gp0 A,gp 3 A O,dead kr,tv⟩ fun C=>?_)
   refine T0 23 B C O O O kr (fun _=>xf B kP O O) fun a B C=>?_
   refine W1 24 kr O ?_
   refine bV (wk0 O) O B A O O O 5 O aT.size_ (aC.cells A 8 O) (aC.one A 8 O) O [v39,v40,v41] O ?_
   intro w A
   have A:=r10 A
   refine aB (aF ⟨gp0 A,gp 3 A O,dead kr,tv⟩ fun C=>?_)
   exact bT kr ⟨_,_,_,_,_,_,B.cut trivial,((((((((((A.get 9 O).get 9 O).get 9 O).get 9 O).get 9 O).get 9 O).get 9 O).get 8 O).get 8 O).get 9 O)⟩
  refine dV O ?_
  refine fU (wk0 O) O O B A O [(0,(Iv (cp1.labels.length:Int)))] ⟨⟨O,O⟩,tv⟩ [(Iv (cp1.labels.length:Int))] 3 (fun w=>by simp[Instr.buildSlice,Instr.fill,Value.cells,go_sem]) ?_
  intro a w b32 B A
  have A:=r9 A
  refine aB (aF ⟨gp0 A,gp 2 A O,gp 4 A O,tv⟩ fun C=>?_)
  refine W1 7 kr O ?_
  refine fU (wk0 O) O O B A O [(0,(.agg #[(Iv D.kind),(.string D.text)]))] ⟨⟨O,O⟩,tv⟩ [(Iv D.kind),(.string D.text)] 156 (fun w=>by simp[Instr.buildSlice,Instr.fill,Value.cells,go_sem]) ?_
  intro a w b33 B A
  have A:=r10 A
  refine aB (aF ⟨gp0 A,gp 3 A O,gp 5 A O,tv⟩ fun C=>?_)
  refine W1 8 kr O ?_
  refine gB (wk0 O) O O B A O uF O O 6 O O (l2:=[(Lbl.mk D.kind D.text)]) O (fun j u E=>by have:=Hp.cN 0 O 0 _ (aS O) w A j u E;simpa using this) I ?_
  intro v42 a w B A
  have A:=r10 A
  refine aB (aF ⟨gp0 A,gp 3 A O,gp 5 A O,tv⟩ fun C=>?_)
  refine T0 19 B C O O O kr (fun _=>xf B jT O O) fun a B C=>?_
  refine W1 13 kr O ?_
  refine gB (wk0 O) O O B A O bD O O 7 O O (l2:=[(cp1.labels.length:Int)]) O (fun j u E=>by have:=Hp.cN 1 O 0 _ (aS O) w A j u E;simpa using this) G ?_
  intro v43 a w B A
  have A:=r10 A
  refine aB (aF ⟨gp0 A,gp 3 A O,gp 5 A O,tv⟩ fun C=>?_)
  refine W1 18 kr O ?_
  refine gB (wk0 O) O O B A O bD O O 8 O O (l2:=[cp0]) O (fun j u E=>by have:=Hp.cN 2 O 0 _ (aS O) w A j u E;simpa using this) F ?_
  intro v44 a w B A
  have A:=r10 A
  refine aB (aF ⟨gp0 A,gp 3 A O,gp 5 A O,tv⟩ fun C=>?_)
  refine W1 20 kr O ?_
  refine bV (wk0 O) O B A O O O 5 O lM.size_ (aC.cells A 6 O) (aC.one A 6 O) O [v42,w4,w5] O ?_
  intro w A
  have A:=r10 A
  refine aB (aF ⟨gp0 A,gp 3 A O,dead kr,tv⟩ fun C=>?_)
  refine T0 21 B C O O O kr (fun _=>xf B iL O O) fun a B C=>?_
  refine W1 22 kr O ?_
  refine bV (wk0 O) O B A O O O 5 O aT.size_ (aC.cells A 7 O) (aC.one A 7 O) O [v42,v43,w5] O ?_
  intro w A
  have A:=r10 A
  refine aB (aF ⟨gp0 A,gp 3 A O,dead kr,tv⟩ fun C=>?_)
  refine T0 23 B C O O O kr (fun _=>xf B kP O O) fun a B C=>?_
  refine W1 24 kr O ?_
  refine bV (wk0 O) O B A O O O 5 O aT.size_ (aC.cells A 8 O) (aC.one A 8 O) O [v42,v43,v44] O ?_
  intro w A
  have A:=r10 A
  refine aB (aF ⟨gp0 A,gp 3 A O,dead kr,tv⟩ fun C=>?_)
  exact bT kr ⟨_,_,_,_,_,_,B.cut trivial,((((((((((A.get 9 O).get 9 O).get 9 O).get 9 O).get 9 O).get 9 O).get 9 O).get 7 O).get 8 O).get 9 O)⟩
 rintro a w ⟨y15,y14,y13,y3,y4,y5,B,A⟩
 obtain rfl:=oj K
 exact aD6 B O ⟨_,O,_,_,_,O,(((((((A.get 3 O).drop).get 2 O).drop).get 1 O).drop).drop)⟩
theorem aH8:∀(n:Nat),∀{Z:World} {ρ:PH} {L:List bQ} {w:World} (A:Node) (aI:Value) (aY:aH ρ aI A.kids) (bcp0:Nat) (cp0:Int) (bcp1:Nat) (cp1:DFlat) (eH:Value) (fM:Value) (dU:Value) (bcp2:Nat) (C:Hp Z ρ (Pt bcp0 (.cells #[(Iv cp0)] 3 (0,0))::Pt bcp1 (.cells #[eH,fM,dU] 135 (0,0))::aC 156 eH cp1.labels::aC 3 fM cp1.left::aC 3 dU cp1.numbers::Pt bcp2 (.cells #[(.func (.func 104) #[] #[(Pv bcp0 0),(Pv bcp1 0),(Pv bcp2 0)])] 154 (0,0))::L) w) (r:(Int×DFlat)) (B:mD n A cp0 cp1=some r),Calls Tryz.prog 104 #[(.agg #[(Iv A.kind),(.string A.text),(Iv A.at_),(Iv A.fin),aI]),(Pv bcp0 0),(Pv bcp1 0),(Pv bcp2 0)] w (Ret fun v w'=>∃(pW:Value) (tZ:Value) (nZ:Value),v= .tuple #[]∧Hp Z ρ (Pt bcp0 (.cells #[(Iv r.1)] 3 (0,0))::Pt bcp1 (.cells #[pW,tZ,nZ] 135 (0,0))::aC 156 pW r.2.labels::aC 3 tZ r.2.left::aC 3 nZ r.2.numbers::Pt bcp2 (.cells #[(.func (.func 104) #[] #[(Pv bcp0 0),(Pv bcp1 0),(Pv bcp2 0)])] 154 (0,0))::L) w'):=by
 intro n
 induction n with
 |zero=>intro Z ρ L w A aI aY bcp0 cp0 bcp1 cp1 eH fM dU bcp2 C r B;cases B
 |succ n ih=>intro Z ρ L w A aI aY bcp0 cp0 bcp1 cp1 eH fM dU bcp2 C r B;exact aD1 (mD n) ih A aI aY bcp0 cp0 bcp1 cp1 eH fM dU bcp2 C r B
theorem aL4 {Z:World} {ρ:PH} {L:List bQ} {w:World} (A:Node) (aI:Value) (aY:aH ρ aI A.kids) (bcp0:Nat) (cp0:Int) (bcp1:Nat) (cp1:DFlat) (eH:Value) (fM:Value) (dU:Value) (bcp2:Nat) (B:Hp Z ρ (Pt bcp0 (.cells #[(Iv cp0)] 3 (0,0))::Pt bcp1 (.cells #[eH,fM,dU] 135 (0,0))::aC 156 eH cp1.labels::aC 3 fM cp1.left::aC 3 dU cp1.numbers::Pt bcp2 (.cells #[(.func (.func 104) #[] #[(Pv bcp0 0),(Pv bcp1 0),(Pv bcp2 0)])] 154 (0,0))::L) w) (r:(Int×DFlat)) (C:yX A cp0 cp1=some r):
  Calls Tryz.prog 104 #[(.agg #[(Iv A.kind),(.string A.text),(Iv A.at_),(Iv A.fin),aI]),(Pv bcp0 0),(Pv bcp1 0),(Pv bcp2 0)] w (Ret fun v w'=>∃(pW:Value) (tZ:Value) (nZ:Value),v= .tuple #[]∧Hp Z ρ (Pt bcp0 (.cells #[(Iv r.1)] 3 (0,0))::Pt bcp1 (.cells #[pW,tZ,nZ] 135 (0,0))::aC 156 pW r.2.labels::aC 3 tZ r.2.left::aC 3 nZ r.2.numbers::Pt bcp2 (.cells #[(.func (.func 104) #[] #[(Pv bcp0 0),(Pv bcp1 0),(Pv bcp2 0)])] 154 (0,0))::L) w'):=aH8 _ A aI aY bcp0 cp0 bcp1 cp1 eH fM dU bcp2 B r C
theorem eY {Z:World} {ρ:PH} {L:List bQ} {w:World} (C:Node) (aI:Value) (aY:aH ρ aI C.kids) (A:Hp Z ρ (L) w) (r:DFlat) (D:qZ C=some r):
  Calls Tryz.prog 90 #[(.agg #[(Iv C.kind),(.string C.text),(Iv C.at_),(Iv C.fin),aI])] w (Ret fun v w'=>∃(vr1_labels:Value) (uS:Value) (nR:Value),v=(.agg #[vr1_labels,uS,nR])∧Hp Z ρ (aC 156 vr1_labels r.labels::aC 3 uS r.left::aC 3 nR r.numbers::L) w'):=by
 refine enter (N:=11) Tryz.func90 O O [(0,(.agg #[(Iv C.kind),(.string C.text),(Iv C.at_),(Iv C.fin),aI]))] O (bH ⟨O,tv⟩) fun a B=>?_
 unfold qZ at D
 refine aG (aA ?_)
 refine iH (wk0 O) O O B A O (v:=(.agg #[(Iv C.kind),(.string C.text),(Iv C.at_),(Iv C.fin),aI])) O ?_
 intro a w b1 B A
 have A:=r1 A
 refine dF (wk0 O) O O B A O [N0,N0,N0] (fun w=>by simp[Instr.alloc,go_sem]<;>rfl) ?_
 intro a w b2 B A
 have A:=r2 A
 refine aB (aG ?_)
 refine aA ?_
 refine dF (wk0 O) O O B A O [N0,N0,N0] (fun w=>by simp[Instr.alloc,go_sem]<;>rfl) ?_
 intro a w b3 B A
 have A:=r3 A
 refine aB (aG ?_)
 refine aA ?_
 refine dF (wk0 O) O O B A O [(Iv 0)] (fun w=>by simp[Instr.alloc,go_sem]<;>rfl) ?_
 intro a w b4 B A
 have A:=r4 A
 refine aV (wk0 O) O B A O O O 0 O aW.size_ O (aP ⟨O,tv⟩) [(Iv 0)] O ?_
 intro w A
 have A:=r4 A
 refine aB (aG ?_)
 refine aA ?_
 refine dF (wk0 O) O O B A O [.nilFunc] (fun w=>by simp[Instr.alloc,go_sem]<;>rfl) ?_
 intro a w b5 B A
 have A:=r5 A
 refine aB (aG ?_)
 refine aA (V B A O (v:=(.func (.func 104) #[] #[(Pv b4 0),(Pv b3 0),(Pv b5 0)])) (ex_fn O B [(Pv b4 0),(Pv b3 0),(Pv b5 0)] (by exact⟨O,O,O,tv⟩)) fun a B=>?_)
 refine aV (wk0 O) O B A O O O 0 O varty154.size_ O (aP ⟨O,tv⟩) [(.func (.func 104) #[] #[(Pv b4 0),(Pv b3 0),(Pv b5 0)])] O ?_
 intro w A
 have A:=r5 A
 refine aB (aG ?_)
 refine aA (V B A O (xl B varty154 0 O O O O) fun a B=>?_)
 refine V B A O (aK O B O (fun w E=>aX (cs:=[(Iv C.kind),(.string C.text),(Iv C.at_),(Iv C.fin),aI]) cO (Hp.cN 4 O 0 _ (aS O) w E))) fun a B=>?_
 have A:=A.emp (aC.nil (α:=Lbl) 156)
 have A:=r6 A
 have A:=A.emp (aC.nil (α:=Int) 3)
 have A:=r7 A
 have A:=A.emp (aC.nil (α:=Int) 3)
 have A:=r8 A
 have A:=r8 A
 obtain⟨G,F,D⟩:=bnd D
 refine rZ (wk0 O) O O B O O [(.agg #[(Iv C.kind),(.string C.text),(Iv C.at_),(Iv C.fin),aI])] ⟨O,tv⟩ ent104 (aL4 C aI aY b4 0 b3 (DFlat.mk ([]) ([]) ([])) N0 N0 N0 b5 ((((((A.get 3 O).get 1 O).get 2 O).get 3 O).get 5 O).get 5 O) G F) Ret.ret ?_
 intro v a w H B
 obtain⟨aJ7,aS5,aD7,rfl,A⟩:=Ret.of H
 have A:=r8 A
 refine aB (aG ?_)
 refine aA (V B A O (aK O B O (fun w E=>aX (cs:=[aJ7,aS5,aD7]) iO (Hp.cN 1 O 0 _ (aS O) w E))) fun a B=>?_)
 refine aV (wk0 O) O B A O O O 6 O iO.size_ O (aP ⟨(aC.one A 2 O),(aC.one A 3 O),(aC.one A 4 O),tv⟩) [aJ7,aS5,aD7] O ?_
 intro w A
 have A:=r8 A
 refine aB (cZ ?_)
 obtain rfl:=oj D
 exact retc1 B O O (aI6 (cs:=[aJ7,aS5,aD7]) iO (Hp.cN 6 O 0 _ (aS O) _ A)) ⟨_,O,_,_,_,O,(((((((((A.get 7 O).drop).get 6 O).drop).get 5 O).drop).get 1 O).drop).drop)⟩
theorem I8 {Z:World} {ρ:PH} {L:List bQ} {w:World} (E:DFlat) (sQ:Value) (hp0_labels:aH ρ sQ E.labels) (eU:Value) (aA2:aH ρ eU E.left) (dH:Value) (hp0_numbers:aH ρ dH E.numbers) (B:Hp Z ρ (L) w) (r:(List Int)) (F:kS E=some r):
  Calls Tryz.prog 93 #[(.agg #[sQ,eU,dH])] w (Ret fun v w'=>∃(vr1:Value),v=vr1∧Hp Z ρ (aC 3 vr1 r::L) w'):=by
 refine enter (N:=22) Tryz.func93 O O [(0,(.agg #[sQ,eU,dH]))] O (bH ⟨O,tv⟩) fun a A=>?_
 unfold kS at F
 refine aG (aA ?_)
 refine iH (wk0 O) O O A B O (v:=(.agg #[sQ,eU,dH])) O ?_
 intro a w b1 A B
 have B:=r1 B
 refine S A 1 O fun a A=>aB (aG ?_)
 refine aA ?_
 refine s_mkmap (κ:=Int) (β:=Int) (wk0 O) O O A B O ?_
 intro a w b2 A B
 have B:=r2 B
 refine S A 1 O fun a A=>aB (aG ?_)
 refine aG (aA ?_)
 refine V A B O (xf A iL O O) fun a A=>V A B O (xl A aT 1 O O O O) fun a A=>V A B O (bW O A O (aH.len aA2 bD)) fun a A=>S A 1 O fun a A=>aB ?_
 obtain⟨b3,H,F⟩:=bnd F
 refine dM (fun a w=>Env 22 [(3,(.map (some b2)))] a∧Hp Z ρ (vJ b2 (b3:List (Int×Int))::Pt b1 (.cells #[sQ,eU,dH] 135 (0,0))::L) w) ?_ ?_
 ·refine eQ H (fun s a w=>Env 22 [(3,(.map (some b2))),(8,eU),(9,(Iv (E.left.length:Int))),(10,(Iv s.1))] a∧Hp Z ρ (vJ b2 (s.2:List (Int×Int))::Pt b1 (.cells #[sQ,eU,dH] 135 (0,0))::L) w) ?_ ?_
  ·exact⟨A.cut ⟨O,O,O,O,tv⟩,B⟩
  rintro⟨aQ,aU⟩ st a w ⟨A,B⟩ C
  dsimp only at A B C
  unfold mV at C
  refine aG (aA ?_)
  refine S A 1 O fun a A=>aB (aG ?_)
  refine dK A O (fun D=>?_) (fun D=>?_)
  ·replace C:=(it D).symm.trans C
   refine bI (aG ?_)
   refine dN (aG ?_)
   refine aA (S A 1 O fun a A=>?_)
   obtain⟨G,M,C⟩:=bnd C
   obtain⟨b4,b4o,b4c,b4r,b4k,b4f⟩:=aH.at aA2 bD M
   obtain rfl:b4c=Enc.enc G:=b4k
   have b4f:AtP ρ b4 b4o [(Iv G)]:=b4f
   refine V A B O (aO O A O O b4r) fun a A=>V A B O (aK O A O (fun w R=>aZ aW (b4f.c 0 O w R))) fun a A=>S A 2 O fun a A=>aB ?_
   have A:=A.cut (E':=[(3,(.map (some b2))),(4,(Iv aQ)),(5,(Iv G)),(8,eU),(9,(Iv (E.left.length:Int))),(10,(Iv aQ))]) ⟨O,O,O,O,O,O,tv⟩
   refine aA (S A 3 O fun a A=>?_)
   refine s_mput kt3 mapty157 (wk0 O) O A B O 0 (k:=G) (v:=aQ) O O O O ?_
   intro w B
   have B:=r2 B
   refine aB (aA ?_)
   obtain⟨x2,K,C⟩:=bnd C
   refine V A B O (bF O A O O (aN K)) fun a A=>S A 1 O fun a A=>aB ?_
   exact⟨_,(oj C).symm,A.cut ⟨O,O,O,O,tv⟩,B⟩
  replace C:=(ie D).symm.trans C
  refine dZ ?_
  refine⟨_,(oj C).symm,fun hbb=>?_⟩
  subst hbb
  exact⟨A.cut ⟨O,tv⟩,B⟩
 rintro a w ⟨A,B⟩
 refine aG (aA ?_)
 refine S A 1 O fun a A=>?_
 refine Cl A O O ent107 (c_values_ii b2 B) ⟨O,tv⟩ fun v a w I A=>?_
 obtain⟨b5,rfl,B⟩:=I
 have B:=r3 B
 obtain⟨Q,J,F⟩:=bnd F
 refine s_call (wk0 O) O O A O [(.func (.func 116) #[] #[.pointer (some ⟨b5,0,none⟩)])] ⟨O,tv⟩ ent106 (c_sortedV b3 ((B.get 1 O).get 1 O) Q J) Ret.ret ?_
 intro v1 a w I A
 obtain⟨u,hu,B⟩:=Ret.of I
 rw[←hu] at B
 have B:=r4 B
 refine S A 1 O fun a A=>aB (cZ ?_)
 obtain rfl:=oj F
 exact gY A O O ⟨_,O,_,O,((((((B.get 3 O).drop).get 2 O).drop).get 1 O).drop)⟩
theorem J5 {Z:World} {ρ:PH} {L:List bQ} {w:World} (H:Int) (F:Int) (C:Hp Z ρ (L) w) (r:(List (List Int))) (E:rC H F=some r):
  Calls Tryz.prog 91 #[(Iv H),(Iv F)] w (Ret fun v w'=>∃(vr1:Value) (usr1:List Sl),v=vr1∧Hp Z ρ (bM 73 3 vr1 usr1 (r:(List (List Int)))::L) w'):=by
 refine enter (N:=21) Tryz.func91 O O [(0,(Iv H)),(1,(Iv F))] O (bH ⟨O,O,tv⟩) fun a A=>?_
 unfold rC at E
 refine aG (aA ?_)
 refine S A 1 O fun a A=>aB (aG ?_)
 refine aA (S A 1 O fun a A=>?_)
 obtain⟨Q,M,E⟩:=bnd E
 refine s_tmake (wk0 O) O O A C O (T:=73) (bytes:=24) kr kr O O O M 3 ?_
 intro v1 us1 a w A C
 have C:=r1 C
 refine S A 1 O fun a A=>aB (aG ?_)
 refine aG (aA ?_)
 refine S A 1 O fun a A=>V A C O (bW O A O (bM.len C 0 O iE)) fun a A=>S A 1 O fun a A=>aB ?_
 obtain⟨b1,I,E⟩:=bnd E
 refine dM (fun a w=>∃(w2:Value) (us2:List Sl),Env 21 [(5,w2)] a∧Hp Z ρ (bM 73 3 w2 us2 (b1:(List (List Int)))::L) w) ?_ ?_
 ·refine eQ I (fun s a w=>∃(w2:Value) (us2:List Sl),Env 21 [(1,(Iv F)),(5,w2),(10,(Iv (Q.length:Int))),(11,(Iv s.1))] a∧Hp Z ρ (bM 73 3 w2 us2 (s.2:(List (List Int)))::L) w) ?_ ?_
  ·exact⟨_,_,A.cut ⟨O,O,O,O,tv⟩,C⟩
  rintro⟨aQ,aU⟩ st a w ⟨w2,us2,A,C⟩ B
  dsimp only at A C B
  unfold rQ at B
  refine aG (aA ?_)
  refine S A 1 O fun a A=>aB (aG ?_)
  refine dK A O (fun D=>?_) (fun D=>?_)
  ·replace B:=(it D).symm.trans B
   refine bI (aG ?_)
   refine dN (aG ?_)
   refine aA (S A 2 O fun a A=>?_)
   refine aB (aA ?_)
   refine S A 3 O fun a A=>?_
   obtain⟨x2,K,B⟩:=bnd B
   refine aM4 (wk0 O) O O A C O (El:=3) (bytes:=8) kr (0:Int) kr kr O O K ?_
   intro v2 a w A C
   have C:=r2 C
   obtain⟨x3,G,B⟩:=bnd B
   obtain⟨b2u,b2,b2o,b2h,b2r,b2v,b2f⟩:=bM.hdr C 1 O iE G
   refine V A C O (aO O A O O b2r) fun a A=>?_
   obtain⟨sl1,sl1e⟩:=aC.toSl C 0 O
   refine s_tput (wk0 O) O A sl1e (C.get 0 O) O O O 0 O b2h G b2v aT.size_ ?_
   intro w C
   have C:=r1 C
   refine aB ?_
   have A:=A.cut (E':=[(1,(Iv F)),(5,w2),(10,(Iv (Q.length:Int))),(11,(Iv aQ))]) ⟨O,O,O,O,tv⟩
   refine aA ?_
   obtain⟨x4,J,B⟩:=bnd B
   refine V A C O (bF O A O O (aN J)) fun a A=>S A 1 O fun a A=>aB ?_
   exact⟨_,(oj B).symm,_,_,A.cut ⟨O,O,O,O,tv⟩,C⟩
  replace B:=(ie D).symm.trans B
  refine dZ ?_
  refine⟨_,(oj B).symm,fun hbb=>?_⟩
  subst hbb
  exact⟨_,_,A.cut ⟨O,tv⟩,C⟩
 rintro a w ⟨w2,us2,A,C⟩
 refine aG (aA ?_)
 refine S A 2 O fun a A=>aB (cZ ?_)
 obtain rfl:=oj E
 exact gY A O O ⟨_,O,_,_,O,C⟩
theorem aR1 {Z:World} {ρ:PH} {L:List bQ} {w:World} (D:DFlat) (sQ:Value) (hp0_labels:aH ρ sQ D.labels) (eU:Value) (aA2:aH ρ eU D.left) (dH:Value) (hp0_numbers:aH ρ dH D.numbers) (C:DFlat) (aB0:Value) (hp1_labels:aH ρ aB0 C.labels) (nY:Value) (aR6:aH ρ nY C.left) (iI:Value) (hp1_numbers:aH ρ iI C.numbers) (E:(List (List Int))) (vp2:Value) (usp2:List Sl) (A:Hp Z ρ (bM 73 3 vp2 usp2 (E:(List (List Int)))::L) w) (r:(List (List Int))) (F:xZ D C E=some r):
  Calls Tryz.prog 92 #[(.agg #[sQ,eU,dH]),(.agg #[aB0,nY,iI]),vp2] w (Ret fun v w'=>∃(b1:Nat) (b2:Nat) (b3:Nat),v=(.func (.func 105) #[] #[.pointer (some ⟨b1,0,none⟩),.pointer (some ⟨b2,0,none⟩),.pointer (some ⟨b3,0,none⟩)])∧Hp Z ρ (Pt b1 (.cells #[sQ,eU,dH] 135 (0,0))::Pt b2 (.cells #[aB0,nY,iI] 135 (0,0))::Pt b3 (.cells #[vp2] 83 (0,0))::bM 73 3 vp2 usp2 (r:(List (List Int)))::L) w'):=by
 refine enter (N:=8) Tryz.func92 O O [(0,(.agg #[sQ,eU,dH])),(1,(.agg #[aB0,nY,iI])),(2,vp2)] O (bH ⟨O,O,O,tv⟩) fun a B=>?_
 unfold xZ at F
 refine aG (aA ?_)
 refine iH (wk0 O) O O B A O (v:=(.agg #[sQ,eU,dH])) O ?_
 intro a w b1 B A
 have A:=r2 A
 refine iH (wk0 O) O O B A O (v:=(.agg #[aB0,nY,iI])) O ?_
 intro a w b2 B A
 have A:=r3 A
 refine iH (wk0 O) O O B A O (v:=vp2) O ?_
 intro a w b3 B A
 rw[bM.cells A 3 rfl] at A
 have A:=r4 A
 refine S B 1 O fun a B=>aB (aG ?_)
 refine aA (V B A O (v:=(.func (.func 105) #[] #[(Pv b1 0),(Pv b2 0),(Pv b3 0)])) (ex_fn O B [(Pv b1 0),(Pv b2 0),(Pv b3 0)] (by exact⟨O,O,O,tv⟩)) fun a B=>?_)
 refine S B 1 O fun a B=>aB (cZ ?_)
 obtain rfl:=oj F
 exact gY B O O ⟨_,O,_,_,_,O,((((A.get 3 O).get 1 O).get 2 O).get 3 O)⟩
theorem aP5 {Z:World} {ρ:PH} {L:List bQ} {w:World} (X:Int) (W:Int) (bcp0:Nat) (cp0:DFlat) (jR:Value) (hcp0_labels:aH ρ jR cp0.labels) (oW:Value) (hcp0_left:aH ρ oW cp0.left) (iY:Value) (hcp0_numbers:aH ρ iY cp0.numbers) (bcp1:Nat) (cp1:DFlat) (eH:Value) (hcp1_labels:aH ρ eH cp1.labels) (fM:Value) (hcp1_left:aH ρ fM cp1.left) (dU:Value) (hcp1_numbers:aH ρ dU cp1.numbers) (bcp2:Nat) (cp2:(List (List Int))) (vcp2:Value) (uscp2:List Sl) (B:Hp Z ρ (Pt bcp0 (.cells #[jR,oW,iY] 135 (0,0))::Pt bcp1 (.cells #[eH,fM,dU] 135 (0,0))::Pt bcp2 (.cells #[vcp2] 83 (0,0))::bM 73 3 vcp2 uscp2 (cp2:(List (List Int)))::L) w) (r:(List (List Int))) (K:qC X W cp0 cp1 cp2=some r):
  Calls Tryz.prog 105 #[(Iv X),(Iv W),(Pv bcp0 0),(Pv bcp1 0),(Pv bcp2 0)] w (Ret fun v w'=>v= .tuple #[]∧Hp Z ρ (Pt bcp0 (.cells #[jR,oW,iY] 135 (0,0))::Pt bcp1 (.cells #[eH,fM,dU] 135 (0,0))::Pt bcp2 (.cells #[vcp2] 83 (0,0))::bM 73 3 vcp2 uscp2 (r:(List (List Int)))::L) w'):=by
 refine enter (N:=196) Tryz.func105 O O [(0,(Iv X)),(1,(Iv W)),(2,(Pv bcp0 0)),(3,(Pv bcp1 0)),(4,(Pv bcp2 0))] O (bH ⟨O,O,O,O,O,tv⟩) fun a A=>?_
 unfold qC at K
 refine aG ?_
 refine jU kr kr B ?_
 refine Vq A O (xf A iL O O) fun a A=>Vq A O (xl A aT 0 O O O O) fun a A=>Sq A 1 O fun a A=>?_
 obtain⟨U,ex1,K⟩:=bnd K
 obtain⟨b1,b1o,b1c,b1r,b1k,b1f⟩:=aH.at hcp0_left bD ex1
 obtain rfl:b1c=Enc.enc U:=b1k
 have b1f:AtP ρ b1 b1o [(Iv U)]:=b1f
 refine Vq A O (aO O A O O b1r) fun a A=>Vq A O (aK O A O (fun w D=>aZ aW (b1f.c 0 O w D))) fun a A=>Vq A O (xf A iL O O) fun a A=>Vq A O (xl A aT 1 O O O O) fun a A=>Sq A 1 O fun a A=>?_
 obtain⟨Y,ex2,K⟩:=bnd K
 obtain⟨b2,b2o,b2c,b2r,b2k,b2f⟩:=aH.at hcp1_left bD ex2
 obtain rfl:b2c=Enc.enc Y:=b2k
 have b2f:AtP ρ b2 b2o [(Iv Y)]:=b2f
 refine Vq A O (aO O A O O b2r) fun a A=>Vq A O (aK O A O (fun w D=>aZ aW (b2f.c 0 O w D))) fun a A=>Sq A 2 O fun a A=>?_
 refine jQ fun w B=>?_
 have B:=r4 B
 refine aG (aA ?_)
 refine S A 2 O fun a A=>?_
 obtain⟨x3,ex3,K⟩:=bnd K
 refine V A B O (dQ O A O O (aN ex3)) fun a A=>?_
 obtain⟨x4,ex4,K⟩:=bnd K
 refine V A B O (bF O A O O (aN ex4)) fun a A=>S A 2 O fun a A=>?_
 obtain⟨x5,ex5,K⟩:=bnd K
 refine V A B O (dQ O A O O (aN ex5)) fun a A=>?_
 obtain⟨x6,ex6,K⟩:=bnd K
 refine V A B O (bF O A O O (aN ex6)) fun a A=>?_
 obtain⟨x7,ex7,K⟩:=bnd K
 refine s_call (wk0 O) O O A O [(Iv x4),(Iv x6)] ⟨O,O,tv⟩ ent91 (J5 x4 x6 B x7 ex7) Ret.ret ?_
 intro vr1 a w hR A
 obtain⟨u,usr1,rfl,B⟩:=Ret.of hR
 have B:=r5 B
 refine S A 1 O fun a A=>aB (aG ?_)
 refine aG (aA ?_)
 refine S A 1 O fun a A=>V A B O (bW O A O (bM.len B 0 O iE)) fun a A=>S A 1 O fun a A=>aB ?_
 have A:=A.cut (E':=[(0,(Iv X)),(1,(Iv W)),(2,(Pv bcp0 0)),(3,(Pv bcp1 0)),(4,(Pv bcp2 0)),(7,(Iv U)),(8,(Iv Y)),(9,vr1),(38,(Iv (x7.length:Int))),(39,(Iv 0))]) ⟨O,O,O,O,O,O,O,O,O,O,tv⟩
 obtain⟨b3,hc1,K⟩:=bnd K
 refine dM (fun a w=>Env 196 [(0,(Iv X)),(1,(Iv W)),(2,(Pv bcp0 0)),(3,(Pv bcp1 0)),(4,(Pv bcp2 0)),(7,(Iv U)),(8,(Iv Y)),(9,vr1)] a∧Hp Z ρ (bM 73 3 vr1 usr1 (b3:(List (List Int)))::Pt bcp0 (.cells #[jR,oW,iY] 135 (0,0))::Pt bcp1 (.cells #[eH,fM,dU] 135 (0,0))::Pt bcp2 (.cells #[vcp2] 83 (0,0))::bM 73 3 vcp2 uscp2 (cp2:(List (List Int)))::L) w) ?_ ?_
 ·refine eQ hc1 (fun s a w=>Env 196 [(0,(Iv X)),(1,(Iv W)),(2,(Pv bcp0 0)),(3,(Pv bcp1 0)),(4,(Pv bcp2 0)),(7,(Iv U)),(8,(Iv Y)),(9,vr1),(38,(Iv (x7.length:Int))),(39,(Iv s.1))] a∧Hp Z ρ (bM 73 3 vr1 usr1 (s.2:(List (List Int)))::Pt bcp0 (.cells #[jR,oW,iY] 135 (0,0))::Pt bcp1 (.cells #[eH,fM,dU] 135 (0,0))::Pt bcp2 (.cells #[vcp2] 83 (0,0))::bM 73 3 vcp2 uscp2 (cp2:(List (List Int)))::L) w) ?_ ?_
  ·exact⟨A.cut ⟨O,O,O,O,O,O,O,O,O,O,tv⟩,B⟩
  rintro⟨aQ,aU⟩ st a w ⟨A,B⟩ H
  dsimp only at A B H
  unfold lD at H
  refine aG (aA ?_)
  refine S A 1 O fun a A=>aB (aG ?_)
  refine dK A O (fun hc2=>?_) (fun hc2=>?_)
  ·replace H:=(it hc2).symm.trans H
   refine bI (aG ?_)
   refine dN (aG ?_)
   refine aA (S A 2 O fun a A=>?_)
   refine aB (aA ?_)
   refine S A 2 O fun a A=>?_
   obtain⟨x8,ex8,H⟩:=bnd H
   obtain⟨b4u,b4,b4o,b4h,b4r,b4v,b4f⟩:=bM.hdr B 0 O iE ex8
   refine V A B O (aO O A O O b4r) fun a A=>V A B O (aK O A O (fun w D=>aZ aT (b4f 0 _ O _ _ w (D.get 0 O)))) fun a A=>S A 1 O fun a A=>?_
   obtain⟨x9,ex9,H⟩:=bnd H
   obtain⟨b5,b5o,b5r,b5v,b5f⟩:=bM.at B 0 O bD b4h ex8 ex9
   refine V A B O (aO O A O O b5r) fun a A=>?_
   refine yA (wk0 O) O A B O O O 0 O b4h ex8 ex9 b5v 0 (e':=aQ) aW.size_ O O O ⟨O,O⟩ ?_
   intro w B
   have B:=r5 B
   refine aB ?_
   have A:=A.cut (E':=[(0,(Iv X)),(1,(Iv W)),(2,(Pv bcp0 0)),(3,(Pv bcp1 0)),(4,(Pv bcp2 0)),(7,(Iv U)),(8,(Iv Y)),(9,vr1),(38,(Iv (x7.length:Int))),(39,(Iv aQ))]) ⟨O,O,O,O,O,O,O,O,O,O,tv⟩
   refine aA ?_
   obtain⟨x10,ex10,H⟩:=bnd H
   refine V A B O (bF O A O O (aN ex10)) fun a A=>S A 1 O fun a A=>aB ?_
   exact⟨_,(oj H).symm,A.cut ⟨O,O,O,O,O,O,O,O,O,O,tv⟩,B⟩
  replace H:=(ie hc2).symm.trans H
  refine dZ ?_
  refine⟨_,(oj H).symm,fun hbb=>?_⟩
  subst hbb
  exact⟨A.cut ⟨O,O,O,O,O,O,O,O,tv⟩,B⟩
 rintro a w ⟨A,B⟩
 refine aG (aG ?_)
 refine aA (S A 1 O fun a A=>?_)
 obtain⟨x11,y,K⟩:=bnd K
 obtain⟨b6u,b6,b6o,b6h,b6r,b6v,b6f⟩:=bM.hdr B 0 O iE y
 refine V A B O (aO O A O O b6r) fun a A=>V A B O (aK O A O (fun w D=>aZ aT (b6f 0 _ O _ _ w (D.get 0 O)))) fun a A=>V A B O (bW O A O (bM.rlen B 0 O bD b6h y)) fun a A=>S A 1 O fun a A=>aB ?_
 obtain⟨b7,hc3,K⟩:=bnd K
 refine dM (fun a w=>Env 196 [(0,(Iv X)),(1,(Iv W)),(2,(Pv bcp0 0)),(3,(Pv bcp1 0)),(4,(Pv bcp2 0)),(7,(Iv U)),(8,(Iv Y)),(9,vr1)] a∧Hp Z ρ (bM 73 3 vr1 usr1 (b7:(List (List Int)))::Pt bcp0 (.cells #[jR,oW,iY] 135 (0,0))::Pt bcp1 (.cells #[eH,fM,dU] 135 (0,0))::Pt bcp2 (.cells #[vcp2] 83 (0,0))::bM 73 3 vcp2 uscp2 (cp2:(List (List Int)))::L) w) ?_ ?_
 ·refine eQ hc3 (fun s a w=>Env 196 [(0,(Iv X)),(1,(Iv W)),(2,(Pv bcp0 0)),(3,(Pv bcp1 0)),(4,(Pv bcp2 0)),(7,(Iv U)),(8,(Iv Y)),(9,vr1),(52,(Iv (x11.length:Int))),(53,(Iv s.1))] a∧Hp Z ρ (bM 73 3 vr1 usr1 (s.2:(List (List Int)))::Pt bcp0 (.cells #[jR,oW,iY] 135 (0,0))::Pt bcp1 (.cells #[eH,fM,dU] 135 (0,0))::Pt bcp2 (.cells #[vcp2] 83 (0,0))::bM 73 3 vcp2 uscp2 (cp2:(List (List Int)))::L) w) ?_ ?_
  ·exact⟨A.cut ⟨O,O,O,O,O,O,O,O,O,O,tv⟩,B⟩
  rintro⟨bP,eP⟩ st a w ⟨A,B⟩ F
  dsimp only at A B F
  unfold lF at F
  refine aG (aA ?_)
  refine S A 1 O fun a A=>aB (aG ?_)
  refine dK A O (fun hc4=>?_) (fun hc4=>?_)
  ·replace F:=(it hc4).symm.trans F
   refine bI (aG ?_)
   refine dN (aG ?_)
   refine aA (S A 2 O fun a A=>?_)
   refine aB (aA ?_)
   refine S A 1 O fun a A=>?_
   obtain⟨x12,h,F⟩:=bnd F
   obtain⟨b8u,b8,b8o,b8h,b8r,b8v,b8f⟩:=bM.hdr B 0 O iE h
   refine V A B O (aO O A O O b8r) fun a A=>V A B O (aK O A O (fun w D=>aZ aT (b8f 0 _ O _ _ w (D.get 0 O)))) fun a A=>S A 2 O fun a A=>?_
   obtain⟨x13,x,F⟩:=bnd F
   obtain⟨b9,b9o,b9r,b9v,b9f⟩:=bM.at B 0 O bD b8h h x
   refine V A B O (aO O A O O b9r) fun a A=>?_
   refine yA (wk0 O) O A B O O O 0 O b8h h x b9v 0 (e':=bP) aW.size_ O O O ⟨O,O⟩ ?_
   intro w B
   have B:=r5 B
   refine aB (aA ?_)
   obtain⟨x14,ex14,F⟩:=bnd F
   refine V A B O (bF O A O O (aN ex14)) fun a A=>S A 1 O fun a A=>aB ?_
   exact⟨_,(oj F).symm,A.cut ⟨O,O,O,O,O,O,O,O,O,O,tv⟩,B⟩
  replace F:=(ie hc4).symm.trans F
  refine dZ ?_
  refine⟨_,(oj F).symm,fun hbb=>?_⟩
  subst hbb
  exact⟨A.cut ⟨O,O,O,O,O,O,O,O,tv⟩,B⟩
 rintro a w ⟨A,B⟩
 refine aG (aA ?_)
 refine S A 2 O fun a A=>aB ?_
 have A:=A.cut (E':=[(0,(Iv X)),(1,(Iv W)),(2,(Pv bcp0 0)),(3,(Pv bcp1 0)),(4,(Pv bcp2 0)),(7,(Iv U)),(8,(Iv Y)),(9,vr1),(12,(Iv U))]) ⟨O,O,O,O,O,O,O,O,O,tv⟩
 obtain⟨b10,hc5,K⟩:=bnd K
 refine dM (fun a w=>Env 196 [] a∧Hp Z ρ (bM 73 3 vr1 usr1 (b10.1:(List (List Int)))::Pt bcp0 (.cells #[jR,oW,iY] 135 (0,0))::Pt bcp1 (.cells #[eH,fM,dU] 135 (0,0))::Pt bcp2 (.cells #[vcp2] 83 (0,0))::bM 73 3 vcp2 uscp2 (b10.2:(List (List Int)))::L) w) ?_ ?_
 ·refine eQ hc5 (fun s a w=>Env 196 [(0,(Iv X)),(1,(Iv W)),(2,(Pv bcp0 0)),(3,(Pv bcp1 0)),(4,(Pv bcp2 0)),(7,(Iv U)),(8,(Iv Y)),(9,vr1),(12,(Iv s.1))] a∧Hp Z ρ (bM 73 3 vr1 usr1 (s.2.1:(List (List Int)))::Pt bcp0 (.cells #[jR,oW,iY] 135 (0,0))::Pt bcp1 (.cells #[eH,fM,dU] 135 (0,0))::Pt bcp2 (.cells #[vcp2] 83 (0,0))::bM 73 3 vcp2 uscp2 (s.2.2:(List (List Int)))::L) w) ?_ ?_
  ·exact⟨A.cut ⟨O,O,O,O,O,O,O,O,O,tv⟩,B⟩
  rintro⟨dR,vH,aK1⟩ st a w ⟨A,B⟩ J
  dsimp only at A B J
  unfold oN at J
  refine aG (aG ?_)
  refine aA (S A 3 O fun a A=>?_)
  refine aB ?_
  refine dK A O (fun hc6=>?_) (fun hc6=>?_)
  ·replace J:=(it hc6).symm.trans J
   refine bI (aG ?_)
   refine dN (aG ?_)
   refine aA (S A 2 O fun a A=>?_)
   refine aB ?_
   obtain⟨b11,hc7,J⟩:=bnd J
   refine dM (fun a w=>Env 196 [(0,(Iv X)),(1,(Iv W)),(2,(Pv bcp0 0)),(3,(Pv bcp1 0)),(4,(Pv bcp2 0)),(7,(Iv U)),(8,(Iv Y)),(9,vr1),(12,(Iv dR))] a∧Hp Z ρ (bM 73 3 vr1 usr1 (b11.1:(List (List Int)))::Pt bcp0 (.cells #[jR,oW,iY] 135 (0,0))::Pt bcp1 (.cells #[eH,fM,dU] 135 (0,0))::Pt bcp2 (.cells #[vcp2] 83 (0,0))::bM 73 3 vcp2 uscp2 (b11.2:(List (List Int)))::L) w) ?_ ?_
   ·refine eQ hc7 (fun s a w=>Env 196 [(0,(Iv X)),(1,(Iv W)),(2,(Pv bcp0 0)),(3,(Pv bcp1 0)),(4,(Pv bcp2 0)),(7,(Iv U)),(8,(Iv Y)),(9,vr1),(12,(Iv dR)),(13,(Iv s.1))] a∧Hp Z ρ (bM 73 3 vr1 usr1 (s.2.1:(List (List Int)))::Pt bcp0 (.cells #[jR,oW,iY] 135 (0,0))::Pt bcp1 (.cells #[eH,fM,dU] 135 (0,0))::Pt bcp2 (.cells #[vcp2] 83 (0,0))::bM 73 3 vcp2 uscp2 (s.2.2:(List (List Int)))::L) w) ?_ ?_
    ·exact⟨A.cut ⟨O,O,O,O,O,O,O,O,O,O,tv⟩,B⟩
    rintro⟨fZ,jK,zU⟩ st a w ⟨A,B⟩ I
    dsimp only at A B I
    unfold lG at I
    refine aG (aG ?_)
    refine aA (S A 3 O fun a A=>?_)
    refine aB ?_
    refine dK A O (fun hc8=>?_) (fun hc8=>?_)
    ·replace I:=(it hc8).symm.trans I
     refine bI (aG ?_)
     obtain⟨j1,hj1,I⟩:=bnd I
     refine dM (fun a w=>Env 196 [(0,(Iv X)),(1,(Iv W)),(2,(Pv bcp0 0)),(3,(Pv bcp1 0)),(4,(Pv bcp2 0)),(7,(Iv U)),(8,(Iv Y)),(9,vr1),(12,(Iv dR)),(13,(Iv fZ))] a∧Hp Z ρ (bM 73 3 vr1 usr1 (j1.1:(List (List Int)))::Pt bcp0 (.cells #[jR,oW,iY] 135 (0,0))::Pt bcp1 (.cells #[eH,fM,dU] 135 (0,0))::Pt bcp2 (.cells #[vcp2] 83 (0,0))::bM 73 3 vcp2 uscp2 (j1.2:(List (List Int)))::L) w) ?_ ?_
     ·
      refine aG (aA ?_)
      refine S A 2 O fun a A=>?_
      obtain⟨x15,ex15,hj1⟩:=bnd hj1
      refine V A B O (dQ O A O O (aN ex15)) fun a A=>?_
      obtain⟨d,ex16,hj1⟩:=bnd hj1
      refine V A B O (bF O A O O (aN ex16)) fun a A=>S A 2 O fun a A=>?_
      obtain⟨x17,ex17,hj1⟩:=bnd hj1
      refine V A B O (dQ O A O O (aN ex17)) fun a A=>?_
      obtain⟨b,ex18,hj1⟩:=bnd hj1
      refine V A B O (bF O A O O (aN ex18)) fun a A=>S A 2 O fun a A=>aB (aG ?_)
      refine jU kr kr B ?_
      refine Sq A 2 O fun a A=>?_
      obtain⟨x19,ex19,hj1⟩:=bnd hj1
      refine Vq A O (dQ O A O O (aN ex19)) fun a A=>?_
      obtain⟨x20,t,hj1⟩:=bnd hj1
      obtain⟨b12u,b12,b12o,b12h,b12r,b12v,b12f⟩:=bM.hdr B 0 O iE t
      refine Vq A O (aO O A O O b12r) fun a A=>Vq A O (aK O A O (fun w D=>aZ aT (b12f 0 _ O _ _ w (D.get 0 O)))) fun a A=>Sq A 1 O fun a A=>?_
      obtain⟨x21,ex21,hj1⟩:=bnd hj1
      obtain⟨b13,b13o,b13r,b13v,b13f⟩:=bM.at B 0 O bD b12h t ex21
      refine Vq A O (aO O A O O b13r) fun a A=>Vq A O (aK O A O (fun w D=>aZ aW (b13f 0 _ O _ _ w (D.get 0 O)))) fun a A=>Sq A 2 O fun a A=>?_
      obtain⟨x22,q,hj1⟩:=bnd hj1
      obtain⟨b14u,b14,b14o,b14h,b14r,b14v,b14f⟩:=bM.hdr B 0 O iE q
      refine Vq A O (aO O A O O b14r) fun a A=>Vq A O (aK O A O (fun w D=>aZ aT (b14f 0 _ O _ _ w (D.get 0 O)))) fun a A=>Sq A 1 O fun a A=>?_
      obtain⟨x23,ex23,hj1⟩:=bnd hj1
      refine Vq A O (dQ O A O O (aN ex23)) fun a A=>?_
      obtain⟨x24,ex24,hj1⟩:=bnd hj1
      obtain⟨b15,b15o,b15r,b15v,b15f⟩:=bM.at B 0 O bD b14h q ex24
      refine Vq A O (aO O A O O b15r) fun a A=>Vq A O (aK O A O (fun w D=>aZ aW (b15f 0 _ O _ _ w (D.get 0 O)))) fun a A=>Vq A O (v:=(Iv (min x21 x24))) (ex_min O A O O) fun a A=>?_
      obtain⟨R,ex25,hj1⟩:=bnd hj1
      refine Vq A O (bF O A O O (aN ex25)) fun a A=>Sq A 1 O fun a A=>?_
      refine jQ fun w B=>?_
      have B:=r5 B
      have A:=A.cut (E':=[(0,(Iv X)),(1,(Iv W)),(2,(Pv bcp0 0)),(3,(Pv bcp1 0)),(4,(Pv bcp2 0)),(7,(Iv U)),(8,(Iv Y)),(9,vr1),(12,(Iv dR)),(13,(Iv fZ)),(14,(Iv d)),(15,(Iv b)),(16,(Iv R))]) ⟨O,O,O,O,O,O,O,O,O,O,O,O,O,tv⟩
      refine aG (aG ?_)
      refine aA (V A B O (xf A iL O O) fun a A=>?_)
      refine V A B O (xl A aT 1 O O O O) fun a A=>S A 1 O fun a A=>?_
      obtain⟨x26,ex26,hj1⟩:=bnd hj1
      obtain⟨b16,b16o,b16c,b16r,b16k,b16f⟩:=aH.at hcp0_left bD ex26
      obtain rfl:b16c=Enc.enc x26:=b16k
      have b16f:AtP ρ b16 b16o [(Iv x26)]:=b16f
      refine V A B O (aO O A O O b16r) fun a A=>V A B O (aK O A O (fun w D=>aZ aW (b16f.c 0 O w D))) fun a A=>S A 3 O fun a A=>?_
      obtain⟨m1,hg1,hj1⟩:=bnd hj1
      refine jI [_,_,_,_,_,_,_,_] (fun a w=>Env 196 [(116,(.bool m1)),(0,(Iv X)),(1,(Iv W)),(2,(Pv bcp0 0)),(3,(Pv bcp1 0)),(4,(Pv bcp2 0)),(7,(Iv U)),(8,(Iv Y)),(9,vr1),(12,(Iv dR)),(13,(Iv fZ)),(14,(Iv d)),(15,(Iv b)),(16,(Iv R))] a∧Hp Z ρ (bM 73 3 vr1 usr1 (jK:(List (List Int)))::Pt bcp0 (.cells #[jR,oW,iY] 135 (0,0))::Pt bcp1 (.cells #[eH,fM,dU] 135 (0,0))::Pt bcp2 (.cells #[vcp2] 83 (0,0))::bM 73 3 vcp2 uscp2 (zU:(List (List Int)))::L) w) ?_ ?_
      ·rcases vA (!decide (x26=U)) with E|E
       ·
        replace hg1:=(it E).symm.trans hg1
        refine Gk A E O fun a A=>Gk A E O fun a A=>Gk A E O fun a A=>Gk A E O fun a A=>Gk A E O fun a A=>Gk A E O fun a A=>Gk A E O fun a A=>pk1 A E O O O O fun a A=>?_
        obtain rfl:=oj hg1
        exact aB ⟨A.cut ⟨O,O,O,O,O,O,O,O,O,O,O,O,O,O,tv⟩,B⟩
       replace hg1:=(ie E).symm.trans hg1
       refine G A B E O (xf A iL O O) fun a A=>G A B E O (xl A aT 2 O O O O) fun a A=>Gs A E O O fun a A=>?_
       obtain⟨x27,ex27,hg1⟩:=bnd hg1
       obtain⟨b17,b17o,b17c,b17r,b17k,b17f⟩:=aH.at hcp1_left bD ex27
       obtain rfl:b17c=Enc.enc x27:=b17k
       have b17f:AtP ρ b17 b17o [(Iv x27)]:=b17f
       refine G A B E O (aO O A O O b17r) fun a A=>G A B E O (aK O A O (fun w D=>aZ aW (b17f.c 0 O w D))) fun a A=>Gs A E O O fun a A=>Gs A E O O fun a A=>pk0 A E O O O O fun a A=>?_
       obtain rfl:=oj hg1
       exact aB ⟨A.cut ⟨O,O,O,O,O,O,O,O,O,O,O,O,O,O,tv⟩,B⟩
      rintro a w ⟨A,B⟩
      refine aB ?_
      refine dK A O (fun hc10=>?_) (fun hc10=>?_)
      ·replace hj1:=(it hc10).symm.trans hj1
       refine aG ?_
       obtain⟨x28,g,hj1⟩:=bnd hj1
       obtain⟨x29,ex29,hj1⟩:=bnd hj1
       obtain⟨x30,ex30,hj1⟩:=bnd hj1
       obtain⟨x31,p,hj1⟩:=bnd hj1
       obtain⟨x32,ex32,hj1⟩:=bnd hj1
       obtain⟨x33,ex33,hj1⟩:=bnd hj1
       obtain⟨x34,ex34,hj1⟩:=bnd hj1
       obtain⟨x35,o,hj1⟩:=bnd hj1
       obtain⟨x36,ex36,hj1⟩:=bnd hj1
       obtain⟨z,ex37,hj1⟩:=bnd hj1
       obtain⟨x38,n,hj1⟩:=bnd hj1
       have B:=B.drew
       refine gK ([([],At0 Z ρ),([35],At1 Z ρ (bM 73 3 vr1 usr1 (jK:(List (List Int))))),([],At1 Z ρ (Pt bcp0 (.cells #[jR,oW,iY] 135 (0,0)))),([],At1 Z ρ (Pt bcp1 (.cells #[eH,fM,dU] 135 (0,0)))),([],At1 Z ρ (Pt bcp2 (.cells #[vcp2] 83 (0,0)))),([],At1 Z ρ (bM 73 3 vcp2 uscp2 (zU:(List (List Int)))))]:Facts) (fun a w=>Env 196 [(0,(Iv X)),(1,(Iv W)),(2,(Pv bcp0 0)),(3,(Pv bcp1 0)),(4,(Pv bcp2 0)),(7,(Iv U)),(8,(Iv Y)),(9,vr1),(12,(Iv dR)),(13,(Iv fZ))] a∧Hp Z ρ (bM 73 3 vr1 usr1 (jK.set d.toNat (x28.set b.toNat (min R z)):(List (List Int)))::Pt bcp0 (.cells #[jR,oW,iY] 135 (0,0))::Pt bcp1 (.cells #[eH,fM,dU] 135 (0,0))::Pt bcp2 (.cells #[vcp2] 83 (0,0))::bM 73 3 vcp2 uscp2 (zU:(List (List Int)))::L) w) kr ⟨fun _=>⟨_,B⟩,fun _=>⟨_,(B.get 0 O)⟩,fun _=>⟨_,(B.get 1 O)⟩,fun _=>⟨_,(B.get 2 O)⟩,fun _=>⟨_,(B.get 3 O)⟩,fun _=>⟨_,(B.get 4 O)⟩,tv⟩ (fun C=>?_) ?_
       ·
        generalize w.drew=w at C B⊢
        refine Ts [0,1] A C O O kr fun a A C=>?_
        obtain⟨b26u,b26,b26o,b26h,b26r,b26v,b26f⟩:=bM.hdr B 0 O iE g
        refine T0 2 A C O O O kr (fun _=>aO O A O O b26r) fun a A C=>T 3 1 A C O O O kr (fun _=>aK O A O (fun w D=>aZ aT (b26f 0 _ O _ _ w (D.get 0 O)))) fun a A C=>Ts [4,5,6] A C O O kr fun a A C=>T0 7 A C O O O kr (fun _=>xf A iL O O) fun a A C=>T 8 2 A C O O O kr (fun _=>xl A aT 0 O O O O) fun a A C=>Ts [9] A C O O kr fun a A C=>?_
        obtain⟨b27,b27o,b27c,b27r,b27k,b27f⟩:=aH.at hcp0_left bD ex29
        obtain rfl:b27c=Enc.enc x29:=b27k
        have b27f:AtP ρ b27 b27o [(Iv x29)]:=b27f
        refine T0 10 A C O O O kr (fun _=>aO O A O O b27r) fun a A C=>T0 11 A C O O O kr (fun _=>aK O A O (fun w D=>aZ aW (b27f.c 0 O w D))) fun a A C=>Ts [12] A C O O kr fun a A C=>T0 13 A C O O O kr (fun _=>dQ O A O O (aN ex30)) fun a A C=>?_
        obtain⟨b28u,b28,b28o,b28h,b28r,b28v,b28f⟩:=bM.hdr B 0 O iE p
        refine T0 14 A C O O O kr (fun _=>aO O A O O b28r) fun a A C=>T 15 1 A C O O O kr (fun _=>aK O A O (fun w D=>aZ aT (b28f 0 _ O _ _ w (D.get 0 O)))) fun a A C=>T0 16 A C O O O kr (fun _=>xf A iL O O) fun a A C=>T 17 3 A C O O O kr (fun _=>xl A aT 0 O O O O) fun a A C=>Ts [18] A C O O kr fun a A C=>?_
        obtain⟨b29,b29o,b29c,b29r,b29k,b29f⟩:=aH.at hcp1_left bD ex32
        obtain rfl:b29c=Enc.enc x32:=b29k
        have b29f:AtP ρ b29 b29o [(Iv x32)]:=b29f
        refine T0 19 A C O O O kr (fun _=>aO O A O O b29r) fun a A C=>T0 20 A C O O O kr (fun _=>aK O A O (fun w D=>aZ aW (b29f.c 0 O w D))) fun a A C=>Ts [21] A C O O kr fun a A C=>T0 22 A C O O O kr (fun _=>dQ O A O O (aN ex33)) fun a A C=>?_
        obtain⟨b30,b30o,b30r,b30v,b30f⟩:=bM.at B 0 O bD b28h p ex34
        refine T0 23 A C O O O kr (fun _=>aO O A O O b30r) fun a A C=>T 24 1 A C O O O kr (fun _=>aK O A O (fun w D=>aZ aW (b30f 0 _ O _ _ w (D.get 0 O)))) fun a A C=>T 25 4 A C O O O kr (fun _=>xl A varty83 0 O O O O) fun a A C=>Ts [26] A C O O kr fun a A C=>?_
        obtain⟨b31u,b31,b31o,b31h,b31r,b31v,b31f⟩:=bM.hdr B 4 O iE o
        refine T0 27 A C O O O kr (fun _=>aO O A O O b31r) fun a A C=>T 28 5 A C O O O kr (fun _=>aK O A O (fun w D=>aZ aT (b31f 0 _ O _ _ w (D.get 0 O)))) fun a A C=>Ts [29] A C O O kr fun a A C=>?_
        obtain⟨b32,b32o,b32r,b32v,b32f⟩:=bM.at B 4 O bD b31h o ex36
        refine T0 30 A C O O O kr (fun _=>aO O A O O b32r) fun a A C=>T 31 5 A C O O O kr (fun _=>aK O A O (fun w D=>aZ aW (b32f 0 _ O _ _ w (D.get 0 O)))) fun a A C=>T0 32 A C O O O kr (fun _=>bF O A O O (aN ex37)) fun a A C=>T0 33 A C O O O kr (v:=(Iv (min R z))) (fun _=>ex_min O A O O) fun a A C=>?_
        obtain⟨b33,b33o,b33r,b33v,b33f⟩:=bM.at B 0 O bD b26h g n
        refine T0 34 A C O O O kr (fun _=>aO O A O O b33r) fun a A C=>?_
        refine W1 35 kr O ?_
        refine yA (wk0 O) O A B O O O 0 O b26h g n b33v 0 (e':=min R z) aW.size_ O O O ⟨O,O⟩ ?_
        intro w B
        have B:=r5 B
        refine aB (aF ⟨gp0 B,dead kr,gp 1 B O,gp 2 B O,gp 3 B O,gp 4 B O,tv⟩ fun C=>?_)
        exact bT kr ⟨A.cut ⟨O,O,O,O,O,O,O,O,O,O,tv⟩,B⟩
       rintro a w ⟨A,B⟩
       refine dZ ?_
       obtain rfl:=oj hj1
       exact⟨A.cut ⟨O,O,O,O,O,O,O,O,O,O,tv⟩,B⟩
      replace hj1:=(ie hc10).symm.trans hj1
      refine bI (aG ?_)
      refine aA (S A 2 O fun a A=>?_)
      obtain⟨x39,ex39,hj1⟩:=bnd hj1
      refine V A B O (dQ O A O O (aN ex39)) fun a A=>?_
      obtain⟨x40,m,hj1⟩:=bnd hj1
      obtain⟨b34u,b34,b34o,b34h,b34r,b34v,b34f⟩:=bM.hdr B 0 O iE m
      refine V A B O (aO O A O O b34r) fun a A=>V A B O (aK O A O (fun w D=>aZ aT (b34f 0 _ O _ _ w (D.get 0 O)))) fun a A=>S A 1 O fun a A=>?_
      obtain⟨x41,ex41,hj1⟩:=bnd hj1
      refine V A B O (dQ O A O O (aN ex41)) fun a A=>?_
      obtain⟨x42,ex42,hj1⟩:=bnd hj1
      obtain⟨b35,b35o,b35r,b35v,b35f⟩:=bM.at B 0 O bD b34h m ex42
      refine V A B O (aO O A O O b35r) fun a A=>V A B O (aK O A O (fun w D=>aZ aW (b35f 0 _ O _ _ w (D.get 0 O)))) fun a A=>S A 1 O fun a A=>aB (aG ?_)
      refine aG ?_
      refine jU kr kr B ?_
      refine Vq A O (xf A jT O O) fun a A=>Vq A O (xl A lM 1 O O O O) fun a A=>Sq A 1 O fun a A=>?_
      obtain⟨Q,ex43,hj1⟩:=bnd hj1
      obtain⟨b36,b36o,b36c,b36r,b36k,b36f⟩:=aH.at hcp0_labels uF ex43
      obtain rfl:b36c=Enc.enc Q:=b36k
      have b36f:AtP ρ b36 b36o [(Iv Q.kind),(.string Q.text)]:=b36f
      refine Vq A O (aO O A O O b36r) fun a A=>Vq A O (aK O A O (fun w D=>aX (cs:=[(Iv Q.kind),(.string Q.text)]) varty156 (fun j u hj=>cell_of D.le (b36f j u hj)))) fun a A=>Vq A O (xf A jT O O) fun a A=>Vq A O (xl A lM 2 O O O O) fun a A=>Sq A 1 O fun a A=>?_
      obtain⟨M,ex44,hj1⟩:=bnd hj1
      obtain⟨b37,b37o,b37c,b37r,b37k,b37f⟩:=aH.at hcp1_labels uF ex44
      obtain rfl:b37c=Enc.enc M:=b37k
      have b37f:AtP ρ b37 b37o [(Iv M.kind),(.string M.text)]:=b37f
      refine Vq A O (aO O A O O b37r) fun a A=>Vq A O (aK O A O (fun w D=>aX (cs:=[(Iv M.kind),(.string M.text)]) varty156 (fun j u hj=>cell_of D.le (b37f j u hj)))) fun a A=>Vq A O (v:=(.bool (!((decide (Q.kind=M.kind))&&(decide (Q.text=M.text)))))) (ex_stneq (eqst156 Q.kind Q.text M.kind M.text) O A O O) fun a A=>?_
      refine jQ fun w B=>?_
      have B:=r5 B
      have A:=A.cut (E':=[(0,(Iv X)),(1,(Iv W)),(2,(Pv bcp0 0)),(3,(Pv bcp1 0)),(4,(Pv bcp2 0)),(7,(Iv U)),(8,(Iv Y)),(9,vr1),(12,(Iv dR)),(13,(Iv fZ)),(14,(Iv d)),(15,(Iv b)),(16,(Iv R)),(17,(Iv x42)),(171,(.bool (!((decide (Q.kind=M.kind))&&(decide (Q.text=M.text))))))]) ⟨O,O,O,O,O,O,O,O,O,O,O,O,O,O,O,tv⟩
      obtain⟨j2,hj2,hj1⟩:=bnd hj1
      refine aJ9 (fun a w=>Env 196 [(0,(Iv X)),(1,(Iv W)),(2,(Pv bcp0 0)),(3,(Pv bcp1 0)),(4,(Pv bcp2 0)),(7,(Iv U)),(8,(Iv Y)),(9,vr1),(12,(Iv dR)),(13,(Iv fZ)),(14,(Iv d)),(15,(Iv b)),(16,(Iv R)),(17,(Iv j2))] a∧Hp Z ρ (bM 73 3 vr1 usr1 (jK:(List (List Int)))::Pt bcp0 (.cells #[jR,oW,iY] 135 (0,0))::Pt bcp1 (.cells #[eH,fM,dU] 135 (0,0))::Pt bcp2 (.cells #[vcp2] 83 (0,0))::bM 73 3 vcp2 uscp2 (zU:(List (List Int)))::L) w) ?_ ?_
      ·
       refine dK A O (fun hc11=>?_) (fun hc11=>?_)
       ·replace hj2:=(it hc11).symm.trans hj2
        refine aA (S A 1 O fun a A=>?_)
        obtain⟨x45,ex45,hj2⟩:=bnd hj2
        refine V A B O (bF O A O O (aN ex45)) fun a A=>S A 1 O fun a A=>aB ?_
        obtain rfl:=oj hj2
        exact⟨A.cut ⟨O,O,O,O,O,O,O,O,O,O,O,O,O,O,tv⟩,B⟩
       replace hj2:=(ie hc11).symm.trans hj2
       refine bI ?_
       obtain rfl:=oj hj2
       exact⟨A.cut ⟨O,O,O,O,O,O,O,O,O,O,O,O,O,O,tv⟩,B⟩
      rintro a w ⟨A,B⟩
      refine aG (aA ?_)
      refine S A 2 O fun a A=>?_
      obtain⟨x46,f,hj1⟩:=bnd hj1
      obtain⟨b38u,b38,b38o,b38h,b38r,b38v,b38f⟩:=bM.hdr B 0 O iE f
      refine V A B O (aO O A O O b38r) fun a A=>V A B O (aK O A O (fun w D=>aZ aT (b38f 0 _ O _ _ w (D.get 0 O)))) fun a A=>S A 3 O fun a A=>V A B O (v:=(Iv (min R j2))) (ex_min O A O O) fun a A=>?_
      obtain⟨x47,l,hj1⟩:=bnd hj1
      obtain⟨b39,b39o,b39r,b39v,b39f⟩:=bM.at B 0 O bD b38h f l
      refine V A B O (aO O A O O b39r) fun a A=>?_
      refine yA (wk0 O) O A B O O O 0 O b38h f l b39v 0 (e':=min R j2) aW.size_ O O O ⟨O,O⟩ ?_
      intro w B
      have B:=r5 B
      refine aB ?_
      have A:=A.cut (E':=[(0,(Iv X)),(1,(Iv W)),(2,(Pv bcp0 0)),(3,(Pv bcp1 0)),(4,(Pv bcp2 0)),(7,(Iv U)),(8,(Iv Y)),(9,vr1),(12,(Iv dR)),(13,(Iv fZ)),(14,(Iv d)),(15,(Iv b))]) ⟨O,O,O,O,O,O,O,O,O,O,O,O,tv⟩
      obtain⟨x48,e,hj1⟩:=bnd hj1
      obtain⟨x49,k,hj1⟩:=bnd hj1
      obtain⟨x50,ex50,hj1⟩:=bnd hj1
      obtain⟨x51,i,hj1⟩:=bnd hj1
      have B:=B.drew
      refine gK ([([],At0 Z ρ),([],At1 Z ρ (bM 73 3 vr1 usr1 (jK.set d.toNat (x46.set b.toNat (min R j2)):(List (List Int))))),([],At1 Z ρ (Pt bcp2 (.cells #[vcp2] 83 (0,0)))),([13],At1 Z ρ (bM 73 3 vcp2 uscp2 (zU:(List (List Int)))))]:Facts) (fun a w=>Env 196 [(0,(Iv X)),(1,(Iv W)),(2,(Pv bcp0 0)),(3,(Pv bcp1 0)),(4,(Pv bcp2 0)),(7,(Iv U)),(8,(Iv Y)),(9,vr1),(12,(Iv dR)),(13,(Iv fZ))] a∧Hp Z ρ (bM 73 3 vr1 usr1 (jK.set d.toNat (x46.set b.toNat (min R j2)):(List (List Int)))::Pt bcp0 (.cells #[jR,oW,iY] 135 (0,0))::Pt bcp1 (.cells #[eH,fM,dU] 135 (0,0))::Pt bcp2 (.cells #[vcp2] 83 (0,0))::bM 73 3 vcp2 uscp2 (zU.set dR.toNat (x48.set fZ.toNat x50):(List (List Int)))::L) w) kr ⟨fun _=>⟨_,B⟩,fun _=>⟨_,(B.get 0 O)⟩,fun _=>⟨_,(B.get 3 O)⟩,fun _=>⟨_,(B.get 4 O)⟩,tv⟩ (fun C=>?_) ?_
      ·
       generalize w.drew=w at C B⊢
       refine T 0 2 A C O O O kr (fun _=>xl A varty83 0 O O O O) fun a A C=>Ts [1] A C O O kr fun a A C=>?_
       obtain⟨b44u,b44,b44o,b44h,b44r,b44v,b44f⟩:=bM.hdr B 4 O iE e
       refine T0 2 A C O O O kr (fun _=>aO O A O O b44r) fun a A C=>T 3 3 A C O O O kr (fun _=>aK O A O (fun w D=>aZ aT (b44f 0 _ O _ _ w (D.get 0 O)))) fun a A C=>Ts [4,5,6] A C O O kr fun a A C=>?_
       obtain⟨b45u,b45,b45o,b45h,b45r,b45v,b45f⟩:=bM.hdr B 0 O iE k
       refine T0 7 A C O O O kr (fun _=>aO O A O O b45r) fun a A C=>T 8 1 A C O O O kr (fun _=>aK O A O (fun w D=>aZ aT (b45f 0 _ O _ _ w (D.get 0 O)))) fun a A C=>Ts [9] A C O O kr fun a A C=>?_
       obtain⟨b46,b46o,b46r,b46v,b46f⟩:=bM.at B 0 O bD b45h k ex50
       refine T0 10 A C O O O kr (fun _=>aO O A O O b46r) fun a A C=>T 11 1 A C O O O kr (fun _=>aK O A O (fun w D=>aZ aW (b46f 0 _ O _ _ w (D.get 0 O)))) fun a A C=>?_
       obtain⟨b47,b47o,b47r,b47v,b47f⟩:=bM.at B 4 O bD b44h e i
       refine T0 12 A C O O O kr (fun _=>aO O A O O b47r) fun a A C=>?_
       refine W1 13 kr O ?_
       refine yA (wk0 O) O A B O O O 4 O b44h e i b47v 0 (e':=x50) aW.size_ O O O ⟨O,O⟩ ?_
       intro w B
       have B:=r5 B
       refine aB (aF ⟨gp0 B,gp 0 B O,gp 3 B O,dead kr,tv⟩ fun C=>?_)
       exact bT kr ⟨A.cut ⟨O,O,O,O,O,O,O,O,O,O,tv⟩,B⟩
      rintro a w ⟨A,B⟩
      obtain rfl:=oj hj1
      exact⟨A.cut ⟨O,O,O,O,O,O,O,O,O,O,tv⟩,B⟩
     rintro a w ⟨A,B⟩
     refine aA (S A 1 O fun a A=>?_)
     obtain⟨x52,ex52,I⟩:=bnd I
     refine V A B O (bF O A O O (aN ex52)) fun a A=>S A 1 O fun a A=>aB ?_
     exact⟨_,(oj I).symm,A.cut ⟨O,O,O,O,O,O,O,O,O,O,tv⟩,B⟩
    replace I:=(ie hc8).symm.trans I
    refine dZ ?_
    refine⟨_,(oj I).symm,fun hbb=>?_⟩
    subst hbb
    exact⟨A.cut ⟨O,O,O,O,O,O,O,O,O,tv⟩,B⟩
   rintro a w ⟨A,B⟩
   refine aA (S A 1 O fun a A=>?_)
   obtain⟨x53,ex53,J⟩:=bnd J
   refine V A B O (bF O A O O (aN ex53)) fun a A=>S A 1 O fun a A=>aB ?_
   exact⟨_,(oj J).symm,A.cut ⟨O,O,O,O,O,O,O,O,O,tv⟩,B⟩
  replace J:=(ie hc6).symm.trans J
  refine dZ ?_
  refine⟨_,(oj J).symm,fun hbb=>?_⟩
  subst hbb
  exact⟨A.cut trivial,B⟩
 rintro a w ⟨A,B⟩
 obtain rfl:=oj K
 exact aD6 A O ⟨_,O,O,(B.drop)⟩
end Go.Proofs.YtopnldfjcciieaaGreat

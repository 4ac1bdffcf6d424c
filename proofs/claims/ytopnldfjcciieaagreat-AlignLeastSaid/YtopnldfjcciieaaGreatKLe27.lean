/- The code goes as its model: assessor/assessorlaw38.AlignLeast. (Printed by wip/sp/gen.py.) -/
import Derived.Test.YtopnldfjcciieaaGreatKLeT
import Derived.Test.YtopnldfjcciieaaGreatKLe4
import Derived.Test.YtopnldfjcciieaaGreatKLe5
import Derived.Test.YtopnldfjcciieaaGreatKLe23
import Derived.Test.YtopnldfjcciieaaGreatKLe24
import Derived.Test.YtopnldfjcciieaaGreatKLe26
import Derived.Test.YtopnldfjcciieaaGreatKLe2
import Derived.Test.YtopnldfjcciieaaGreatKLe3
import Derived.Test.YtopnldfjcciieaaGreatKLe6
set_option linter.unusedVariables false
set_option linter.unusedSimpArgs false
set_option maxRecDepth 100000
set_option maxHeartbeats 4000000
namespace Go.Proofs.YtopnldfjcciieaaGreat
open Go.RowKit
theorem c_assessorlaw38_AlignLeast {Z:World} {ρ:PH} {L:List bQ} {w:World} (C:Node) (aI:Value) (aY:aH ρ aI C.kids) (E:Node) (aJ:Value) (bG:aH ρ aJ E.kids) (B:Hp Z ρ (L) w) (r:Bool) (F:pJ C E=some r):
  Calls Tryz.prog 4 #[(.agg #[(Iv C.kind),(.string C.text),(Iv C.at_),(Iv C.fin),aI]),(.agg #[(Iv E.kind),(.string E.text),(Iv E.at_),(Iv E.fin),aJ])] w (Ret fun v w'=>v=(.bool r)∧Hp Z ρ (L) w'):=by
 refine enter (N:=82) Tryz.func4 O O [(0,(.agg #[(Iv C.kind),(.string C.text),(Iv C.at_),(Iv C.fin),aI])),(1,(.agg #[(Iv E.kind),(.string E.text),(Iv E.at_),(Iv E.fin),aJ]))] O (bH ⟨O,O,tv⟩) fun a A=>?_
 unfold pJ at F
 refine aG (aA ?_)
 refine iH (wk0 O) O O A B O (v:=(.agg #[(Iv C.kind),(.string C.text),(Iv C.at_),(Iv C.fin),aI])) O ?_
 intro a w b1 A B
 have B:=r1 B
 refine iH (wk0 O) O O A B O (v:=(.agg #[(Iv E.kind),(.string E.text),(Iv E.at_),(Iv E.fin),aJ])) O ?_
 intro a w b2 A B
 have B:=r2 B
 refine S A 1 O fun a A=>aB (aG ?_)
 refine aG (aA ?_)
 obtain⟨x1,z,F⟩:=bnd F
 refine Cl A O O ent10 (aK3 B x1 z) trivial fun v a w Y A=>?_
 obtain⟨rfl,B⟩:=Y
 have B:=r2 B
 refine S A 1 O fun a A=>aB ?_
 refine dK A O (fun g=>?_) (fun g=>?_)
 ·replace F:=(it g).symm.trans F
  refine aG (aA ?_)
  refine S A 1 O fun a A=>aB (cZ ?_)
  obtain rfl:=oj F
  exact gY A O O ⟨_,O,O,(((B.get 1 O).drop).drop)⟩
 replace F:=(ie g).symm.trans F
 refine bI (aG ?_)
 refine aG (aA ?_)
 refine V A B O (aK O A O (fun w Q=>aX (cs:=[(Iv C.kind),(.string C.text),(Iv C.at_),(Iv C.fin),aI]) cO (Hp.cN 1 O 0 _ (aS O) w Q))) fun a A=>V A B O (aK O A O (fun w Q=>aX (cs:=[(Iv E.kind),(.string E.text),(Iv E.at_),(Iv E.fin),aJ]) cO (Hp.cN 0 O 0 _ (aS O) w Q))) fun a A=>?_
 obtain⟨x2,y,F⟩:=bnd F
 refine Cl A O O ent11 (aP2 C aI aY E aJ bG 15 B x2 y) ⟨O,O,O,tv⟩ fun v a w Y A=>?_
 obtain⟨rfl,B⟩:=Y
 have B:=r2 B
 refine S A 1 O fun a A=>aB ?_
 refine dK A O (fun f=>?_) (fun f=>?_)
 ·replace F:=(it f).symm.trans F
  refine aG (aA ?_)
  refine S A 1 O fun a A=>aB (cZ ?_)
  obtain rfl:=oj F
  exact gY A O O ⟨_,O,O,(((B.get 1 O).drop).drop)⟩
 replace F:=(ie f).symm.trans F
 refine bI (aG ?_)
 refine aA (V A B O (aK O A O (fun w Q=>aX (cs:=[(Iv C.kind),(.string C.text),(Iv C.at_),(Iv C.fin),aI]) cO (Hp.cN 1 O 0 _ (aS O) w Q))) fun a A=>?_)
 refine V A B O (aK O A O (fun w Q=>aX (cs:=[(Iv E.kind),(.string E.text),(Iv E.at_),(Iv E.fin),aJ]) cO (Hp.cN 0 O 0 _ (aS O) w Q))) fun a A=>?_
 obtain⟨R,x,F⟩:=bnd F
 refine Cl A O O ent21 (aD9 C aI aY E aJ bG B R x) ⟨O,O,tv⟩ fun v a w Y A=>?_
 obtain⟨vr3,rfl,B⟩:=Y
 have B:=r3 B
 refine S A 5 O fun a A=>aB (aG ?_)
 refine aA (V A B O (aK O A O (fun w Q=>aX (cs:=[(Iv C.kind),(.string C.text),(Iv C.at_),(Iv C.fin),aI]) cO (Hp.cN 2 O 0 _ (aS O) w Q))) fun a A=>?_)
 refine V A B O (aK O A O (fun w Q=>aX (cs:=[(Iv E.kind),(.string E.text),(Iv E.at_),(Iv E.fin),aJ]) cO (Hp.cN 1 O 0 _ (aS O) w Q))) fun a A=>S A 1 O fun a A=>?_
 obtain⟨k1,k1a,k1d,k1h⟩:=(B.get 0 O).lend
 obtain⟨c,t,F⟩:=bnd F
 refine Cl A O O ent15 (aQ6 C aI (aH.mono aY (PH.le_un _ _)) E aJ (aH.mono bG (PH.le_un _ _)) R.1 vr3 (aC.ro k1d k1a) k1h c t) ⟨O,O,O,tv⟩ fun v a w Y A=>?_
 obtain⟨rfl,B⟩:=Y
 have B:=Hp.back k1a k1d B
 have B:=r3 B
 refine S A 5 O fun a A=>aB ?_
 have A:=A.cut (E':=[(2,(Pv b1 0)),(3,(Pv b2 0)),(5,vr3),(6,(Iv R.2)),(7,(Iv c.1)),(8,(Iv c.2))]) ⟨O,O,O,O,O,O,tv⟩
 refine aG (aA ?_)
 refine V A B O (aK O A O (fun w Q=>aX (cs:=[(Iv C.kind),(.string C.text),(Iv C.at_),(Iv C.fin),aI]) cO (Hp.cN 2 O 0 _ (aS O) w Q))) fun a A=>V A B O (aK O A O (fun w Q=>aX (cs:=[(Iv C.kind),(.string C.text),(Iv C.at_),(Iv C.fin),aI]) cO (Hp.cN 2 O 0 _ (aS O) w Q))) fun a A=>?_
 obtain⟨X,q,F⟩:=bnd F
 refine Cl A O O ent21 (aD9 C aI aY C aI aY B X q) ⟨O,O,tv⟩ fun v a w Y A=>?_
 obtain⟨vr7,rfl,B⟩:=Y
 have B:=r4 B
 refine S A 5 O fun a A=>aB (aG ?_)
 refine aG (aA ?_)
 refine S A 3 O fun a A=>?_
 refine jI [_,_,_] (fun a w=>Env 82 [(43,(.bool ((!decide (R.2=0))||(!decide (c.2=0))))),(2,(Pv b1 0)),(3,(Pv b2 0)),(5,vr3),(7,(Iv c.1)),(9,vr7),(10,(Iv X.2))] a∧Hp Z ρ (aC 46 vr7 X.1::aC 46 vr3 R.1::Pt b2 (.cells #[(Iv E.kind),(.string E.text),(Iv E.at_),(Iv E.fin),aJ] 24 (0,0))::Pt b1 (.cells #[(Iv C.kind),(.string C.text),(Iv C.at_),(Iv C.fin),aI] 24 (0,0))::L) w) ?_ ?_
 ·rcases vA (!decide (R.2=0)) with W|W
  ·
   refine Gk A W O fun a A=>Gk A W O fun a A=>pk1 A W O O O O fun a A=>?_
   have A:=A.eqv (v':=(.bool ((!decide (R.2=0))||(!decide (c.2=0))))) (by rw[W];rfl)
   exact aB ⟨A.cut ⟨O,O,O,O,O,O,O,tv⟩,B⟩
  refine Gs A W O O fun a A=>Gs A W O O fun a A=>pk0 A W O O O O fun a A=>?_
  have A:=A.eqv (v':=(.bool ((!decide (R.2=0))||(!decide (c.2=0))))) (by rw[W];rfl)
  exact aB ⟨A.cut ⟨O,O,O,O,O,O,O,tv⟩,B⟩
 rintro a w ⟨A,B⟩
 refine S A 1 O fun a A=>?_
 refine jI [_,_,_] (fun a w=>Env 82 [(47,(.bool (((!decide (R.2=0))||(!decide (c.2=0)))||(!decide (X.2=0))))),(2,(Pv b1 0)),(3,(Pv b2 0)),(5,vr3),(7,(Iv c.1)),(9,vr7)] a∧Hp Z ρ (aC 46 vr7 X.1::aC 46 vr3 R.1::Pt b2 (.cells #[(Iv E.kind),(.string E.text),(Iv E.at_),(Iv E.fin),aJ] 24 (0,0))::Pt b1 (.cells #[(Iv C.kind),(.string C.text),(Iv C.at_),(Iv C.fin),aI] 24 (0,0))::L) w) ?_ ?_
 ·rcases vA ((!decide (R.2=0))||(!decide (c.2=0))) with U|U
  ·
   refine Gk A U O fun a A=>Gk A U O fun a A=>pk1 A U O O O O fun a A=>?_
   have A:=A.eqv (v':=(.bool (((!decide (R.2=0))||(!decide (c.2=0)))||(!decide (X.2=0))))) (by rw[U];rfl)
   exact aB ⟨A.cut ⟨O,O,O,O,O,O,tv⟩,B⟩
  refine Gs A U O O fun a A=>Gs A U O O fun a A=>pk0 A U O O O O fun a A=>?_
  have A:=A.eqv (v':=(.bool (((!decide (R.2=0))||(!decide (c.2=0)))||(!decide (X.2=0))))) (by rw[U];rfl)
  exact aB ⟨A.cut ⟨O,O,O,O,O,O,tv⟩,B⟩
 rintro a w ⟨A,B⟩
 refine S A 1 O fun a A=>?_
 obtain⟨m1,hg1,F⟩:=bnd F
 refine jI [_,_,_,_,_,_] (fun a w=>Env 82 [(54,(.bool m1)),(2,(Pv b1 0)),(3,(Pv b2 0)),(7,(Iv c.1)),(9,vr7)] a∧Hp Z ρ (aC 46 vr7 X.1::aC 46 vr3 R.1::Pt b2 (.cells #[(Iv E.kind),(.string E.text),(Iv E.at_),(Iv E.fin),aJ] 24 (0,0))::Pt b1 (.cells #[(Iv C.kind),(.string C.text),(Iv C.at_),(Iv C.fin),aI] 24 (0,0))::L) w) ?_ ?_
 ·rcases vA (((!decide (R.2=0))||(!decide (c.2=0)))||(!decide (X.2=0))) with K|K
  ·
   replace hg1:=(it K).symm.trans hg1
   refine Gk A K O fun a A=>Gk A K O fun a A=>Gk A K O fun a A=>Gk A K O fun a A=>Gk A K O fun a A=>pk1 A K O O O O fun a A=>?_
   obtain rfl:=oj hg1
   exact aB ⟨A.cut ⟨O,O,O,O,O,tv⟩,B⟩
  replace hg1:=(ie K).symm.trans hg1
  refine G A B K O (aK O A O (fun w Q=>aX (cs:=[(Iv C.kind),(.string C.text),(Iv C.at_),(Iv C.fin),aI]) cO (Hp.cN 3 O 0 _ (aS O) w Q))) fun a A=>G A B K O (aK O A O (fun w Q=>aX (cs:=[(Iv E.kind),(.string E.text),(Iv E.at_),(Iv E.fin),aJ]) cO (Hp.cN 2 O 0 _ (aS O) w Q))) fun a A=>Gs A K O O fun a A=>?_
  obtain⟨k2,k2a,k2d,k2h⟩:=(B.get 1 O).lend
  obtain⟨x6,p,hg1⟩:=bnd hg1
  refine Cg A K O O ent12 (aK7 C aI (aH.mono aY (PH.le_un _ _)) E aJ (aH.mono bG (PH.le_un _ _)) R.1 vr3 (aC.ro k2d k2a) k2h x6 p) ⟨O,O,O,tv⟩ fun v a w Y A=>?_
  obtain⟨rfl,B⟩:=Y
  have B:=Hp.back k2a k2d B
  have B:=r4 B
  refine Gs A K O O fun a A=>pk0 A K O O O O fun a A=>?_
  obtain rfl:=oj hg1
  exact aB ⟨A.cut ⟨O,O,O,O,O,tv⟩,((((B.get 3 O).get 3 O).get 2 O).get 3 O)⟩
 rintro a w ⟨A,B⟩
 refine S A 1 O fun a A=>?_
 obtain⟨m2,hg2,F⟩:=bnd F
 refine jI [_,_,_,_,_,_] (fun a w=>Env 82 [(61,(.bool m2)),(2,(Pv b1 0)),(9,vr7)] a∧Hp Z ρ (aC 46 vr7 X.1::aC 46 vr3 R.1::Pt b2 (.cells #[(Iv E.kind),(.string E.text),(Iv E.at_),(Iv E.fin),aJ] 24 (0,0))::Pt b1 (.cells #[(Iv C.kind),(.string C.text),(Iv C.at_),(Iv C.fin),aI] 24 (0,0))::L) w) ?_ ?_
 ·rcases vA m1 with J|J
  ·
   replace hg2:=(it J).symm.trans hg2
   refine Gk A J O fun a A=>Gk A J O fun a A=>Gk A J O fun a A=>Gk A J O fun a A=>Gk A J O fun a A=>pk1 A J O O O O fun a A=>?_
   obtain rfl:=oj hg2
   exact aB ⟨A.cut ⟨O,O,O,tv⟩,B⟩
  replace hg2:=(ie J).symm.trans hg2
  refine Gs A J O O fun a A=>G A B J O (aK O A O (fun w Q=>aX (cs:=[(Iv C.kind),(.string C.text),(Iv C.at_),(Iv C.fin),aI]) cO (Hp.cN 3 O 0 _ (aS O) w Q))) fun a A=>G A B J O (aK O A O (fun w Q=>aX (cs:=[(Iv E.kind),(.string E.text),(Iv E.at_),(Iv E.fin),aJ]) cO (Hp.cN 2 O 0 _ (aS O) w Q))) fun a A=>?_
  obtain⟨x7,o,hg2⟩:=bnd hg2
  refine Cg A J O O ent22 (aE1 C aI aY E aJ bG B x7 o) ⟨O,O,tv⟩ fun v a w Y A=>?_
  obtain⟨rfl,B⟩:=Y
  have B:=r4 B
  refine Gs A J O O fun a A=>pk0 A J O O O O fun a A=>?_
  obtain rfl:=oj hg2
  exact aB ⟨A.cut ⟨O,O,O,tv⟩,B⟩
 rintro a w ⟨A,B⟩
 refine S A 1 O fun a A=>?_
 obtain⟨m3,hg3,F⟩:=bnd F
 refine jI [_,_,_,_,_,_] (fun a w=>Env 82 [(68,(.bool m3)),(9,vr7)] a∧Hp Z ρ (aC 46 vr7 X.1::aC 46 vr3 R.1::Pt b2 (.cells #[(Iv E.kind),(.string E.text),(Iv E.at_),(Iv E.fin),aJ] 24 (0,0))::Pt b1 (.cells #[(Iv C.kind),(.string C.text),(Iv C.at_),(Iv C.fin),aI] 24 (0,0))::L) w) ?_ ?_
 ·rcases vA m2 with I|I
  ·
   replace hg3:=(it I).symm.trans hg3
   refine Gk A I O fun a A=>Gk A I O fun a A=>Gk A I O fun a A=>Gk A I O fun a A=>Gk A I O fun a A=>pk1 A I O O O O fun a A=>?_
   obtain rfl:=oj hg3
   exact aB ⟨A.cut ⟨O,O,tv⟩,B⟩
  replace hg3:=(ie I).symm.trans hg3
  refine Gs A I O O fun a A=>G A B I O (bW O A O (aC.len B 0 O fE)) fun a A=>G A B I O (aK O A O (fun w Q=>aX (cs:=[(Iv C.kind),(.string C.text),(Iv C.at_),(Iv C.fin),aI]) cO (Hp.cN 3 O 0 _ (aS O) w Q))) fun a A=>?_
  obtain⟨x8,n,hg3⟩:=bnd hg3
  refine Cg A I O O ent23 (I5 C aI aY B x8 n) ⟨O,tv⟩ fun v a w Y A=>?_
  obtain⟨rfl,B⟩:=Y
  have B:=r4 B
  refine Gs A I O O fun a A=>pk0 A I O O O O fun a A=>?_
  obtain rfl:=oj hg3
  exact aB ⟨A.cut ⟨O,O,tv⟩,B⟩
 rintro a w ⟨A,B⟩
 refine aB ?_
 refine dK A O (fun e=>?_) (fun e=>?_)
 ·replace F:=(it e).symm.trans F
  refine aG (aA ?_)
  refine S A 1 O fun a A=>aB (cZ ?_)
  obtain rfl:=oj F
  exact gY A O O ⟨_,O,O,(((((((B.get 3 O).drop).get 2 O).drop).get 1 O).drop).drop)⟩
 replace F:=(ie e).symm.trans F
 refine bI (aG ?_)
 refine aG (aA ?_)
 refine S A 1 O fun a A=>V A B O (bW O A O (aC.len B 0 O fE)) fun a A=>S A 1 O fun a A=>aB ?_
 obtain⟨b3,l,F⟩:=bnd F
 refine dM (fun a w=>∃s:Unit,b3= .brk s∧(Env 82 [] a∧Hp Z ρ (aC 46 vr7 X.1::aC 46 vr3 R.1::Pt b2 (.cells #[(Iv E.kind),(.string E.text),(Iv E.at_),(Iv E.fin),aJ] 24 (0,0))::Pt b1 (.cells #[(Iv C.kind),(.string C.text),(Iv C.at_),(Iv C.fin),aI] 24 (0,0))::L) w)) ?_ ?_
 ·refine eQ l (fun s a w=>Env 82 [(69,vr7),(70,(Iv (X.1.length:Int))),(71,(Iv s))] a∧Hp Z ρ (aC 46 vr7 X.1::aC 46 vr3 R.1::Pt b2 (.cells #[(Iv E.kind),(.string E.text),(Iv E.at_),(Iv E.fin),aJ] 24 (0,0))::Pt b1 (.cells #[(Iv C.kind),(.string C.text),(Iv C.at_),(Iv C.fin),aI] 24 (0,0))::L) w) ?_ ?_
  ·exact⟨A.cut ⟨O,O,O,tv⟩,B⟩
  rintro aQ st a w ⟨A,B⟩ H
  unfold lW at H
  refine aG (aA ?_)
  refine S A 1 O fun a A=>aB (aG ?_)
  refine dK A O (fun hc10=>?_) (fun hc10=>?_)
  ·replace H:=(it hc10).symm.trans H
   refine bI (aG ?_)
   refine dN (aG ?_)
   refine aA (S A 1 O fun a A=>?_)
   obtain⟨d,m,H⟩:=bnd H
   obtain⟨b4,b4o,b4r,b4v,b4f⟩:=aC.at B 0 O fE m
   refine V A B O (aO O A O O b4r) fun a A=>V A B O (aK O A O (fun w Q=>aX (cs:=[(Iv d.a),(Iv d.b)]) fH (fun j u hj=>b4f j u hj _ _ w (Q.get 0 O)))) fun a A=>?_
   refine dF (wk0 O) O O A B O [(Iv 0),(Iv 0)] (fun w=>by simp[Instr.alloc,go_sem]<;>rfl) ?_
   intro a w b5 A B
   have B:=r5 B
   refine S A 1 O fun a A=>?_
   refine aV (wk0 O) O A B O O O 0 O fH.size_ O (aP ⟨O,O,tv⟩) [(Iv d.a),(Iv d.b)] O ?_
   intro w B
   have B:=r5 B
   refine aB ?_
   have A:=A.cut (E':=[(11,(Iv aQ)),(12,(Pv b5 0)),(69,vr7),(70,(Iv (X.1.length:Int))),(71,(Iv aQ))]) ⟨O,O,O,O,O,tv⟩
   refine aG (aA ?_)
   refine V A B O (aK O A O (fun w Q=>aX (cs:=[(Iv d.a),(Iv d.b)]) fH (Hp.cN 0 O 0 _ (aS O) w Q))) fun a A=>S A 2 O fun a A=>V A B O (v:=(.agg #[(Iv aQ),(Iv aQ)])) (oD O A [(0,(Iv aQ)),(1,(Iv aQ))] (by exact⟨⟨O,O⟩,⟨O,O⟩,tv⟩) (fun w=>by simp[Instr.build,Instr.fill,Value.cells,go_sem])) fun a A=>V A B O (v:=(.bool (!((decide (d.a=aQ))&&(decide (d.b=aQ)))))) (ex_stneq (eqst46 d.a d.b aQ aQ) O A O O) fun a A=>aB ?_
   refine dK A O (fun hc11=>?_) (fun hc11=>?_)
   ·replace H:=(it hc11).symm.trans H
    refine aG (aA ?_)
    refine S A 1 O fun a A=>aB (cZ ?_)
    refine⟨_,(oj H).symm,fun hb=>?_⟩
    subst hb
    obtain rfl:=oj F
    exact gY A O O ⟨_,O,O,(((((((((B.get 4 O).drop).get 3 O).drop).get 2 O).drop).get 1 O).drop).drop)⟩
   replace H:=(ie hc11).symm.trans H
   refine bI (aA ?_)
   obtain⟨x10,h,H⟩:=bnd H
   refine V A B O (bF O A O O (aN h)) fun a A=>S A 1 O fun a A=>aB ?_
   exact⟨_,(oj H).symm,A.cut ⟨O,O,O,tv⟩,(B.drop)⟩
  replace H:=(ie hc10).symm.trans H
  refine dZ ?_
  refine⟨_,(oj H).symm,fun hbb=>?_⟩
  exact⟨_,hbb.symm,A.cut trivial,B⟩
 rintro a w ⟨b3s,rfl,A,B⟩
 dsimp only at F
 refine aG (aA ?_)
 refine S A 1 O fun a A=>aB (cZ ?_)
 obtain rfl:=oj F
 exact gY A O O ⟨_,O,O,(((((((B.get 3 O).drop).get 2 O).drop).get 1 O).drop).drop)⟩
theorem loop_at {σ β:Type} {body:σ→Option (Step σ β)} {b:β} (S:Nat→σ):∀(n:Nat),(∀k,k<n→body (S k)=some (.next (S (k+1))))→body (S n)=some (.done b)→dY body (S 0)=some b
 |0,_,h=>sN h
 |n+1,h1,h2=>by
  rw[zX (h1 0 (by omega))]
  exact loop_at (fun k=>S (k+1)) n (fun k hk=>h1 (k+1) (by omega)) h2
theorem aG0 {σ β:Type} {body:σ→Option (Step σ β)} {b:β} {s:σ} (S:Nat→σ) (n:Nat) (h0:s=S 0) (h1:∀k,k<n→body (S k)=some (.next (S (k+1)))) (h2:body (S n)=some (.done b)):dY body s=some b:=by
 rw[h0];exact loop_at S n h1 h2
theorem zB {σ β γ:Type} {body:σ→Option (Step σ β)} {s:σ} {f:β→Option γ} {r:Option γ} (S:Nat→σ) (n:Nat) (b:β) (h0:s=S 0) (h1:∀k,k<n→body (S k)=some (.next (S (k+1)))) (h2:body (S n)=some (.done b)) (hf:f b=r):(dY body s).bind f=r:=by
 rw[aG0 S n h0 h1 h2];exact hf
theorem dI {n:Int} (h: -9223372036854775808≤n∧n≤9223372036854775807):inK .i64 n=some n:=inK_ok n h.1 h.2
theorem fF {k:Nat} (h:k≤4611686018427387904):inK .i64 ((k:Int)+1)=some ((k+1:Nat):Int):=by
 rw[inK_ok _ (by omega) (by omega)];rfl
theorem bC {α:Type} {l:List α} {k:Nat} {a:α} (h:l[k]?=some a):idx l (k:Int)=some a:=by
 unfold idx;rw[if_pos (by omega)];simpa using h
theorem V4 {α:Type} {l:List α} {i:Int} {a:α} (h0:0≤i) (h:l[i.toNat]?=some a):idx l i=some a:=by
 unfold idx;rw[if_pos h0,h]
theorem dE {α:Type} {l:List α} {k:Nat} (h:k<l.length):∃a,l[k]?=some a:=⟨_,vB h⟩
theorem yC {α:Type} {l m:List α} (h:l.length+m.length≤4294967296):app l m=some (l++m):=by unfold app;rw[if_pos h]
theorem sub_ok {α:Type} {l:List α} {i j:Int} (h0:0≤i) (h1:i≤j) (h2:j≤l.length):sub l i j=some ((l.take j.toNat).drop i.toNat):=by unfold sub;rw[if_pos ⟨h0,h1,h2⟩]
theorem mkc_ok {α:Type} {n c:Int} {z:α} (h:0≤n∧n≤c∧c≤4294967296):mkc n c z=some (List.replicate n.toNat z):=by unfold mkc;rw[if_pos h]
theorem I64.r {n:Int} (h:(Lit.int .i64 n).wf=true): -9223372036854775808≤n∧n≤9223372036854775807:=by
 simp[Lit.wf,IntKind.min,IntKind.max,IntKind.signed,IntKind.bits] at h
 exact⟨by omega,by omega⟩
theorem U8.r {n:Int} (h:(Lit.int .u8 n).wf=true):0≤n∧n≤255:=by
 simp[Lit.wf,IntKind.min,IntKind.max,IntKind.signed,IntKind.bits] at h
 omega
theorem first_or {α:Type} (p:α→Bool):∀(l:List α),(∃k a,l[k]?=some a∧p a=true∧(∀j b,j<k→l[j]?=some b→p b=false)∧l.any p=true∧l.findIdx p=k)∨((∀a∈l,p a=false)∧l.any p=false∧l.findIdx p=l.length)
 | []=>Or.inr ⟨by simp,rfl,rfl⟩
 |x::l=>by
  cases A:p x with
  |true=>exact Or.inl ⟨0,x,rfl,A,fun j b B=>by omega,by simp[A],by simp[List.findIdx_cons,A]⟩
  |false=>
   rcases first_or p l with⟨k,a,h1,h2,h3,h4,h5⟩|⟨h1,h2,h3⟩
   ·refine Or.inl ⟨k+1,a,by simpa using h1,h2,fun j b B hb=>?_,by simp[A,h4],by simp[List.findIdx_cons,A,h5]⟩
    cases j with
    |zero=>simp at hb;subst hb;exact A
    |succ j=>exact h3 j b (by omega) (by simpa using hb)
   refine Or.inr ⟨fun a ha=>?_,by simp[A,h2],by simp[List.findIdx_cons,A,h3]⟩
   rcases List.mem_cons.1 ha with rfl|ha
   ·exact A
   exact h1 a ha
theorem scan_loop {α β:Type} {body:Int→Option (Step Int β)} (l:List α) (p:α→Bool) (hit:Nat→α→β) (miss:β)
  (h1:∀(k:Nat) a,l[k]?=some a→body k=some (if p a=true then .done (hit k a) else .next ((k+1:Nat):Int))) (h2:body (l.length:Int)=some (.done miss)):
  (∃k a,l[k]?=some a∧p a=true∧(∀j b,j<k→l[j]?=some b→p b=false)∧l.any p=true∧l.findIdx p=k∧dY body 0=some (hit k a))∨((∀a∈l,p a=false)∧l.any p=false∧l.findIdx p=l.length∧dY body 0=some miss):=by
 rcases first_or p l with⟨k,a,a1,a2,a3,a4,a5⟩|⟨a1,a2,a3⟩
 ·refine Or.inl ⟨k,a,a1,a2,a3,a4,a5,aG0 (fun j=>(j:Int)) k O (fun j A=>?_) ?_⟩
  ·obtain⟨b,hb⟩:=dE (show j<l.length by have:=(uR.1 a1).1;omega)
   rw[h1 j b hb,a3 j b A hb];rfl
  rw[h1 k a a1,a2];rfl
 refine Or.inr ⟨a1,a2,a3,aG0 (fun j=>(j:Int)) l.length O (fun j A=>?_) h2⟩
 obtain⟨b,hb⟩:=dE A
 rw[h1 j b hb,a1 b (vL hb)];rfl
theorem any_loop {α β:Type} {body:Int→Option (Step Int β)} (l:List α) (p:α→Bool) (hit miss:β)
  (h1:∀(k:Nat) a,l[k]?=some a→body k=some (if p a=true then .done hit else .next ((k+1:Nat):Int))) (h2:body (l.length:Int)=some (.done miss)):dY body 0=some (if l.any p=true then hit else miss):=by
 rcases scan_loop l p (fun _ _=>hit) miss h1 h2 with⟨k,a,_,_,_,h,_,e⟩|⟨_,h,_,e⟩
 ·rw[e,h];rfl
 rw[e,h];rfl
theorem jF {α:Type} {l:List α} {k:Nat} {a:α} (h:l[k]?=some a):l.take (k+1)=l.take k++[a]:=by
 obtain⟨h1,h2⟩:=uR.1 h
 rw[←h2];exact List.take_succ_eq_append_getElem h1
theorem rising_ext {α:Type} {r:α→α→Prop} (irr:∀a,¬r a a) (tr:∀a b c,r a b→r b c→r a c):∀{l m:List α},l.Pairwise r→m.Pairwise r→(∀x,x∈l↔x∈m)→l=m
 | [],[],_,_,_=>rfl
 | [],b::m,_,_,h=>by have:=(h b).2 (List.mem_cons_self ..);simp at this
 |a::l,[],_,_,h=>by have:=(h a).1 (List.mem_cons_self ..);simp at this
 |a::l,b::m,C,B,h=>by
  obtain⟨l1,l2⟩:=List.pairwise_cons.1 C
  obtain⟨m1,m2⟩:=List.pairwise_cons.1 B
  have e:a=b:=by
   rcases List.mem_cons.1 ((h a).1 (List.mem_cons_self ..)) with e|h1
   ·exact e
   rcases List.mem_cons.1 ((h b).2 (List.mem_cons_self ..)) with e|h2
   ·exact e.symm
   exact absurd (tr _ _ _ (m1 a h1) (l1 b h2)) (irr b)
  subst e
  congr 1
  refine rising_ext irr tr l2 m2 fun x=>?_
  constructor
  ·intro A
   rcases List.mem_cons.1 ((h x).1 (List.mem_cons_of_mem _ A)) with e|h1
   ·subst e;exact absurd (l1 x A) (irr x)
   exact h1
  intro A
  rcases List.mem_cons.1 ((h x).2 (List.mem_cons_of_mem _ A)) with e|h1
  ·subst e;exact absurd (m1 x A) (irr x)
  exact h1
theorem rising_int {l m:List Int} (B:l.Pairwise (· < ·)) (A:m.Pairwise (· < ·)) (h:∀x,x∈l↔x∈m):l=m:=
 rising_ext (r:=fun a b:Int=>a<b) (fun a=>Int.lt_irrefl a) (fun a b c=>Int.lt_trans) B A h
theorem mget_put {κ β:Type} [DecidableEq κ] (l:List (κ×β)) (k x:κ) (v:β):jW (Q7 l k v) x=if x=k then some v else jW l x:=by
 induction l with
 |nil=>by_cases h:k=x<;>simp[Q7,jW,h,eq_comm]
 |cons p l ih=>
  unfold Q7
  by_cases h:p.1=k
  ·rw[if_pos h]
   by_cases A:x=k
   ·subst A;simp[jW]
   have h1:¬k=x:=fun e=>A e.symm
   have h2:¬p.1=x:=fun e=>A (e.symm.trans h)
   simp[jW,List.find?_cons,A,h1,h2]
  rw[if_neg h]
  by_cases A:p.1=x
  ·have h3:¬x=k:=fun e=>h (A.trans e)
   simp[jW,List.find?_cons,A,h3]
  unfold jW at ih⊢
  rw[List.find?_cons_of_neg (by simpa using A),List.find?_cons_of_neg (by simpa using A)]
  exact ih
theorem mput_len2 {κ β:Type} [DecidableEq κ] (l:List (κ×β)) (k:κ) (v:β):(Q7 l k v).length≤l.length+1:=by
 have:=congrArg List.length (L9 l k v)
 rw[List.length_map] at this
 rw[this]
 split<;>simp
theorem bsn {α β:Type} (a:α) (f:α→Option β):(some a).bind f=f a:=rfl
mutual
def prN:Node→Nat→Int→List (Node×Int×Nat)
 |⟨a,b,c,d,kids⟩,z,p=>(⟨a,b,c,d,kids⟩,p,z)::prL kids (z+1) z
def prL:List Node→Nat→Int→List (Node×Int×Nat)
 | [],_,_=>[]
 |n::r,z,p=>prN n z p++prL r (z+bK n) p
end
theorem aM2 (n:Node) (z:Nat) (p:Int):prN n z p=(n,p,z)::prL n.kids (z+1) z:=by obtain⟨a,b,c,d,k⟩:=n;rw[prN]
theorem aO7 (z:Nat) (p:Int):prL [] z p=[]:=by rw[prL]
theorem aG6 (n:Node) (r:List Node) (z:Nat) (p:Int):prL (n::r) z p=prN n z p++prL r (z+bK n) p:=by rw[prL]
theorem prL_app:∀(A B:List Node) (z:Nat) (p:Int),prL (A++B) z p=prL A z p++prL B (z+gW A) p
 | [],B,z,p=>by rw[aO7,gW];rfl
 |n::A,B,z,p=>by rw[List.cons_append,aG6,aG6,prL_app A B,D8,vD,Nat.add_assoc]
theorem prL_take {l:List Node} {i:Nat} {n:Node} (h:l[i]?=some n) (z:Nat) (p:Int):prL (l.take (i+1)) z p=prL (l.take i) z p++prN n (z+gW (l.take i)) p:=by
 rw[jF h,prL_app,aG6,aO7,List.append_nil]
theorem aR8 {P:Node→Prop} {Q:List Node→Prop} (h1:∀n,Q n.kids→P n) (h2:Q []) (h3:∀n r,P n→Q r→Q (n::r)):(∀n,P n)∧∀l,Q l:=by
 have hq:∀(m:Nat) (l:List Node),SizeOf.sizeOf l≤m→Q l:=by
  intro m
  induction m with
  |zero=>intro l h;cases l<;>simp at h
  |succ m ih=>
   intro l h
   cases l with
   |nil=>exact h2
   |cons n r=>
    simp only[List.cons.sizeOf_spec] at h
    have hs:SizeOf.sizeOf n.kids<SizeOf.sizeOf n:=by obtain⟨a,b,c,d,kids⟩:=n;simp;omega
    exact h3 n r (h1 n (ih _ (by omega))) (ih r (by omega))
 exact⟨fun n=>h1 n (hq _ _ (zP _)),fun l=>hq _ _ (zP _)⟩
theorem zO:(∀n z p,(prN n z p).length=bK n)∧∀l z p,(prL l z p).length=gW l:=by
 refine aR8 (fun n h z p=>?_) (fun z p=>by rw[aO7,gW];rfl) (fun n r h1 h2 z p=>?_)
 ·rw[aM2,uA0,h,pG];omega
 rw[aG6,uW,h1,h2,D8]
theorem pr_at:(∀n z p (j:Nat) m q k,(prN n z p)[j]?=some (m,q,k)→k=z+j∧k+bK m≤z+bK n∧(q=p∧j=0∧m=n∨(z:Int)≤q∧q<k∧0<j))∧
  ∀l z p (j:Nat) m q k,(prL l z p)[j]?=some (m,q,k)→k=z+j∧k+bK m≤z+gW l∧(q=p∨(z:Int)≤q∧q<k):=by
 refine aR8 (fun n h z p j m q k A=>?_) (fun z p j m q k A=>?_) (fun n r h1 h2 z p j m q k A=>?_)
 ·rw[aM2] at A
  have B:=pG n
  cases j with
  |zero=>
   simp only[List.getElem?_cons_zero,wA,Prod.mk.injEq] at A
   obtain⟨rfl,rfl,rfl⟩:=A
   exact⟨O,zP _,Or.inl ⟨O,O,O⟩⟩
  |succ j=>
   rw[List.getElem?_cons_succ] at A
   obtain⟨a1,a2,a3⟩:=h _ _ j m q k A
   refine⟨by omega,by omega,Or.inr ?_⟩
   rcases a3 with e|e<;>omega
 ·rw[aO7] at A;simp at A
 rw[aG6] at A
 have B:=D8 n r
 have hl:=zO.1 n z p
 rcases xV j (prN n z p).length with hh|hh
 ·rw[vR hh] at A
  obtain⟨a1,a2,a3⟩:=h1 z p j m q k A
  refine⟨a1,by omega,?_⟩
  rcases a3 with e|e
  ·exact Or.inl e.1
  exact Or.inr ⟨e.1,e.2.1⟩
 rw[vE hh] at A
 obtain⟨a1,a2,a3⟩:=h2 _ p _ m q k A
 refine⟨by omega,by omega,?_⟩
 rcases a3 with e|e
 ·exact Or.inl e
 exact Or.inr (by omega)
def nmb (l:List (Node×Int×Nat)):Nmb:=⟨l.map (·.1),l.map fun x=>(bK x.1:Int),l.map (·.2.1)⟩
def spn (x:Node×Int×Nat):Span:=⟨x.1.kind,x.1.text,((x.2.2+bK x.1:Nat):Int),x.2.1⟩
theorem number_r:∀(f:Nat) (n:Node),SizeOf.sizeOf n<f→∀(p:Int) (B:List (Node×Int×Nat)),B.length+bK n≤100000→qX f n p (nmb B)=some (nmb (B++prN n B.length p)):=by
 intro f
 induction f with
 |zero=>intro n h;omega
 |succ f ih=>
  intro n hsz p B hb
  have hc:=pG n
  have hl:=wY n.kids
  unfold qX uA
  have hN:(nmb B).nodes.length=B.length∧(nmb B).sizes.length=B.length∧(nmb B).parent.length=B.length:=by simp[nmb]
  rw[yC (by simp only[List.length_singleton];omega),bsn,show aD4 n=some (bK n:Int) by unfold aD4;rw[if_pos (by omega)],bsn,yC (by simp only[List.length_singleton];omega),bsn,yC (by simp only[List.length_singleton];omega),bsn]
  let G (i:Nat):Nmb:=nmb (B++((n,p,B.length)::prL (n.kids.take i) (B.length+1) B.length))
  refine zB (fun i=>((i:Int),(G i).nodes,(G i).sizes,(G i).parent)) n.kids.length ((G n.kids.length).nodes,(G n.kids.length).sizes,(G n.kids.length).parent) (by simp[G,nmb,aO7]) (fun i hi=>?_) ?_ ?_
  ·obtain⟨x,A⟩:=dE hi
   have e1:=zG A
   have e2:=aD3 n.kids (i+1)
   have e3:=zO.2 (n.kids.take i) (B.length+1) B.length
   simp only[qN]
   rw[if_pos (by simp;omega),bC A,bsn,hN.1]
   have:=ih x (by have:=aD5 A;omega) (B.length:Int) (B++((n,p,B.length)::prL (n.kids.take i) (B.length+1) B.length)) (by simp only[uW,uA0];omega)
   rw[show(Nmb.mk (G i).nodes (G i).sizes (G i).parent)=nmb (B++((n,p,B.length)::prL (n.kids.take i) (B.length+1) B.length)) from rfl,this,bsn,fF (by omega),bsn]
   simp only[G]
   rw[prL_take A]
   simp only[uW,uA0,e3]
   rw[show B.length+(gW (n.kids.take i)+1)=B.length+1+gW (n.kids.take i) by omega]
   simp
  ·simp only[qN]
   rw[if_neg (by simp)]
  simp only[G]
  rw[aM2,wN (zP _)]
theorem aG2 (n:Node) (h:bK n≤100000):jX n=some (nmb (prN n 0 (-1))):=by
 unfold jX L6
 have:=number_r (SizeOf.sizeOf n+1) n (by omega) (-1) [] (by simpa using h)
 rw[show(Nmb.mk ([]) ([]) ([]))=nmb [] from rfl,this];rfl
theorem spans_r:∀(f:Nat) (n:Node),SizeOf.sizeOf n<f→∀(p:Int) (B:List Span),B.length+bK n≤100000→lC f B n p=some (B++(prN n B.length p).map spn):=by
 intro f
 induction f with
 |zero=>intro n h;omega
 |succ f ih=>
  intro n hsz p B hb
  have C:=pG n
  have hl:=wY n.kids
  unfold lC pO
  rw[yC (by simp only[List.length_singleton];omega),bsn]
  refine zB (fun i=>((i:Int),B++(⟨n.kind,n.text,0,p⟩::(prL (n.kids.take i) (B.length+1) B.length).map spn))) n.kids.length (B++(⟨n.kind,n.text,0,p⟩::(prL n.kids (B.length+1) B.length).map spn)) (by simp[aO7]) (fun i hi=>?_) ?_ ?_
  ·obtain⟨x,A⟩:=dE hi
   have e1:=zG A
   have e2:=aD3 n.kids (i+1)
   have e3:=zO.2 (n.kids.take i) (B.length+1) B.length
   simp only[lZ]
   rw[if_pos (by simp;omega),bC A,bsn,ih x (by have:=aD5 A;omega) (B.length:Int) _ (by simp only[uW,uA0,List.length_map];omega),bsn,fF (by omega),bsn,prL_take A]
   simp only[uW,uA0,List.length_map,e3]
   rw[show B.length+(gW (n.kids.take i)+1)=B.length+1+gW (n.kids.take i) by omega]
   simp
  ·simp only[lZ]
   rw[if_neg (by simp),wN (zP _)]
  rw[bC (a:=⟨n.kind,n.text,0,p⟩) (by simp),bsn,xL,aM2,List.map_cons]
  have e3:=zO.2 n.kids (B.length+1) B.length
  simp only[uW,uA0,List.length_map,e3]
  rw[List.set_append_right _ _ (zP _),Nat.sub_self,List.set_cons_zero]
  congr 3
  unfold spn
  simp only[Span.mk.injEq,and_true,true_and]
  rw[C];omega
theorem Spans_m (n:Node) (h:bK n≤100000):nT n=some ((prN n 0 (-1)).map spn):=by
 unfold nT xN
 rw[spans_r (SizeOf.sizeOf n+1) n (by omega) (-1) [] (by simpa using h)];rfl
inductive Tr where
 |node (l:Lbl) (ks:List Tr)
mutual
def szT:Tr→Nat
 | .node _ ks=>szL ks+1
def szL:List Tr→Nat
 | []=>0
 |t::ts=>szT t+szL ts
end
theorem yB:∀(F G:List Tr),szL (F++G)=szL F+szL G
 | [],G=>by simp[szL]
 |t::F,G=>by simp[szL,yB F G];omega
def rl (a b:Lbl):Nat:=if a=b then 0 else 1
theorem rl_le (a b:Lbl):rl a b≤1:=by unfold rl;split<;>omega
theorem rl_self (a:Lbl):rl a a=0:=by simp[rl]
def fd:List Tr→List Tr→Nat
 | [],[]=>0
 | .node a ks::F,[]=>fd (ks++F) []+1
 | [],.node b ls::G=>fd [] (ls++G)+1
 | .node a ks::F,.node b ls::G=>min (fd (ks++F) (.node b ls::G)+1) (min (fd (.node a ks::F) (ls++G)+1) (fd F G+fd ks ls+rl a b))
termination_by F G=>szL F+szL G
decreasing_by all_goals (simp only[szL,szT,yB];omega)
theorem fd_nil:fd [] []=0:=by rw[fd]
theorem fd_l (a:Lbl) (ks F:List Tr):fd (.node a ks::F) []=fd (ks++F) []+1:=by rw[fd]
theorem fd_r (b:Lbl) (ls G:List Tr):fd [] (.node b ls::G)=fd [] (ls++G)+1:=by rw[fd]
theorem fd_c (a b:Lbl) (ks F ls G:List Tr):fd (.node a ks::F) (.node b ls::G)=min (fd (ks++F) (.node b ls::G)+1) (min (fd (.node a ks::F) (ls++G)+1) (fd F G+fd ks ls+rl a b)):=by rw[fd]
theorem fd_del (a:Lbl) (ks F G:List Tr):fd (.node a ks::F) G≤fd (ks++F) G+1:=by
 cases G with
 |nil=>rw[fd_l];exact zP _
 |cons g G=>obtain⟨b,ls⟩:=g;rw[fd_c];exact Nat.min_le_left _ _
theorem fd_ins (b:Lbl) (ls F G:List Tr):fd F (.node b ls::G)≤fd F (ls++G)+1:=by
 cases F with
 |nil=>rw[fd_r];exact zP _
 |cons f F=>obtain⟨a,ks⟩:=f;rw[fd_c];exact Nat.le_trans (Nat.min_le_right _ _) (Nat.min_le_left _ _)
theorem fd_match (a b:Lbl) (ks F ls G:List Tr):fd (.node a ks::F) (.node b ls::G)≤fd F G+fd ks ls+rl a b:=by
 rw[fd_c];exact Nat.le_trans (Nat.min_le_right _ _) (Nat.min_le_right _ _)
theorem fd_cases (a b:Lbl) (ks F ls G:List Tr):fd (.node a ks::F) (.node b ls::G)=fd (ks++F) (.node b ls::G)+1∨fd (.node a ks::F) (.node b ls::G)=fd (.node a ks::F) (ls++G)+1∨fd (.node a ks::F) (.node b ls::G)=fd F G+fd ks ls+rl a b:=by
 rw[fd_c (a:=a)]
 omega
theorem fd_l0:∀F,fd F []=szL F
 | []=>by rw[fd_nil];rfl
 | .node a ks::F=>by
  rw[fd_l,fd_l0 (ks++F),yB];simp only[szL,szT];omega
termination_by F=>szL F
decreasing_by simp only[szL,szT,yB];omega
theorem fd_r0:∀G,fd [] G=szL G
 | []=>by rw[fd_nil];rfl
 | .node a ks::F=>by
  rw[fd_r,fd_r0 (ks++F),yB];simp only[szL,szT];omega
termination_by F=>szL F
decreasing_by simp only[szL,szT,yB];omega
theorem aE6 (A B F G:List Tr):fd (A++F) (B++G)≤fd A B+fd F G:=by
 match A,B with
 | [],[]=>simp[fd_nil]
 | .node a ks::A,[]=>
  have h:=aE6 (ks++A) [] F G
  have h2:=fd_del a ks (A++F) G
  rw[fd_l]
  simp only[vD,List.nil_append,List.cons_append] at h h2⊢
  omega
 | [],.node b ls::B=>
  have h:=aE6 [] (ls++B) F G
  have h2:=fd_ins b ls F (B++G)
  rw[fd_r]
  simp only[vD,List.nil_append,List.cons_append] at h h2⊢
  omega
 | .node a ks::A,.node b ls::B=>
  rcases fd_cases a b ks A ls B with h|h|h
  ·have h1:=aE6 (ks++A) (.node b ls::B) F G
   have h2:=fd_del a ks (A++F) (.node b ls::B++G)
   simp only[vD,List.cons_append] at h1 h2⊢
   omega
  ·have h1:=aE6 (.node a ks::A) (ls++B) F G
   have h2:=fd_ins b ls (.node a ks::A++F) (B++G)
   simp only[vD,List.cons_append] at h1 h2⊢
   omega
  have h1:=aE6 A B F G
  have h2:=fd_match a b ks (A++F) ls (B++G)
  simp only[List.cons_append] at h2⊢
  omega
termination_by szL A+szL B
decreasing_by all_goals (simp only[szL,szT,yB];omega)
theorem fd_self:∀F,fd F F=0
 | []=>fd_nil
 | .node a ks::F=>by
  have h1:=fd_self F
  have h2:=fd_self ks
  have h3:=fd_match a a ks F ks F
  rw[rl_self] at h3
  omega
termination_by F=>szL F
decreasing_by all_goals (simp only[szL,szT];omega)
theorem fd_tab (a b:Lbl) (ks F ls G:List Tr):fd (.node a ks::F) (.node b ls::G)=min (fd (ks++F) (.node b ls::G)+1) (min (fd (.node a ks::F) (ls++G)+1) (fd F G+fd [.node a ks] [.node b ls])):=by
 have h1:=aE6 [.node a ks] [.node b ls] F G
 have h2:=fd_match a b ks [] ls []
 have h3:=fd_cases a b ks F ls G
 have h4:=fd_del a ks F (.node b ls::G)
 have h5:=fd_ins b ls (.node a ks::F) G
 rw[fd_nil] at h2
 simp only[List.cons_append,List.nil_append] at h1
 omega
def J3:Tr→List Tr
 | .node _ ks=>ks
def labT:Tr→Lbl
 | .node l _=>l
theorem Q8 (t:Tr):szT t=szL (J3 t)+1:=by obtain⟨l,ks⟩:=t;rfl
theorem pR (t:Tr):0<szT t:=by rw[Q8];omega
theorem H6 (t:Tr):szL [t]=szT t:=by simp[szL]
def rp:List Tr→List Tr
 | []=>[]
 | .node a ks::F=> .node a ks::rp (ks++F)
termination_by F=>szL F
decreasing_by simp only[szL,szT,yB];omega
theorem rp_nil:rp []=[]:=by rw[rp]
theorem rp_cons (t:Tr) (F:List Tr):rp (t::F)=t::rp (J3 t++F):=by obtain⟨a,ks⟩:=t;rw[rp];rfl
theorem rpt_app (F G:List Tr):rp (F++G)=rp F++rp G:=by
 match F with
 | []=>simp[rp_nil]
 |t::F=>
  have:=rpt_app (J3 t++F) G
  rw[List.cons_append,rp_cons,rp_cons,←vD,this];rfl
termination_by szL F
decreasing_by simp only[szL,yB,Q8];omega
theorem rp_len (F:List Tr):(rp F).length=szL F:=by
 match F with
 | []=>simp[rp_nil,szL]
 |t::F=>
  have:=rp_len (J3 t++F)
  rw[rp_cons,uA0,this,yB];simp only[szL,Q8];omega
termination_by szL F
decreasing_by simp only[szL,yB,Q8];omega
def po (F:List Tr):List Tr:=(rp F).reverse
theorem po_nil:po []=[]:=by simp[po,rp_nil]
theorem po_app (F G:List Tr):po (F++G)=po G++po F:=by simp[po,rpt_app]
theorem vY (F:List Tr):(po F).length=szL F:=by simp[po,rp_len]
theorem aI5 (t:Tr):po [t]=po (J3 t)++[t]:=by simp[po,rp_cons]
theorem po_cons (t:Tr) (F:List Tr):po (t::F)=po F++po [t]:=po_app [t] F
theorem uD (t:Tr):(po [t]).length=szT t:=by rw[vY,H6]
theorem kX (F:List Tr) {i:Nat} {t:Tr} (h:(po F)[i]?=some t):szT t≤i+1∧((po F).take (i+1)).drop (i+1-szT t)=po [t]:=by
 match F with
 | []=>simp[po_nil] at h
 |u::F=>
  have e:po (u::F)=po F++(po (J3 u)++[u]):=by rw[po_cons,aI5]
  rw[e] at h⊢
  have l1:=vY F
  have l2:=vY (J3 u)
  rcases xV i (szL F) with h1|h1
  ·rw[vR (by omega)] at h
   have:=kX F h
   refine⟨this.1,?_⟩
   rw[List.take_append_of_le_length (by omega)]
   exact this.2
  rw[vE (by omega)] at h
  rw[List.take_append,wN (by omega),l1]
  rcases xV (i-szL F) (szL (J3 u)) with h2|h2
  ·rw[vR (by omega),l1] at h
   have:=kX (J3 u) h
   refine⟨by omega,?_⟩
   rw[List.drop_append,l1,List.drop_of_length_le (by omega),List.nil_append,List.take_append_of_le_length (by omega),←this.2]
   congr 1
   ·omega
   congr 1;omega
  have hi:i-szL F=szL (J3 u):=by
   have:=(uR.1 h).1
   simp only[uW,l2,List.length_singleton] at this
   omega
  rw[l1,hi,vE (by omega),l2,Nat.sub_self] at h
  simp only[List.getElem?_cons_zero,wA] at h
  subst h
  have hs:=Q8 u
  refine⟨by omega,?_⟩
  rw[wN (by simp[l2];omega),show i+1-szT u=(po F).length by omega,List.drop_left,aI5]
termination_by szL F
decreasing_by all_goals (simp only[szL,Q8];omega)
def cut:Nat→List Tr→List Tr
 |0,E=>E
 |_+1,[]=>[]
 |r+1,t::F=>cut r (J3 t++F)
theorem cut_nil:∀r,cut r []=[]
 |0=>rfl
 |_+1=>rfl
theorem rp_cut:∀(r:Nat) (E:List Tr),rp (cut r E)=(rp E).drop r
 |0,E=>rfl
 |r+1,[]=>by simp[cut,rp_nil]
 |r+1,t::F=>by rw[cut,rp_cut r,rp_cons,List.drop_succ_cons]
theorem cut_add:∀(r q:Nat) (E:List Tr),cut (r+q) E=cut q (cut r E)
 |0,q,E=>by rw[Nat.zero_add];rfl
 |r+1,q,[]=>by rw[cut_nil,cut_nil,cut_nil]
 |r+1,q,t::F=>by rw[show r+1+q=(r+q)+1 by omega,cut,cut,cut_add r q]
theorem cut_all (A F:List Tr):cut (szL A) (A++F)=F:=by
 match A with
 | []=>rfl
 |t::A=>
  have:=cut_all (J3 t++A) F
  rw[show szL (t::A)=szL (J3 t++A)+1 by simp only[szL,yB,Q8];omega,List.cons_append,cut,←vD,this]
termination_by szL A
decreasing_by simp only[szL,yB,Q8];omega
def fr (t:Tr) (x:Nat):List Tr:=cut (szT t-x) [t]
theorem po_fr (t:Tr) {x:Nat} (h:x≤szT t):po (fr t x)=(po [t]).take x:=by
 unfold po fr
 rw[rp_cut,List.reverse_drop,rp_len,H6]
 congr 1;omega
theorem sz_fr (t:Tr) {x:Nat} (h:x≤szT t):szL (fr t x)=x:=by
 rw[←vY,po_fr t h,vQ,uD];omega
theorem fr_full (t:Tr):fr t (szT t)=[t]:=by unfold fr;rw[Nat.sub_self];rfl
theorem xQ (t:Tr):fr t 0=[]:=by
 unfold fr
 have:=cut_all [t] []
 rw[List.append_nil,H6] at this
 rw[Nat.sub_zero];exact this
theorem aN7 (t:Tr) {x:Nat} (h:x<szT t) {u:Tr} (hu:(po [t])[x]?=some u):szT u≤x+1∧fr t (x+1)=u::fr t (x+1-szT u)∧fr t x=J3 u++fr t (x+1-szT u):=by
 have hsz:=sz_fr t (x:=x+1) (by omega)
 have hpo:=po_fr t (x:=x+1) (by omega)
 cases he:fr t (x+1) with
 |nil=>rw[he] at hsz;simp[szL] at hsz
 |cons v F=>
  rw[he] at hsz hpo
  have hv:v=u:=by
   rw[po_cons,aI5] at hpo
   have h1:=congrArg List.getLast? hpo
   rw[←vD,List.getLast?_concat,List.getLast?_take] at h1
   rw[if_neg (by omega),show x+1-1=x by omega,hu] at h1
   simpa using h1
  subst hv
  simp only[szL] at hsz
  have hcut:cut (szT t-(x+1)) [t]=v::F:=he
  have hF:fr t (x+1-szT v)=F:=by
   unfold fr
   rw[show szT t-(x+1-szT v)=(szT t-(x+1))+szT v by omega,cut_add,hcut]
   have:=cut_all [v] F
   rw[H6] at this;exact this
  refine⟨by omega,by rw[hF],?_⟩
  rw[hF]
  unfold fr
  rw[show szT t-x=(szT t-(x+1))+1 by omega,cut_add,hcut]
  rfl
theorem fd_fr (t t':Tr) {x y:Nat} (A:x<szT t) (hy:y<szT t') {u u':Tr} (hu:(po [t])[x]?=some u) (hu':(po [t'])[y]?=some u'):
  fd (fr t (x+1)) (fr t' (y+1))=min (fd (fr t x) (fr t' (y+1))+1) (min (fd (fr t (x+1)) (fr t' y)+1) (if szT u=x+1∧szT u'=y+1 then fd (fr t x) (fr t' y)+rl (labT u) (labT u') else fd (fr t (x+1-szT u)) (fr t' (y+1-szT u'))+fd [u] [u'])):=by
 obtain⟨h1,h2,h3⟩:=aN7 t A hu
 obtain⟨k1,k2,k3⟩:=aN7 t' hy hu'
 split
 ·rename_i hh
  obtain⟨e1,e2⟩:=hh
  rw[e1,Nat.sub_self,xQ] at h2 h3
  rw[e2,Nat.sub_self,xQ] at k2 k3
  rw[h2,h3,k2,k3]
  obtain⟨a,ks⟩:=u
  obtain⟨b,ls⟩:=u'
  rw[fd_c,fd_nil,Nat.zero_add]
  simp only[J3,labT,List.append_nil]
 rw[h2,h3,k2,k3]
 obtain⟨a,ks⟩:=u
 obtain⟨b,ls⟩:=u'
 rw[fd_tab]
 rfl
theorem mJ {σ β:Type} {body:σ→Option (Step σ β)} (I:Nat→σ→Prop) (Post:β→Prop):∀(n k:Nat) (s:σ),I k s→(∀j s,k≤j→j<k+n→I j s→∃s',body s=some (.next s')∧I (j+1) s')→(∀s,I (k+n) s→∃b,body s=some (.done b)∧Post b)→∃b,dY body s=some b∧Post b
 |0,k,s,h0,_,h2=>by
  obtain⟨b,hb,A⟩:=h2 s h0
  exact⟨b,sN hb,A⟩
 |n+1,k,s,h0,h1,h2=>by
  obtain⟨s',hs,hi⟩:=h1 k s (zP _) (by omega) h0
  obtain⟨b,hb,A⟩:=mJ I Post n (k+1) s' hi (fun j s hj hlt hij=>h1 j s (by omega) (by omega) hij) (fun s hs=>h2 s (by rw[show k+(n+1)=k+1+n by omega];exact hs))
  exact⟨b,by rw[zX hs];exact hb,A⟩
def at2 (D:List (List Int)) (s t:Nat):Option Int:=(D[s]?).bind fun r=>r[t]?
structure Dim (D:List (List Int)) (N M:Nat):Prop where
 rows:D.length=N
 cols:∀r∈D,r.length=M
section
variable {D:List (List Int)} {N M:Nat}
theorem Dim.get (h:Dim D N M) {s t:Nat} (hs:s<N) (ht:t<M):∃r v,D[s]?=some r∧r[t]?=some v∧at2 D s t=some v∧r.length=M:=by
 obtain⟨r,hr⟩:=dE (l:=D) (k:=s) (by rw[h.rows];exact hs)
 have A:=h.cols r (vL hr)
 obtain⟨v,hv⟩:=dE (l:=r) (k:=t) (by rw[A];exact ht)
 exact⟨r,v,hr,hv,by unfold at2;rw[hr];exact hv,A⟩
theorem Dim.set (h:Dim D N M) {s t:Nat} {r:List Int} (hr:D[s]?=some r) (v:Int):Dim (D.set s (r.set t v)) N M:=by
 refine⟨by rw[List.length_set];exact h.rows,fun q hq=>?_⟩
 rcases List.mem_or_eq_of_mem_set hq with hq|rfl
 ·exact h.cols q hq
 rw[List.length_set];exact h.cols r (vL hr)
theorem xP {s t:Nat} {r:List Int} (hr:D[s]?=some r) {v0:Int} (ht:r[t]?=some v0) (v:Int) (s' t':Nat):at2 (D.set s (r.set t v)) s' t'=if s'=s∧t'=t then some v else at2 D s' t':=by
 have hs:=(uR.1 hr).1
 have hlt:=(uR.1 ht).1
 unfold at2
 by_cases h1:s'=s
 ·subst h1
  rw[xT hs,hr]
  simp only[uL,true_and]
  by_cases h2:t'=t
  ·subst h2;rw[if_pos rfl,xT hlt]
  rw[if_neg h2,List.getElem?_set_ne (fun e=>h2 e.symm)]
 rw[if_neg (fun e=>h1 e.1),List.getElem?_set_ne (fun e=>h1 e.symm)]
end
theorem table_m (N M:Nat) (hN:N≤4294967296) (hM:M≤4294967296):∃D,rC (N:Int) (M:Int)=some D∧Dim D N M∧∀s t,s<N→t<M→at2 D s t=some 0:=by
 unfold rC
 rw[mkc_ok (by omega)]
 simp only[uL,xL]
 obtain⟨D,hD,C⟩:=mJ (body:=fun s=>rQ (M:Int) (List.replicate N ([]:List Int)) s.1 s.2) (fun k s=>s.1=(k:Int)∧s.2.length=N∧∀j,j<k→s.2[j]?=some (List.replicate M 0)) (fun D=>D.length=N∧∀j,j<N→D[j]?=some (List.replicate M 0)) N 0 (0,List.replicate N []) ⟨O,by simp,fun j A=>by omega⟩
  (by
   rintro k ⟨i,D⟩ _ hk ⟨e,B,A⟩
   simp only at e B A
   subst e
   obtain⟨r,hr⟩:=dE (l:=D) (k:=k) (by omega)
   refine⟨((k+1:Nat),D.set k (List.replicate M 0)),?_,O,by simp[B],fun j hjk=>?_⟩
   ·simp only[rQ]
    rw[if_pos (by simp;omega),mkc_ok (by omega)]
    simp only[uL,xL]
    rw[bC hr]
    simp only[uL]
    rw[fF (by omega)]
    rfl
   simp only
   by_cases h:j=k
   ·subst h;rw[xT (by omega)]
   rw[List.getElem?_set_ne (fun e=>h e.symm)];exact A j (by omega))
  (by
   rintro⟨i,D⟩ ⟨e,B,A⟩
   simp only at e B A
   subst e
   refine⟨D,?_,B,fun j h=>A j (by omega)⟩
   simp only[rQ]
   rw[if_neg (by simp)])
 refine⟨D,by rw[hD];rfl,⟨C.1,fun r hr=>?_⟩,fun s t hs ht=>?_⟩
 ·obtain⟨j,A⟩:=List.getElem?_of_mem hr
  have hlt:=(uR.1 A).1
  rw[C.2 j (by omega)] at A
  rw[←oj A];simp
 unfold at2
 rw[C.2 s hs]
 simp[ht]
def lf (T:Tr) (s:Nat):Nat:=match (po [T])[s]? with|some u=>s+1-szT u|none=>0
theorem yV {T:Tr} {s:Nat} {u:Tr} (h:(po [T])[s]?=some u):lf T s=s+1-szT u:=by unfold lf;rw[h]
theorem at_lt {T:Tr} {s:Nat} (h:s<szT T):∃u,(po [T])[s]?=some u∧szT u≤s+1:=by
 obtain⟨u,hu⟩:=dE (l:=po [T]) (k:=s) (by rw[uD];exact h)
 exact⟨u,hu,(kX [T] hu).1⟩
theorem vI {T:Tr} {s:Nat} {u:Tr} (h:(po [T])[s]?=some u):s<szT T:=by
 have:=(uR.1 h).1
 rw[uD] at this;exact this
theorem aI7 {T:Tr} {i:Nat} {t:Tr} (h:(po [T])[i]?=some t) {x:Nat} (hx:x<szT t):(po [t])[x]?=(po [T])[i+1-szT t+x]?:=by
 obtain⟨h1,h2⟩:=kX [T] h
 rw[←h2,yW,xD,if_pos (by omega)]
structure ArrOf (c:DFlat) (T:Tr):Prop where
 lab:c.labels=(po [T]).map labT
 left:∀s,s<szT T→c.left[s]?=some ((lf T s:Nat):Int)
 leftn:c.left.length=szT T
section
variable {c0 c1:DFlat} {T T' ti tk:Tr} {i k:Nat}
structure FI (ti tk:Tr) (x y:Nat) (f:List (List Int)):Prop where
 dim:Dim f (szT ti+1) (szT tk+1)
 val:∀x' y',x'≤szT ti→y'≤szT tk→(x'≤x∨y'=0∨x'=x+1∧y'≤y)→at2 f x' y'=some ((fd (fr ti x') (fr tk y'):Nat):Int)
def come (p q Y x y s t:Nat):Prop:=p≤s∧q≤t∧t<q+Y∧(s<p+x∨s=p+x∧t<q+y)
structure DI (T T':Tr) (p q Y x y:Nat) (D D':List (List Int)):Prop where
 dim:Dim D' (szT T) (szT T')
 new:∀s t u u',(po [T])[s]?=some u→(po [T'])[t]?=some u'→come p q Y x y s t→lf T s=p→lf T' t=q→at2 D' s t=some ((fd [u] [u']:Nat):Int)
 old:∀s t,¬(come p q Y x y s t∧lf T s=p∧lf T' t=q)→at2 D' s t=at2 D s t
theorem zT (t t':Tr) {x y:Nat} (A:x≤szT t) (hy:y≤szT t'):fd (fr t x) (fr t' y)≤x+y:=by
 have h:=aE6 (fr t x) [] [] (fr t' y)
 simp only[List.append_nil,List.nil_append] at h
 rw[fd_l0,fd_r0,sz_fr t A,sz_fr t' hy] at h
 exact h
theorem inner_m (h0:ArrOf c0 T) (h1:ArrOf c1 T') (hT:szT T≤100000) (hT':szT T'≤100000) (hi:(po [T])[i]?=some ti) (hk:(po [T'])[k]?=some tk) {D:List (List Int)}
  (need:∀s t u u',i+1-szT ti≤s→s≤i→k+1-szT tk≤t→t≤k→(po [T])[s]?=some u→(po [T'])[t]?=some u'→¬(lf T s=i+1-szT ti∧lf T' t=k+1-szT tk)→at2 D s t=some ((fd [u] [u']:Nat):Int))
  {x y:Nat} (F:x<szT ti) (hy:y<szT tk) {f D':List (List Int)} (hf:FI ti tk x y f) (hd:DI T T' (i+1-szT ti) (k+1-szT tk) (szT tk) x y D D'):
  ∃f2 D2,lG (k:Int) c0 c1 ((i+1-szT ti:Nat):Int) ((k+1-szT tk:Nat):Int) ((i+1-szT ti+x:Nat):Int) ((k+1-szT tk+y:Nat):Int) f D'=some (.next (((k+1-szT tk+(y+1):Nat):Int),f2,D2))∧FI ti tk x (y+1) f2∧DI T T' (i+1-szT ti) (k+1-szT tk) (szT tk) x (y+1) D D2:=by
 have hsi:=(kX [T] hi).1
 have hsk:=(kX [T'] hk).1
 have hiT:=vI hi
 have hkT:=vI hk
 generalize hp:i+1-szT ti=p at*
 generalize hq:k+1-szT tk=q at*
 obtain⟨u,hu⟩:=dE (l:=po [ti]) (k:=x) (by rw[uD];exact F)
 obtain⟨u',hu'⟩:=dE (l:=po [tk]) (k:=y) (by rw[uD];exact hy)
 have hA:(po [T])[p+x]?=some u:=by rw[←hp,←aI7 hi F];exact hu
 have hB:(po [T'])[q+y]?=some u':=by rw[←hq,←aI7 hk hy];exact hu'
 have su:=(kX [ti] hu).1
 have su':=(kX [tk] hu').1
 have pu:=pR u
 have pu':=pR u'
 have eA:=yV hA
 have eB:=yV hB
 have hcell:=fd_fr ti tk F hy hu hu'
 obtain⟨r1,v1,a1,a2,a3,_⟩:=hf.dim.get (s:=x) (t:=y+1) (by omega) (by omega)
 obtain⟨r2,v2,b1,b2,b3,b4⟩:=hf.dim.get (s:=x+1) (t:=y) (by omega) (by omega)
 obtain⟨r4,v4,d1,d2,d3,_⟩:=hf.dim.get (s:=x+1) (t:=y+1) (by omega) (by omega)
 rw[b1] at d1
 obtain rfl:=oj d1
 have e1:v1=((fd (fr ti x) (fr tk (y+1)):Nat):Int):=by
  have:=hf.val x (y+1) (by omega) (by omega) (Or.inl (zP _));rw[a3] at this;exact oj this
 have e2:v2=((fd (fr ti (x+1)) (fr tk y):Nat):Int):=by
  have:=hf.val (x+1) y (by omega) (by omega) (Or.inr (Or.inr ⟨O,zP _⟩));rw[b3] at this;exact oj this
 have s1:=zT ti tk (x:=x) (y:=y+1) (by omega) (by omega)
 have s2:=zT ti tk (x:=x+1) (y:=y) (by omega) (by omega)
 have s3:=zT ti tk (x:=x) (y:=y) (by omega) (by omega)
 have hlab0:c0.labels[p+x]?=some (labT u):=by rw[h0.lab,xF,hA];rfl
 have hlab1:c1.labels[q+y]?=some (labT u'):=by rw[h1.lab,xF,hB];rfl
 have I:=h0.left (p+x) (by omega)
 have E:=h1.left (q+y) (by omega)
 have fin:∀v:Int,v=((fd (fr ti (x+1)) (fr tk (y+1)):Nat):Int)→FI ti tk x (y+1) (f.set (x+1) (r2.set (y+1) v)):=by
  intro v hv
  refine⟨hf.dim.set b1 v,fun x' y' h1 h2 h3=>?_⟩
  rw[xP b1 d2]
  split
  ·rename_i hh;obtain⟨rfl,rfl⟩:=hh;rw[hv]
  rename_i hh
  refine hf.val x' y' h1 h2 ?_
  rcases h3 with h3|h3|⟨h3,h4⟩
  ·exact Or.inl h3
  ·exact Or.inr (Or.inl h3)
  refine Or.inr (Or.inr ⟨h3,?_⟩)
  have:¬y'=y+1:=fun e=>hh ⟨h3,e⟩
  omega
 simp only[lG]
 rw[if_pos (by simp;omega)]
 rw[dI (by omega)]
 simp only[uL]
 rw[dI (by omega)]
 simp only[uL]
 rw[dI (by omega)]
 simp only[uL]
 rw[dI (by omega)]
 simp only[uL]
 rw[dI (by omega)]
 simp only[uL]
 have ex:((p+x:Nat):Int)-(p:Int)+1=((x+1:Nat):Int):=by omega
 have ey:((q+y:Nat):Int)-(q:Int)+1=((y+1:Nat):Int):=by omega
 have K:((x+1:Nat):Int)-1=(x:Int):=by omega
 have ey0:((y+1:Nat):Int)-1=(y:Int):=by omega
 rw[ex,K,ey,bC a1]
 simp only[uL]
 rw[bC a2]
 simp only[uL]
 rw[bC b1]
 simp only[uL]
 rw[dI (by omega),ey0]
 simp only[uL]
 rw[bC b2]
 simp only[uL]
 rw[dI (by omega)]
 simp only[uL]
 rw[bC I]
 simp only[uL]
 have hcond:((if(!decide (((lf T (p+x):Nat):Int)=(p:Int)))=true then some true else(idx c1.left ((q+y:Nat):Int)).bind fun H=>some (!decide (H=(q:Int)))):Option Bool)=some (!decide (szT u=x+1∧szT u'=y+1)):=by
  rw[bC E]
  simp only[uL]
  rw[eA,eB]
  by_cases g1:szT u=x+1
  ·rw[if_neg (by simp;omega)]
   congr 2
   exact decide_eq_decide.2 (by omega)
  rw[if_pos (by simp;omega),decide_eq_false (by omega)];rfl
 rw[hcond]
 simp only[uL]
 by_cases hb:szT u=x+1∧szT u'=y+1
 ·
  rw[if_neg (by simp[hb])]
  rw[if_pos hb] at hcell
  rw[dI (by omega)]
  simp only[uL]
  obtain⟨r3,v3,c1',c2',c3',_⟩:=hf.dim.get (s:=x) (t:=y) (by omega) (by omega)
  have e3:v3=((fd (fr ti x) (fr tk y):Nat):Int):=by
   have:=hf.val x y (by omega) (by omega) (Or.inl (zP _));rw[c3'] at this;exact oj this
  obtain⟨rd,vd,g1,g2,g3,_⟩:=hd.dim.get (s:=p+x) (t:=q+y) (by omega) (by omega)
  rw[a1] at c1'
  obtain rfl:=oj c1'
  rw[bC c2']
  simp only[uL]
  rw[bC hlab0,bC hlab1]
  simp only[uL]
  have L:((if(!(decide ((labT u).kind=(labT u').kind)&&decide ((labT u).text=(labT u').text)))=true then(inK .i64 (v3+1)).bind fun G=>some G else some v3):Option Int)=some (v3+((rl (labT u) (labT u'):Nat):Int)):=by
   unfold rl
   by_cases h:labT u=labT u'
   ·rw[if_pos h,if_neg (by simp[h])];simp
   rw[if_neg h,if_pos,dI (by omega)]
   ·rfl
   have:¬((labT u).kind=(labT u').kind∧(labT u).text=(labT u').text):=fun hh=>h (by
    generalize labT u=A at hh⊢
    generalize labT u'=B at hh⊢
    obtain⟨a,b⟩:=A
    obtain⟨c,d⟩:=B
    simp only at hh
    rw[hh.1,hh.2])
   rw[Bool.not_eq_true',Bool.and_eq_false_iff]
   by_cases hk1:(labT u).kind=(labT u').kind
   ·exact Or.inr (decide_eq_false fun h2=>this ⟨hk1,h2⟩)
   exact Or.inl (decide_eq_false hk1)
  rw[L]
  simp only[uL]
  rw[bC d2]
  simp only[uL]
  rw[bC g1]
  simp only[uL,xL]
  have hv:min (min v1 v2+1) (v3+((rl (labT u) (labT u'):Nat):Int))=((fd (fr ti (x+1)) (fr tk (y+1)):Nat):Int):=by rw[hcell,e1,e2,e3];omega
  rw[hv]
  have hnew:(f.set (x+1) (r2.set (y+1) ((fd (fr ti (x+1)) (fr tk (y+1)):Nat):Int)))[x+1]?=some (r2.set (y+1) ((fd (fr ti (x+1)) (fr tk (y+1)):Nat):Int)):=xT (by rw[hf.dim.rows];omega)
  have hnew2:(r2.set (y+1) ((fd (fr ti (x+1)) (fr tk (y+1)):Nat):Int))[y+1]?=some ((fd (fr ti (x+1)) (fr tk (y+1)):Nat):Int):=xT (by rw[b4];omega)
  rw[bC hnew]
  simp only[uL]
  rw[bC hnew2]
  simp only[uL]
  rw[bC g2]
  simp only[uL]
  refine⟨_,_,by rw[show((q+y:Nat):Int)+1=((q+(y+1):Nat):Int) by omega],fin _ O,?_⟩
  have hfull:fd (fr ti (x+1)) (fr tk (y+1))=fd [u] [u']:=by
   have z1:=(aN7 ti F hu).2.1
   have z2:=(aN7 tk hy hu').2.1
   rw[hb.1,Nat.sub_self,xQ] at z1
   rw[hb.2,Nat.sub_self,xQ] at z2
   rw[z1,z2]
  refine⟨hd.dim.set g1 _,fun s t w w' C hw' J l1 l2=>?_,fun s t hn=>?_⟩
  ·rw[xP g1 g2]
   split
   ·rename_i hh
    obtain⟨rfl,rfl⟩:=hh
    rw[hA] at C;rw[hB] at hw'
    rw[←oj C,←oj hw',hfull]
   rename_i hh
   refine hd.new s t w w' C hw' ?_ l1 l2
   unfold come at J⊢
   omega
  rw[xP g1 g2]
  split
  ·rename_i hh
   exfalso
   apply hn
   obtain⟨rfl,rfl⟩:=hh
   refine⟨?_,by rw[eA];omega,by rw[eB];omega⟩
   unfold come;omega
  rename_i hh
  refine hd.old s t fun h3=>hn ⟨?_,h3.2⟩
  have:=h3.1
  unfold come at this⊢
  omega
 rw[if_pos (by simp[hb])]
 rw[if_neg hb] at hcell
 obtain⟨r3,v3,c1',c2',c3',_⟩:=hf.dim.get (s:=x+1-szT u) (t:=y+1-szT u') (by omega) (by omega)
 have e3:v3=((fd (fr ti (x+1-szT u)) (fr tk (y+1-szT u')):Nat):Int):=by
  have:=hf.val (x+1-szT u) (y+1-szT u') (by omega) (by omega) (Or.inl (by omega));rw[c3'] at this;exact oj this
 obtain⟨rd,vd,g1,g2,g3,_⟩:=hd.dim.get (s:=p+x) (t:=q+y) (by omega) (by omega)
 have e4:vd=((fd [u] [u']:Nat):Int):=by
  have h5:=hd.old (p+x) (q+y) (fun h=>by have:=h.1;unfold come at this;omega)
  have h6:=need (p+x) (q+y) u u' (by omega) (by omega) (by omega) (by omega) hA hB (fun h=>hb (by rw[eA,eB] at h;omega))
  rw[h6,g3] at h5
  exact oj h5
 have s4:=zT ti tk (x:=x+1-szT u) (y:=y+1-szT u') (by omega) (by omega)
 have s5:fd [u] [u']≤szT u+szT u':=by
  have h:=aE6 [u] [] [] [u']
  simp only[List.append_nil,List.nil_append] at h
  rw[fd_l0,fd_r0,H6,H6] at h
  exact h
 rw[dI (by rw[eA];omega)]
 simp only[uL]
 rw[show((lf T (p+x):Nat):Int)-(p:Int)=((x+1-szT u:Nat):Int) by rw[eA];omega,bC c1']
 simp only[uL]
 rw[bC E]
 simp only[uL]
 rw[dI (by rw[eB];omega)]
 simp only[uL]
 rw[show((lf T' (q+y):Nat):Int)-(q:Int)=((y+1-szT u':Nat):Int) by rw[eB];omega,bC c2']
 simp only[uL]
 rw[bC g1]
 simp only[uL]
 rw[bC g2]
 simp only[uL]
 rw[dI (by omega)]
 simp only[uL]
 rw[bC d2]
 simp only[uL,xL]
 rw[dI (by omega)]
 simp only[uL]
 refine⟨_,_,by rw[show((q+y:Nat):Int)+1=((q+(y+1):Nat):Int) by omega],fin _ (by rw[hcell,e1,e2,e3,e4];omega),?_⟩
 refine⟨hd.dim,fun s t w w' C hw' J l1 l2=>?_,fun s t hn=>?_⟩
 ·refine hd.new s t w w' C hw' ?_ l1 l2
  have:¬(s=p+x∧t=q+y):=fun h=>by
   obtain⟨rfl,rfl⟩:=h
   rw[eA] at l1;rw[eB] at l2
   exact hb (by omega)
  unfold come at J⊢
  omega
 refine hd.old s t fun h3=>hn ⟨?_,h3.2⟩
 have:=h3.1
 unfold come at this⊢
 omega
end
end Go.Proofs.YtopnldfjcciieaaGreat

/- The code goes as its model: assessor/assessorlaw38.AlignInverts. (Printed by wip/sp/gen.py.) -/
import Derived.Test.YtopnldfjcciieaaGreatKInT
import Derived.Test.YtopnldfjcciieaaGreatKIn4
import Derived.Test.YtopnldfjcciieaaGreatKIn5
import Derived.Test.YtopnldfjcciieaaGreatKIn24
import Derived.Test.YtopnldfjcciieaaGreatKIn2
import Derived.Test.YtopnldfjcciieaaGreatKIn3
import Derived.Test.YtopnldfjcciieaaGreatKIn6
set_option linter.unusedVariables false
set_option linter.unusedSimpArgs false
set_option maxRecDepth 100000
set_option maxHeartbeats 4000000
namespace Go.Proofs.YtopnldfjcciieaaGreat
open Go.RowKit
theorem c_assessorlaw38_AlignInverts {Z:World} {ρ:PH} {L:List bM} {w:World} (D:Node) (aI:Value) (bD:aH ρ aI D.kids) (C:Node) (aN:Value) (bT:aH ρ aN C.kids) (e:(List Opn)) (vp2:Value) (hp2:aH ρ vp2 e) (B:Hp Z ρ (L) w) (r:Bool) (H:lL D C e=some r):
  Calls Tryz.prog 6 #[(.agg #[(Iv D.kind),(.string D.text),(Iv D.at_),(Iv D.fin),aI]),(.agg #[(Iv C.kind),(.string C.text),(Iv C.at_),(Iv C.fin),aN]),vp2] w (Ret fun v w'=>v=(.bool r)∧Hp Z ρ (L) w'):=by
 refine enter (N:=110) Tryz.func6 O O [(0,(.agg #[(Iv D.kind),(.string D.text),(Iv D.at_),(Iv D.fin),aI])),(1,(.agg #[(Iv C.kind),(.string C.text),(Iv C.at_),(Iv C.fin),aN])),(2,vp2)] O (bC ⟨O,O,O,tv⟩) fun a A=>?_
 unfold lL at H
 refine aG (aC ?_)
 refine jA (wk0 O) O O A B O (v:=(.agg #[(Iv D.kind),(.string D.text),(Iv D.at_),(Iv D.fin),aI])) O ?_
 intro a w b1 A B
 have B:=r1 B
 refine jA (wk0 O) O O A B O (v:=(.agg #[(Iv C.kind),(.string C.text),(Iv C.at_),(Iv C.fin),aN])) O ?_
 intro a w b2 A B
 have B:=r2 B
 refine S A 1 O fun a A=>aA (aG ?_)
 refine aG (aC ?_)
 obtain⟨x1,ex1,H⟩:=bnd H
 refine Cl A O O ent10 (Z9 B x1 ex1) trivial fun v a w R A=>?_
 obtain⟨rfl,B⟩:=R
 have B:=r2 B
 refine S A 1 O fun a A=>aA ?_
 refine dJ A O (fun h=>?_) (fun h=>?_)
 ·replace H:=(it h).symm.trans H
  refine aG (aC ?_)
  refine S A 1 O fun a A=>aA (dD ?_)
  obtain rfl:=oj H
  exact iF A O O ⟨_,O,O,(((B.get 1 O).drop).drop)⟩
 replace H:=(ie h).symm.trans H
 refine bF (aG ?_)
 refine aG (aC ?_)
 refine V A B O (aK O A O (fun w U=>aX (cs:=[(Iv D.kind),(.string D.text),(Iv D.at_),(Iv D.fin),aI]) dG (Hp.cN 1 O 0 _ (aT O) w U))) fun a A=>V A B O (aK O A O (fun w U=>aX (cs:=[(Iv C.kind),(.string C.text),(Iv C.at_),(Iv C.fin),aN]) dG (Hp.cN 0 O 0 _ (aT O) w U))) fun a A=>?_
 obtain⟨x2,ex2,H⟩:=bnd H
 refine Cl A O O ent11 (aD2 D aI bD C aN bT 15 B x2 ex2) ⟨O,O,O,tv⟩ fun v a w R A=>?_
 obtain⟨rfl,B⟩:=R
 have B:=r2 B
 refine S A 2 O fun a A=>?_
 obtain⟨m1,hg1,H⟩:=bnd H
 refine iW [_,_,_,_,_,_] (fun a w=>Env 110 [(28,(.bool m1)),(2,vp2),(3,(Pv b1 0)),(4,(Pv b2 0))] a∧Hp Z ρ (Pt b2 (.cells #[(Iv C.kind),(.string C.text),(Iv C.at_),(Iv C.fin),aN] 24 (0,0))::Pt b1 (.cells #[(Iv D.kind),(.string D.text),(Iv D.at_),(Iv D.fin),aI] 24 (0,0))::L) w) ?_ ?_
 ·rcases Bool.eq_false_or_eq_true (!x2) with M|M
  ·
   replace hg1:=(it M).symm.trans hg1
   refine Gk A M O fun a A=>Gk A M O fun a A=>Gk A M O fun a A=>Gk A M O fun a A=>Gk A M O fun a A=>pk1 A M O O O O fun a A=>?_
   obtain rfl:=oj hg1
   exact aA ⟨A.cut ⟨O,O,O,O,tv⟩,B⟩
  replace hg1:=(ie M).symm.trans hg1
  refine G A B M O (aK O A O (fun w U=>aX (cs:=[(Iv D.kind),(.string D.text),(Iv D.at_),(Iv D.fin),aI]) dG (Hp.cN 1 O 0 _ (aT O) w U))) fun a A=>G A B M O (aK O A O (fun w U=>aX (cs:=[(Iv C.kind),(.string C.text),(Iv C.at_),(Iv C.fin),aN]) dG (Hp.cN 0 O 0 _ (aT O) w U))) fun a A=>Gs A M O O fun a A=>?_
  obtain⟨x3,ex3,hg1⟩:=bnd hg1
  refine Cg A M O O ent17 (wF D aI bD C aN bT e vp2 hp2 B x3 ex3) ⟨O,O,O,tv⟩ fun v a w R A=>?_
  obtain⟨rfl,B⟩:=R
  have B:=r2 B
  refine Gs A M O O fun a A=>pk0 A M O O O O fun a A=>?_
  obtain rfl:=oj hg1
  exact aA ⟨A.cut ⟨O,O,O,O,tv⟩,B⟩
 rintro a w ⟨A,B⟩
 refine aA ?_
 refine dJ A O (fun g=>?_) (fun g=>?_)
 ·replace H:=(it g).symm.trans H
  refine aG (aC ?_)
  refine S A 1 O fun a A=>aA (dD ?_)
  obtain rfl:=oj H
  exact iF A O O ⟨_,O,O,(((B.get 1 O).drop).drop)⟩
 replace H:=(ie g).symm.trans H
 refine bF (aG ?_)
 refine aC (S A 1 O fun a A=>?_)
 obtain⟨c,ex4,H⟩:=bnd H
 refine s_call (wk0 O) O O A O [vp2] ⟨O,tv⟩ ent26 (xO e vp2 hp2 B c ex4) Ret.ret ?_
 intro vr4 a w R A
 obtain⟨u,rfl,B⟩:=Ret.of R
 have B:=r3 B
 refine S A 1 O fun a A=>aA (aG ?_)
 refine aC (V A B O (aK O A O (fun w U=>aX (cs:=[(Iv D.kind),(.string D.text),(Iv D.at_),(Iv D.fin),aI]) dG (Hp.cN 2 O 0 _ (aT O) w U))) fun a A=>?_)
 refine V A B O (aK O A O (fun w U=>aX (cs:=[(Iv C.kind),(.string C.text),(Iv C.at_),(Iv C.fin),aN]) dG (Hp.cN 1 O 0 _ (aT O) w U))) fun a A=>S A 1 O fun a A=>?_
 obtain⟨T,z,H⟩:=bnd H
 refine Cl A O O ent15 (X6 D aI bD C aN bT e vp2 hp2 B T z) ⟨O,O,O,tv⟩ fun v a w R A=>?_
 obtain⟨rfl,B⟩:=R
 have B:=r3 B
 refine S A 5 O fun a A=>aA (aG ?_)
 refine aC (V A B O (aK O A O (fun w U=>aX (cs:=[(Iv C.kind),(.string C.text),(Iv C.at_),(Iv C.fin),aN]) dG (Hp.cN 1 O 0 _ (aT O) w U))) fun a A=>?_)
 refine V A B O (aK O A O (fun w U=>aX (cs:=[(Iv D.kind),(.string D.text),(Iv D.at_),(Iv D.fin),aI]) dG (Hp.cN 2 O 0 _ (aT O) w U))) fun a A=>S A 1 O fun a A=>?_
 obtain⟨k1,k1a,k1d,k1h⟩:=(B.get 0 O).lend
 obtain⟨Y,y,H⟩:=bnd H
 refine Cl A O O ent15 (X6 C aN (aH.mono bT (PH.le_un _ _)) D aI (aH.mono bD (PH.le_un _ _)) c vr4 (aF.ro k1d k1a) k1h Y y) ⟨O,O,O,tv⟩ fun v a w R A=>?_
 obtain⟨rfl,B⟩:=R
 have B:=Hp.back k1a k1d B
 have B:=r3 B
 refine S A 5 O fun a A=>aA ?_
 have A:=A.cut (E':=[(2,vp2),(3,(Pv b1 0)),(4,(Pv b2 0)),(7,vr4),(8,(Iv T.1)),(9,(Iv T.2)),(10,(Iv Y.1)),(11,(Iv Y.2))]) ⟨O,O,O,O,O,O,O,O,tv⟩
 refine aG (aG ?_)
 refine aC (V A B O (aK O A O (fun w U=>aX (cs:=[(Iv C.kind),(.string C.text),(Iv C.at_),(Iv C.fin),aN]) dG (Hp.cN 1 O 0 _ (aT O) w U))) fun a A=>?_)
 refine V A B O (aK O A O (fun w U=>aX (cs:=[(Iv D.kind),(.string D.text),(Iv D.at_),(Iv D.fin),aI]) dG (Hp.cN 2 O 0 _ (aT O) w U))) fun a A=>S A 1 O fun a A=>?_
 obtain⟨k2,k2a,k2d,k2h⟩:=(B.get 0 O).lend
 obtain⟨d,x,H⟩:=bnd H
 refine Cl A O O ent17 (wF C aN (aH.mono bT (PH.le_un _ _)) D aI (aH.mono bD (PH.le_un _ _)) c vr4 (aF.ro k2d k2a) k2h d x) ⟨O,O,O,tv⟩ fun v a w R A=>?_
 obtain⟨rfl,B⟩:=R
 have B:=Hp.back k2a k2d B
 have B:=r3 B
 refine S A 2 O fun a A=>?_
 refine iW [_,_,_] (fun a w=>Env 110 [(53,(.bool ((!d)||(!decide (T.2=0))))),(2,vp2),(7,vr4),(8,(Iv T.1)),(10,(Iv Y.1)),(11,(Iv Y.2))] a∧Hp Z ρ (aF 46 vr4 c::Pt b2 (.cells #[(Iv C.kind),(.string C.text),(Iv C.at_),(Iv C.fin),aN] 24 (0,0))::Pt b1 (.cells #[(Iv D.kind),(.string D.text),(Iv D.at_),(Iv D.fin),aI] 24 (0,0))::L) w) ?_ ?_
 ·rcases Bool.eq_false_or_eq_true (!d) with X|X
  ·
   refine Gk A X O fun a A=>Gk A X O fun a A=>pk1 A X O O O O fun a A=>?_
   have A:=A.eqv (v':=(.bool ((!d)||(!decide (T.2=0))))) (by rw[X];rfl)
   exact aA ⟨A.cut ⟨O,O,O,O,O,O,tv⟩,B⟩
  refine Gs A X O O fun a A=>Gs A X O O fun a A=>pk0 A X O O O O fun a A=>?_
  have A:=A.eqv (v':=(.bool ((!d)||(!decide (T.2=0))))) (by rw[X];rfl)
  exact aA ⟨A.cut ⟨O,O,O,O,O,O,tv⟩,B⟩
 rintro a w ⟨A,B⟩
 refine S A 1 O fun a A=>?_
 refine iW [_,_,_] (fun a w=>Env 110 [(57,(.bool (((!d)||(!decide (T.2=0)))||(!decide (Y.2=0))))),(2,vp2),(7,vr4),(8,(Iv T.1)),(10,(Iv Y.1))] a∧Hp Z ρ (aF 46 vr4 c::Pt b2 (.cells #[(Iv C.kind),(.string C.text),(Iv C.at_),(Iv C.fin),aN] 24 (0,0))::Pt b1 (.cells #[(Iv D.kind),(.string D.text),(Iv D.at_),(Iv D.fin),aI] 24 (0,0))::L) w) ?_ ?_
 ·rcases Bool.eq_false_or_eq_true ((!d)||(!decide (T.2=0))) with W|W
  ·
   refine Gk A W O fun a A=>Gk A W O fun a A=>pk1 A W O O O O fun a A=>?_
   have A:=A.eqv (v':=(.bool (((!d)||(!decide (T.2=0)))||(!decide (Y.2=0))))) (by rw[W];rfl)
   exact aA ⟨A.cut ⟨O,O,O,O,O,tv⟩,B⟩
  refine Gs A W O O fun a A=>Gs A W O O fun a A=>pk0 A W O O O O fun a A=>?_
  have A:=A.eqv (v':=(.bool (((!d)||(!decide (T.2=0)))||(!decide (Y.2=0))))) (by rw[W];rfl)
  exact aA ⟨A.cut ⟨O,O,O,O,O,tv⟩,B⟩
 rintro a w ⟨A,B⟩
 refine S A 1 O fun a A=>?_
 refine iW [_,_,_,_] (fun a w=>Env 110 [(62,(.bool ((((!d)||(!decide (T.2=0)))||(!decide (Y.2=0)))||(!decide (T.1=Y.1))))),(2,vp2),(7,vr4)] a∧Hp Z ρ (aF 46 vr4 c::Pt b2 (.cells #[(Iv C.kind),(.string C.text),(Iv C.at_),(Iv C.fin),aN] 24 (0,0))::Pt b1 (.cells #[(Iv D.kind),(.string D.text),(Iv D.at_),(Iv D.fin),aI] 24 (0,0))::L) w) ?_ ?_
 ·rcases Bool.eq_false_or_eq_true (((!d)||(!decide (T.2=0)))||(!decide (Y.2=0))) with Q|Q
  ·
   refine Gk A Q O fun a A=>Gk A Q O fun a A=>Gk A Q O fun a A=>pk1 A Q O O O O fun a A=>?_
   have A:=A.eqv (v':=(.bool ((((!d)||(!decide (T.2=0)))||(!decide (Y.2=0)))||(!decide (T.1=Y.1))))) (by rw[Q];rfl)
   exact aA ⟨A.cut ⟨O,O,O,tv⟩,B⟩
  refine Gs A Q O O fun a A=>Gs A Q O O fun a A=>Gs A Q O O fun a A=>pk0 A Q O O O O fun a A=>?_
  have A:=A.eqv (v':=(.bool ((((!d)||(!decide (T.2=0)))||(!decide (Y.2=0)))||(!decide (T.1=Y.1))))) (by rw[Q];rfl)
  exact aA ⟨A.cut ⟨O,O,O,tv⟩,B⟩
 rintro a w ⟨A,B⟩
 refine S A 1 O fun a A=>?_
 obtain⟨m2,hg2,H⟩:=bnd H
 refine iW [_,_,_,_,_,_] (fun a w=>Env 110 [(69,(.bool m2)),(2,vp2),(7,vr4)] a∧Hp Z ρ (aF 46 vr4 c::Pt b2 (.cells #[(Iv C.kind),(.string C.text),(Iv C.at_),(Iv C.fin),aN] 24 (0,0))::Pt b1 (.cells #[(Iv D.kind),(.string D.text),(Iv D.at_),(Iv D.fin),aI] 24 (0,0))::L) w) ?_ ?_
 ·rcases Bool.eq_false_or_eq_true ((((!d)||(!decide (T.2=0)))||(!decide (Y.2=0)))||(!decide (T.1=Y.1))) with K|K
  ·
   replace hg2:=(it K).symm.trans hg2
   refine Gk A K O fun a A=>Gk A K O fun a A=>Gk A K O fun a A=>Gk A K O fun a A=>Gk A K O fun a A=>pk1 A K O O O O fun a A=>?_
   obtain rfl:=oj hg2
   exact aA ⟨A.cut ⟨O,O,O,tv⟩,B⟩
  replace hg2:=(ie K).symm.trans hg2
  refine Gs A K O O fun a A=>Gs A K O O fun a A=>?_
  obtain⟨x8,t,hg2⟩:=bnd hg2
  refine s_call (wk1 A O O O K) O O A O [vp2] ⟨O,tv⟩ ent28 (X9 e vp2 hp2 B x8 t) Ret.ret ?_
  intro vr10 a w R A
  obtain⟨u,rfl,B⟩:=Ret.of R
  have B:=r4 B
  obtain⟨k3,k3a,k3d,k3h⟩:=(B.get 1 O).lend
  obtain⟨k4,k4a,k4d,k4h⟩:=(k3h.get 0 O).lend
  obtain⟨x9,q,hg2⟩:=bnd hg2
  refine Cg A K O O ent27 (uN c vr4 (aH.mono (aF.ro k3d k3a) (PH.le_un _ _)) x8 vr10 (aF.ro k4d k4a) k4h x9 q) ⟨O,O,tv⟩ fun v a w R A=>?_
  obtain⟨rfl,B⟩:=R
  have B:=Hp.back k4a k4d B
  have B:=Hp.back k3a k3d B
  have B:=r4 B
  refine Gs A K O O fun a A=>pk0 A K O O O O fun a A=>?_
  obtain rfl:=oj hg2
  exact aA ⟨A.cut ⟨O,O,O,tv⟩,((B.get 1 O).drop)⟩
 rintro a w ⟨A,B⟩
 refine S A 1 O fun a A=>?_
 obtain⟨m3,hg3,H⟩:=bnd H
 refine iW [_,_,_,_,_,_] (fun a w=>Env 110 [(76,(.bool m3)),(2,vp2),(7,vr4)] a∧Hp Z ρ (aF 46 vr4 c::Pt b2 (.cells #[(Iv C.kind),(.string C.text),(Iv C.at_),(Iv C.fin),aN] 24 (0,0))::Pt b1 (.cells #[(Iv D.kind),(.string D.text),(Iv D.at_),(Iv D.fin),aI] 24 (0,0))::L) w) ?_ ?_
 ·rcases Bool.eq_false_or_eq_true m2 with J|J
  ·
   replace hg3:=(it J).symm.trans hg3
   refine Gk A J O fun a A=>Gk A J O fun a A=>Gk A J O fun a A=>Gk A J O fun a A=>Gk A J O fun a A=>pk1 A J O O O O fun a A=>?_
   obtain rfl:=oj hg3
   exact aA ⟨A.cut ⟨O,O,O,tv⟩,B⟩
  replace hg3:=(ie J).symm.trans hg3
  refine Gs A J O O fun a A=>?_
  obtain⟨k5,k5a,k5d,k5h⟩:=(B.get 0 O).lend
  obtain⟨i,o,hg3⟩:=bnd hg3
  refine s_call (wk1 A O O O J) O O A O [vr4] ⟨O,tv⟩ ent26 (xO c vr4 (aF.ro k5d k5a) k5h i o) Ret.ret ?_
  intro vr12 a w R A
  obtain⟨u,rfl,B⟩:=Ret.of R
  have B:=Hp.back k5a k5d B
  have B:=r4 B
  refine Gs A J O O fun a A=>?_
  obtain⟨k6,k6a,k6d,k6h⟩:=(B.get 1 O).lend
  obtain⟨p,n,hg3⟩:=bnd hg3
  refine Cg A J O O ent27 (uN i vr12 (aF.ro k6d k6a) e vp2 (aH.mono hp2 (PH.le_un _ _)) k6h p n) ⟨O,O,tv⟩ fun v a w R A=>?_
  obtain⟨rfl,B⟩:=R
  have B:=Hp.back k6a k6d B
  have B:=r4 B
  refine Gs A J O O fun a A=>pk0 A J O O O O fun a A=>?_
  obtain rfl:=oj hg3
  exact aA ⟨A.cut ⟨O,O,O,tv⟩,(B.drop)⟩
 rintro a w ⟨A,B⟩
 refine aA ?_
 refine dJ A O (fun f=>?_) (fun f=>?_)
 ·replace H:=(it f).symm.trans H
  refine aG (aC ?_)
  refine S A 1 O fun a A=>aA (dD ?_)
  obtain rfl:=oj H
  exact iF A O O ⟨_,O,O,(((((B.get 2 O).drop).get 1 O).drop).drop)⟩
 replace H:=(ie f).symm.trans H
 refine bF (aG ?_)
 refine aG (aC ?_)
 refine S A 1 O fun a A=>V A B O (dC O A O (aH.len hp2 aJ)) fun a A=>S A 1 O fun a A=>aA ?_
 obtain⟨b3,hc10,H⟩:=bnd H
 refine dR (fun a w=>∃s:Unit,b3= .brk s∧(Env 110 [] a∧Hp Z ρ (aF 46 vr4 c::Pt b2 (.cells #[(Iv C.kind),(.string C.text),(Iv C.at_),(Iv C.fin),aN] 24 (0,0))::Pt b1 (.cells #[(Iv D.kind),(.string D.text),(Iv D.at_),(Iv D.fin),aI] 24 (0,0))::L) w)) ?_ ?_
 ·refine fO hc10 (fun s a w=>Env 110 [(7,vr4),(77,vp2),(78,(Iv (e.length:Int))),(79,(Iv s))] a∧Hp Z ρ (aF 46 vr4 c::Pt b2 (.cells #[(Iv C.kind),(.string C.text),(Iv C.at_),(Iv C.fin),aN] 24 (0,0))::Pt b1 (.cells #[(Iv D.kind),(.string D.text),(Iv D.at_),(Iv D.fin),aI] 24 (0,0))::L) w) ?_ ?_
  ·exact⟨A.cut ⟨O,O,O,O,tv⟩,B⟩
  rintro aS st a w ⟨A,B⟩ I
  unfold jZ at I
  refine aG (aC ?_)
  refine S A 1 O fun a A=>aA (aG ?_)
  refine dJ A O (fun hc11=>?_) (fun hc11=>?_)
  ·replace I:=(it hc11).symm.trans I
   refine bF (aG ?_)
   refine dW (aG ?_)
   refine aC ?_
   obtain⟨E,m,I⟩:=bnd I
   obtain⟨b4,b4o,b4c,b4r,b4k,b4f⟩:=aH.at hp2 aJ m
   obtain rfl:b4c=Enc.enc E:=b4k
   have b4f:AtP ρ b4 b4o [(Iv E.a),(Iv E.b)]:=b4f
   refine V A B O (aP O A O O b4r) fun a A=>V A B O (aK O A O (fun w U=>aX (cs:=[(Iv E.a),(Iv E.b)]) fJ (fun j u hj=>cell_of U.le (b4f j u hj)))) fun a A=>?_
   refine dK (wk0 O) O O A B O [(Iv 0),(Iv 0)] (fun w=>by simp[Instr.alloc,go_sem]<;>rfl) ?_
   intro a w b5 A B
   have B:=r4 B
   refine aW (wk0 O) O A B O O O 0 O fJ.size_ O (aQ ⟨O,O,tv⟩) [(Iv E.a),(Iv E.b)] O ?_
   intro w B
   have B:=r4 B
   refine aA (aG ?_)
   refine aC (S A 1 O fun a A=>?_)
   refine V A B O (xf A fK O O) fun a A=>V A B O (xl A aY 0 O O O O) fun a A=>?_
   obtain⟨k7,k7a,k7d,k7h⟩:=(B.get 1 O).lend
   obtain⟨F,l,I⟩:=bnd I
   refine Cl A O O ent13 (zT c vr4 (aF.ro k7d k7a) E.b k7h F l) ⟨O,O,tv⟩ fun v a w R A=>?_
   obtain⟨rfl,B⟩:=R
   have B:=Hp.back k7a k7d B
   have B:=r4 B
   refine S A 5 O fun a A=>aA (aG ?_)
   refine aC (S A 1 O fun a A=>?_)
   refine V A B O (xf A fF O O) fun a A=>V A B O (xl A aY 1 O O O O) fun a A=>S A 2 O fun a A=>?_
   refine iW [_,_,_,_] (fun a w=>Env 110 [(98,(.bool ((decide (0≤E.a))&&(decide (0≤E.b))))),(7,vr4),(13,(Pv b5 0)),(14,(Iv F.1)),(15,(.bool F.2)),(77,vp2),(78,(Iv (e.length:Int))),(79,(Iv aS)),(90,(.bool F.2))] a∧Hp Z ρ (aF 46 vr4 c::Pt b5 (.cells #[(Iv E.a),(Iv E.b)] 46 (0,0))::Pt b2 (.cells #[(Iv C.kind),(.string C.text),(Iv C.at_),(Iv C.fin),aN] 24 (0,0))::Pt b1 (.cells #[(Iv D.kind),(.string D.text),(Iv D.at_),(Iv D.fin),aI] 24 (0,0))::L) w) ?_ ?_
   ·rcases Bool.eq_false_or_eq_true (decide (0≤E.a)) with hc12|hc12
    ·
     refine G A B hc12 O (xf A fK O O) fun a A=>G A B hc12 O (xl A aY 1 O O O O) fun a A=>Gs A hc12 O O fun a A=>pk1 A hc12 O O O O fun a A=>?_
     have A:=A.eqv (v':=(.bool ((decide (0≤E.a))&&(decide (0≤E.b))))) (by rw[hc12];rfl)
     exact aA ⟨A.cut ⟨O,O,O,O,O,O,O,O,O,tv⟩,B⟩
    refine Gk A hc12 O fun a A=>Gk A hc12 O fun a A=>Gk A hc12 O fun a A=>pk0 A hc12 O O O O fun a A=>?_
    have A:=A.eqv (v':=(.bool ((decide (0≤E.a))&&(decide (0≤E.b))))) (by rw[hc12];rfl)
    exact aA ⟨A.cut ⟨O,O,O,O,O,O,O,O,O,tv⟩,B⟩
   rintro a w ⟨A,B⟩
   refine V A B O (v:=(.bool (!(F.2==((decide (0≤E.a))&&(decide (0≤E.b))))))) (ex_bneq bty4 O A O O) fun a A=>S A 1 O fun a A=>?_
   refine iW [_,_,_,_,_,_,_,_] (fun a w=>Env 110 [(108,(.bool ((!(F.2==((decide (0≤E.a))&&(decide (0≤E.b)))))||(F.2&&(!decide (F.1=E.a)))))),(7,vr4),(77,vp2),(78,(Iv (e.length:Int))),(79,(Iv aS))] a∧Hp Z ρ (aF 46 vr4 c::Pt b5 (.cells #[(Iv E.a),(Iv E.b)] 46 (0,0))::Pt b2 (.cells #[(Iv C.kind),(.string C.text),(Iv C.at_),(Iv C.fin),aN] 24 (0,0))::Pt b1 (.cells #[(Iv D.kind),(.string D.text),(Iv D.at_),(Iv D.fin),aI] 24 (0,0))::L) w) ?_ ?_
   ·rcases Bool.eq_false_or_eq_true (!(F.2==((decide (0≤E.a))&&(decide (0≤E.b))))) with hc13|hc13
    ·
     refine Gk A hc13 O fun a A=>Gk A hc13 O fun a A=>?_
     refine lV (wk3 A O O O) O O A ?_
     intro a A
     refine lV (wk3 A O O O) O O A ?_
     intro a A
     refine lV (wk3 A O O O) O O A ?_
     intro a A
     refine lV (wk3 A O O O) O O A ?_
     intro a A
     refine Gk A hc13 O fun a A=>pk1 A hc13 O O O O fun a A=>?_
     have A:=A.eqv (v':=(.bool ((!(F.2==((decide (0≤E.a))&&(decide (0≤E.b)))))||(F.2&&(!decide (F.1=E.a)))))) (by rw[hc13];rfl)
     exact aA ⟨A.cut ⟨O,O,O,O,O,tv⟩,B⟩
    refine Gs A hc13 O O fun a A=>Gs A hc13 O O fun a A=>?_
    refine iW [_,_,_,_,_] (fun a w=>Env 110 [(107,(.bool (F.2&&(!decide (F.1=E.a))))),(7,vr4),(77,vp2),(78,(Iv (e.length:Int))),(79,(Iv aS)),(100,(.bool (!(F.2==((decide (0≤E.a))&&(decide (0≤E.b))))))),(101,(.bool F.2)),(102,(.bool F.2))] a∧Hp Z ρ (aF 46 vr4 c::Pt b5 (.cells #[(Iv E.a),(Iv E.b)] 46 (0,0))::Pt b2 (.cells #[(Iv C.kind),(.string C.text),(Iv C.at_),(Iv C.fin),aN] 24 (0,0))::Pt b1 (.cells #[(Iv D.kind),(.string D.text),(Iv D.at_),(Iv D.fin),aI] 24 (0,0))::L) w) ?_ ?_
    ·rcases Bool.eq_false_or_eq_true F.2 with hc14|hc14
     ·
      refine Gs A hc14 O O fun a A=>G A B hc14 O (xf A fF O O) fun a A=>G A B hc14 O (xl A aY 1 O O O O) fun a A=>Gs A hc14 O O fun a A=>G A B hc13 O (jJ O A O hc14 O) fun a A=>?_
      have A:=A.eqv (v':=(.bool (F.2&&(!decide (F.1=E.a))))) (by rw[hc14];rfl)
      exact aA ⟨A.cut ⟨O,O,O,O,O,O,O,O,tv⟩,B⟩
     refine Gk A hc14 O fun a A=>Gk A hc14 O fun a A=>Gk A hc14 O fun a A=>Gk A hc14 O fun a A=>G A B hc13 O (iV O A O hc14 O) fun a A=>?_
     have A:=A.eqv (v':=(.bool (F.2&&(!decide (F.1=E.a))))) (by rw[hc14];rfl)
     exact aA ⟨A.cut ⟨O,O,O,O,O,O,O,O,tv⟩,B⟩
    rintro a w ⟨A,B⟩
    refine pk0 A hc13 O O O O fun a A=>?_
    have A:=A.eqv (v':=(.bool ((!(F.2==((decide (0≤E.a))&&(decide (0≤E.b)))))||(F.2&&(!decide (F.1=E.a)))))) (by rw[hc13];rfl)
    exact aA ⟨A.cut ⟨O,O,O,O,O,tv⟩,B⟩
   rintro a w ⟨A,B⟩
   refine aA ?_
   refine dJ A O (fun hc15=>?_) (fun hc15=>?_)
   ·replace I:=(it hc15).symm.trans I
    refine aG (aC ?_)
    refine S A 1 O fun a A=>aA (dD ?_)
    refine⟨_,(oj I).symm,fun hb=>?_⟩
    subst hb
    obtain rfl:=oj H
    exact iF A O O ⟨_,O,O,(((((((B.get 3 O).drop).get 2 O).drop).get 1 O).drop).drop)⟩
   replace I:=(ie hc15).symm.trans I
   refine bF (aC ?_)
   obtain⟨x14,k,I⟩:=bnd I
   refine V A B O (bI O A O O (aO k)) fun a A=>S A 1 O fun a A=>aA ?_
   exact⟨_,(oj I).symm,A.cut ⟨O,O,O,O,tv⟩,((B.get 1 O).drop)⟩
  replace I:=(ie hc11).symm.trans I
  refine fC ?_
  refine⟨_,(oj I).symm,fun hbb=>?_⟩
  exact⟨_,hbb.symm,A.cut trivial,B⟩
 rintro a w ⟨b3s,rfl,A,B⟩
 dsimp only at H
 refine aG (aC ?_)
 refine S A 1 O fun a A=>aA (dD ?_)
 obtain rfl:=oj H
 exact iF A O O ⟨_,O,O,(((((B.get 2 O).drop).get 1 O).drop).drop)⟩
theorem loop_at {σ β:Type} {body:σ→Option (Step σ β)} {b:β} (S:Nat→σ):∀(n:Nat),(∀k,k<n→body (S k)=some (.next (S (k+1))))→body (S n)=some (.done b)→fG body (S 0)=some b
 |0,_,h=>kG h
 |n+1,h1,h2=>by
  rw[vM (h1 0 (by omega))]
  exact loop_at (fun k=>S (k+1)) n (fun k hk=>h1 (k+1) (by omega)) h2
theorem yJ {σ β:Type} {body:σ→Option (Step σ β)} {b:β} {s:σ} (S:Nat→σ) (n:Nat) (h0:s=S 0) (h1:∀k,k<n→body (S k)=some (.next (S (k+1)))) (h2:body (S n)=some (.done b)):fG body s=some b:=by
 rw[h0];exact loop_at S n h1 h2
theorem bind_loop {σ β γ:Type} {body:σ→Option (Step σ β)} {s:σ} {f:β→Option γ} {r:Option γ} (S:Nat→σ) (n:Nat) (b:β) (h0:s=S 0) (h1:∀k,k<n→body (S k)=some (.next (S (k+1)))) (h2:body (S n)=some (.done b)) (hf:f b=r):(fG body s).bind f=r:=by
 rw[yJ S n h0 h1 h2];exact hf
theorem jK {n:Int} (h: -9223372036854775808≤n∧n≤9223372036854775807):inK .i64 n=some n:=inK_ok n h.1 h.2
theorem lG {k:Nat} (h:k≤4611686018427387904):inK .i64 ((k:Int)+1)=some ((k+1:Nat):Int):=by
 rw[inK_ok _ (by omega) (by omega)];rfl
theorem qC {α:Type} {l:List α} {k:Nat} {a:α} (h:l[k]?=some a):idx l (k:Int)=some a:=by
 unfold idx;rw[if_pos (by omega)];simpa using h
theorem idx_of {α:Type} {l:List α} {i:Int} {a:α} (h0:0≤i) (h:l[i.toNat]?=some a):idx l i=some a:=by
 unfold idx;rw[if_pos h0,h]
theorem jE {α:Type} {l:List α} {k:Nat} (h:k<l.length):∃a,l[k]?=some a:=⟨_,List.getElem?_eq_getElem h⟩
theorem X4 {α:Type} {l m:List α} (h:l.length+m.length≤4294967296):app l m=some (l++m):=by unfold app;rw[if_pos h]
theorem sub_ok {α:Type} {l:List α} {i j:Int} (h0:0≤i) (h1:i≤j) (h2:j≤l.length):sub l i j=some ((l.take j.toNat).drop i.toNat):=by unfold sub;rw[if_pos ⟨h0,h1,h2⟩]
theorem mkc_ok {α:Type} {n c:Int} {z:α} (h:0≤n∧n≤c∧c≤4294967296):mkc n c z=some (List.replicate n.toNat z):=by unfold mkc;rw[if_pos h]
theorem I64.r {n:Int} (h:(Lit.int .i64 n).wf=true): -9223372036854775808≤n∧n≤9223372036854775807:=by
 simp[Lit.wf,IntKind.min,IntKind.max,IntKind.signed,IntKind.bits] at h
 exact⟨by omega,by omega⟩
theorem U8.r {n:Int} (h:(Lit.int .u8 n).wf=true):0≤n∧n≤255:=by
 simp[Lit.wf,IntKind.min,IntKind.max,IntKind.signed,IntKind.bits] at h
 omega
theorem first_or {α:Type} (p:α→Bool):∀(l:List α),(∃k a,l[k]?=some a∧p a=true∧(∀j b,j<k→l[j]?=some b→p b=false)∧l.any p=true∧l.findIdx p=k)∨((∀a∈l,p a=false)∧l.any p=false∧l.findIdx p=l.length)
 | []=>Or.inr ⟨by simp,rfl,rfl⟩
 |x::l=>by
  cases A:p x with
  |true=>exact Or.inl ⟨0,x,rfl,A,fun j b B=>by omega,by simp[A],by simp[List.findIdx_cons,A]⟩
  |false=>
   rcases first_or p l with⟨k,a,h1,h2,h3,h4,h5⟩|⟨h1,h2,h3⟩
   ·refine Or.inl ⟨k+1,a,by simpa using h1,h2,fun j b B hb=>?_,by simp[A,h4],by simp[List.findIdx_cons,A,h5]⟩
    cases j with
    |zero=>simp at hb;subst hb;exact A
    |succ j=>exact h3 j b (by omega) (by simpa using hb)
   refine Or.inr ⟨fun a ha=>?_,by simp[A,h2],by simp[List.findIdx_cons,A,h3]⟩
   rcases List.mem_cons.1 ha with rfl|ha
   ·exact A
   exact h1 a ha
theorem scan_loop {α β:Type} {body:Int→Option (Step Int β)} (l:List α) (p:α→Bool) (hit:Nat→α→β) (miss:β)
  (h1:∀(k:Nat) a,l[k]?=some a→body k=some (if p a=true then .done (hit k a) else .next ((k+1:Nat):Int))) (h2:body (l.length:Int)=some (.done miss)):
  (∃k a,l[k]?=some a∧p a=true∧(∀j b,j<k→l[j]?=some b→p b=false)∧l.any p=true∧l.findIdx p=k∧fG body 0=some (hit k a))∨((∀a∈l,p a=false)∧l.any p=false∧l.findIdx p=l.length∧fG body 0=some miss):=by
 rcases first_or p l with⟨k,a,a1,a2,a3,a4,a5⟩|⟨a1,a2,a3⟩
 ·refine Or.inl ⟨k,a,a1,a2,a3,a4,a5,yJ (fun j=>(j:Int)) k O (fun j A=>?_) ?_⟩
  ·obtain⟨b,hb⟩:=jE (show j<l.length by have:=(List.getElem?_eq_some_iff.1 a1).1;omega)
   rw[h1 j b hb,a3 j b A hb];rfl
  rw[h1 k a a1,a2];rfl
 refine Or.inr ⟨a1,a2,a3,yJ (fun j=>(j:Int)) l.length O (fun j A=>?_) h2⟩
 obtain⟨b,hb⟩:=jE A
 rw[h1 j b hb,a1 b (List.mem_of_getElem? hb)];rfl
theorem mJ {α:Type} {l:List α} {k:Nat} {a:α} (h:l[k]?=some a):l.take (k+1)=l.take k++[a]:=by
 obtain⟨h1,h2⟩:=List.getElem?_eq_some_iff.1 h
 rw[←h2];exact List.take_succ_eq_append_getElem h1
theorem rising_ext {α:Type} {r:α→α→Prop} (irr:∀a,¬r a a) (tr:∀a b c,r a b→r b c→r a c):∀{l m:List α},l.Pairwise r→m.Pairwise r→(∀x,x∈l↔x∈m)→l=m
 | [],[],_,_,_=>rfl
 | [],b::m,_,_,h=>by have:=(h b).2 (List.mem_cons_self ..);simp at this
 |a::l,[],_,_,h=>by have:=(h a).1 (List.mem_cons_self ..);simp at this
 |a::l,b::m,C,B,h=>by
  obtain⟨l1,l2⟩:=List.pairwise_cons.1 C
  obtain⟨m1,m2⟩:=List.pairwise_cons.1 B
  have e:a=b:=by
   rcases List.mem_cons.1 ((h a).1 (List.mem_cons_self ..)) with e|h1
   ·exact e
   rcases List.mem_cons.1 ((h b).2 (List.mem_cons_self ..)) with e|h2
   ·exact e.symm
   exact absurd (tr _ _ _ (m1 a h1) (l1 b h2)) (irr b)
  subst e
  congr 1
  refine rising_ext irr tr l2 m2 fun x=>?_
  constructor
  ·intro A
   rcases List.mem_cons.1 ((h x).1 (List.mem_cons_of_mem _ A)) with e|h1
   ·subst e;exact absurd (l1 x A) (irr x)
   exact h1
  intro A
  rcases List.mem_cons.1 ((h x).2 (List.mem_cons_of_mem _ A)) with e|h1
  ·subst e;exact absurd (m1 x A) (irr x)
  exact h1
theorem rising_int {l m:List Int} (B:l.Pairwise (· < ·)) (A:m.Pairwise (· < ·)) (h:∀x,x∈l↔x∈m):l=m:=
 rising_ext (r:=fun a b:Int=>a<b) (fun a=>Int.lt_irrefl a) (fun a b c=>Int.lt_trans) B A h
noncomputable def rD (E:(List Opn)) (D:(List Span)) (C:(List Span)) (aS:Int) (aU:Int):Option (Step (Int×Int) Int):=
 if(decide (aU<(E.length:Int)))=true then
  (idx E aU).bind fun A=>
  ((if((decide (A.a<0))||(decide (A.b<0)))=true then
   some true
  else
   (idx D A.a).bind fun K=>
   (idx C A.b).bind fun J=>
   some (!decide (K.kind=J.kind))):Option Bool).bind fun m1=>
  ((if m1=true then
   some true
  else
   (idx D A.a).bind fun I=>
   (idx C A.b).bind fun H=>
   some (!decide (I.text=H.text))):Option Bool).bind fun m2=>
  if m2=true then
   (inK .i64 (aS+1)).bind fun G=>
   (inK .i64 (aU+1)).bind fun F=>
   some (.next (G,F))
  else
   (inK .i64 (aU+1)).bind fun B=>
   some (.next (aS,B))
 else
  some (.done aS)
theorem bsn {α β:Type} (a:α) (f:α→Option β):(some a).bind f=f a:=rfl
mutual
def prN:Node→Nat→Int→List (Node×Int×Nat)
 |⟨a,b,c,d,kids⟩,z,p=>(⟨a,b,c,d,kids⟩,p,z)::prL kids (z+1) z
def prL:List Node→Nat→Int→List (Node×Int×Nat)
 | [],_,_=>[]
 |n::r,z,p=>prN n z p++prL r (z+iH n) p
end
theorem prN_eq (n:Node) (z:Nat) (p:Int):prN n z p=(n,p,z)::prL n.kids (z+1) z:=by obtain⟨a,b,c,d,k⟩:=n;rw[prN]
theorem prL_nil (z:Nat) (p:Int):prL [] z p=[]:=by rw[prL]
theorem aB4 (n:Node) (r:List Node) (z:Nat) (p:Int):prL (n::r) z p=prN n z p++prL r (z+iH n) p:=by rw[prL]
theorem prL_app:∀(A B:List Node) (z:Nat) (p:Int),prL (A++B) z p=prL A z p++prL B (z+pR A) p
 | [],B,z,p=>by rw[prL_nil,pR];rfl
 |n::A,B,z,p=>by rw[List.cons_append,aB4,aB4,prL_app A B,wR,List.append_assoc,Nat.add_assoc]
theorem prL_take {l:List Node} {i:Nat} {n:Node} (h:l[i]?=some n) (z:Nat) (p:Int):prL (l.take (i+1)) z p=prL (l.take i) z p++prN n (z+pR (l.take i)) p:=by
 rw[mJ h,prL_app,aB4,prL_nil,List.append_nil]
theorem node_ind {P:Node→Prop} {Q:List Node→Prop} (h1:∀n,Q n.kids→P n) (h2:Q []) (h3:∀n r,P n→Q r→Q (n::r)):(∀n,P n)∧∀l,Q l:=by
 have hq:∀(m:Nat) (l:List Node),SizeOf.sizeOf l≤m→Q l:=by
  intro m
  induction m with
  |zero=>intro l h;cases l<;>simp at h
  |succ m ih=>
   intro l h
   cases l with
   |nil=>exact h2
   |cons n r=>
    simp only[List.cons.sizeOf_spec] at h
    have hs:SizeOf.sizeOf n.kids<SizeOf.sizeOf n:=by obtain⟨a,b,c,d,kids⟩:=n;simp;omega
    exact h3 n r (h1 n (ih _ (by omega))) (ih r (by omega))
 exact⟨fun n=>h1 n (hq _ _ (Nat.le_refl _)),fun l=>hq _ _ (Nat.le_refl _)⟩
theorem pr_len:(∀n z p,(prN n z p).length=iH n)∧∀l z p,(prL l z p).length=pR l:=by
 refine node_ind (fun n h z p=>?_) (fun z p=>by rw[prL_nil,pR];rfl) (fun n r h1 h2 z p=>?_)
 ·rw[prN_eq,List.length_cons,h,yT];omega
 rw[aB4,List.length_append,h1,h2,wR]
theorem pr_at:(∀n z p (j:Nat) m q k,(prN n z p)[j]?=some (m,q,k)→k=z+j∧k+iH m≤z+iH n∧(q=p∧j=0∧m=n∨(z:Int)≤q∧q<k∧0<j))∧
  ∀l z p (j:Nat) m q k,(prL l z p)[j]?=some (m,q,k)→k=z+j∧k+iH m≤z+pR l∧(q=p∨(z:Int)≤q∧q<k):=by
 refine node_ind (fun n h z p j m q k A=>?_) (fun z p j m q k A=>?_) (fun n r h1 h2 z p j m q k A=>?_)
 ·rw[prN_eq] at A
  have B:=yT n
  cases j with
  |zero=>
   simp only[List.getElem?_cons_zero,Option.some.injEq,Prod.mk.injEq] at A
   obtain⟨rfl,rfl,rfl⟩:=A
   exact⟨O,Nat.le_refl _,Or.inl ⟨O,O,O⟩⟩
  |succ j=>
   rw[List.getElem?_cons_succ] at A
   obtain⟨a1,a2,a3⟩:=h _ _ j m q k A
   refine⟨by omega,by omega,Or.inr ?_⟩
   rcases a3 with e|e<;>omega
 ·rw[prL_nil] at A;simp at A
 rw[aB4] at A
 have B:=wR n r
 have hl:=pr_len.1 n z p
 rcases Nat.lt_or_ge j (prN n z p).length with hh|hh
 ·rw[List.getElem?_append_left hh] at A
  obtain⟨a1,a2,a3⟩:=h1 z p j m q k A
  refine⟨a1,by omega,?_⟩
  rcases a3 with e|e
  ·exact Or.inl e.1
  exact Or.inr ⟨e.1,e.2.1⟩
 rw[List.getElem?_append_right hh] at A
 obtain⟨a1,a2,a3⟩:=h2 _ p _ m q k A
 refine⟨by omega,by omega,?_⟩
 rcases a3 with e|e
 ·exact Or.inl e
 exact Or.inr (by omega)
def nmb (l:List (Node×Int×Nat)):Nmb:=⟨l.map (·.1),l.map fun x=>(iH x.1:Int),l.map (·.2.1)⟩
def spn (x:Node×Int×Nat):Span:=⟨x.1.kind,x.1.text,((x.2.2+iH x.1:Nat):Int),x.2.1⟩
theorem number_r:∀(f:Nat) (n:Node),SizeOf.sizeOf n<f→∀(p:Int) (B:List (Node×Int×Nat)),B.length+iH n≤100000→nN f n p (nmb B)=some (nmb (B++prN n B.length p)):=by
 intro f
 induction f with
 |zero=>intro n h;omega
 |succ f ih=>
  intro n hsz p B hb
  have hc:=yT n
  have hl:=H9 n.kids
  unfold nN qE
  have hN:(nmb B).nodes.length=B.length∧(nmb B).sizes.length=B.length∧(nmb B).parent.length=B.length:=by simp[nmb]
  rw[X4 (by simp only[List.length_singleton];omega),bsn,show Y7 n=some (iH n:Int) by unfold Y7;rw[if_pos (by omega)],bsn,X4 (by simp only[List.length_singleton];omega),bsn,X4 (by simp only[List.length_singleton];omega),bsn]
  let G (i:Nat):Nmb:=nmb (B++((n,p,B.length)::prL (n.kids.take i) (B.length+1) B.length))
  refine bind_loop (fun i=>((i:Int),(G i).nodes,(G i).sizes,(G i).parent)) n.kids.length ((G n.kids.length).nodes,(G n.kids.length).sizes,(G n.kids.length).parent) (by simp[G,nmb,prL_nil]) (fun i hi=>?_) ?_ ?_
  ·obtain⟨x,A⟩:=jE hi
   have e1:=aC2 A
   have e2:=cntL_le n.kids (i+1)
   have e3:=pr_len.2 (n.kids.take i) (B.length+1) B.length
   simp only[nH]
   rw[if_pos (by simp;omega),qC A,bsn,hN.1]
   have:=ih x (by have:=node_sz A;omega) (B.length:Int) (B++((n,p,B.length)::prL (n.kids.take i) (B.length+1) B.length)) (by simp only[List.length_append,List.length_cons];omega)
   rw[show(Nmb.mk (G i).nodes (G i).sizes (G i).parent)=nmb (B++((n,p,B.length)::prL (n.kids.take i) (B.length+1) B.length)) from rfl,this,bsn,lG (by omega),bsn]
   simp only[G]
   rw[prL_take A]
   simp only[List.length_append,List.length_cons,e3]
   rw[show B.length+(pR (n.kids.take i)+1)=B.length+1+pR (n.kids.take i) by omega]
   simp
  ·simp only[nH]
   rw[if_neg (by simp)]
  simp only[G]
  rw[prN_eq,List.take_of_length_le (Nat.le_refl _)]
theorem aF5 (n:Node) (h:iH n≤100000):jL n=some (nmb (prN n 0 (-1))):=by
 unfold jL yK
 have:=number_r (SizeOf.sizeOf n+1) n (by omega) (-1) [] (by simpa using h)
 rw[show(Nmb.mk ([]) ([]) ([]))=nmb [] from rfl,this];rfl
theorem up_loop {β:Type} {body:Int→Option (Step Int β)} (p:Nat→Prop) (hit miss:β) (n:Nat):∀(d i:Nat),i+d=n→
  (∀k:Nat,i≤k→k<n→(p k∧body k=some (.done hit))∨(¬p k∧body k=some (.next ((k+1:Nat):Int))))→body (n:Int)=some (.done miss)→
  ((∃k,i≤k∧k<n∧p k)∧fG body (i:Int)=some hit)∨((∀k,i≤k→k<n→¬p k)∧fG body (i:Int)=some miss)
 |0,i,hd,h1,h2=>by
  subst hd
  exact Or.inr ⟨fun k a b=>by omega,kG h2⟩
 |d+1,i,hd,h1,h2=>by
  rcases h1 i (Nat.le_refl _) (by omega) with⟨a,b⟩|⟨a,b⟩
  ·exact Or.inl ⟨⟨i,Nat.le_refl _,by omega,a⟩,kG b⟩
  rw[vM b]
  rcases up_loop p hit miss n d (i+1) (by omega) (fun k x y=>h1 k (by omega) y) h2 with⟨⟨k,x,y,z⟩,e⟩|⟨x,e⟩
  ·exact Or.inl ⟨⟨k,by omega,y,z⟩,e⟩
  refine Or.inr ⟨fun k u v=>?_,e⟩
  rcases Nat.lt_or_ge i k with w|w
  ·exact x k w v
  rwa [show k=i by omega]
structure OkO (nx ny:Nat) (A:List Opn) (o:Opn):Prop where
 fst:A.length<nx→o.a=A.length
 snd:nx≤A.length→o.a= -1∧0≤o.b∧∀q∈A.drop nx,q.b<o.b
 lo: -1≤o.b
 hi:o.b<ny
 inj:0≤o.b→∀q∈A,q.b≠o.b
def Scr (nx ny:Nat) (l:List Opn):Prop:=∀j o,l[j]?=some o→OkO nx ny (l.take j) o
def PrO (sx sy:Nat→Nat) (q o:Opn):Prop:=0≤q.a→0≤q.b→0≤o.a→0≤o.b→q.b<o.b∧(o.a<q.a+sx q.a.toNat↔o.b<q.b+sy q.b.toNat)
structure Vd (nx ny:Nat) (sx sy:Nat→Nat) (l:List Opn):Prop where
 scr:Scr nx ny l
 len:nx≤l.length
 sur:∀b:Nat,b<ny→∃q∈l,q.b=b
 prs:l.Pairwise (PrO sx sy)
def Mk (ny:Nat) (A:List Opn) (m:List Bool):Prop:=m.length=ny∧∀b:Nat,b<ny→(m[b]?=some true↔∃q∈A,q.b=b)
theorem Mk.nil (ny:Nat):Mk ny [] (List.replicate ny false):=⟨by simp,fun b hb=>by simp[List.getElem?_replicate,hb]⟩
theorem Mk.skip {ny:Nat} {A:List Opn} {m:List Bool} {o:Opn} (h:Mk ny A m) (ho:o.b<0):Mk ny (A++[o]) m:=⟨h.1,fun b hb=>by
 rw[h.2 b hb]
 constructor
 ·rintro⟨q,hq,e⟩;exact⟨q,by simp[hq],e⟩
 rintro⟨q,hq,e⟩
 rcases List.mem_append.1 hq with h|h
 ·exact⟨q,h,e⟩
 rw[List.mem_singleton.1 h] at e;omega⟩
theorem Mk.mark {ny:Nat} {A:List Opn} {m:List Bool} {o:Opn} (h:Mk ny A m) (h0:0≤o.b) (h1:o.b<ny):Mk ny (A++[o]) (m.set o.b.toNat true):=⟨by simp[h.1],fun b hb=>by
 rw[List.getElem?_set]
 by_cases e:o.b.toNat=b
 ·rw[if_pos e,if_pos (by rw[h.1];omega)]
  simp only[true_iff]
  exact⟨o,by simp,by omega⟩
 rw[if_neg e,h.2 b hb]
 constructor
 ·rintro⟨q,hq,e⟩;exact⟨q,by simp[hq],e⟩
 rintro⟨q,hq,e2⟩
 rcases List.mem_append.1 hq with h|h
 ·exact⟨q,h,e2⟩
 rw[List.mem_singleton.1 h] at e2;omega⟩
theorem Mk.get {ny:Nat} {A:List Opn} {m:List Bool} {o:Opn} (h:Mk ny A m) (h0:0≤o.b) (h1:o.b<ny):∃x,idx m o.b=some x∧(x=true↔∃q∈A,q.b=o.b):=by
 obtain⟨x,B⟩:=jE (show o.b.toNat<m.length by rw[h.1];omega)
 have:=h.2 o.b.toNat (by omega)
 rw[B] at this
 refine⟨x,idx_of h0 B,?_⟩
 rw[show((o.b.toNat:Nat):Int)=o.b by omega] at this
 rw[←this];simp
def La (nx:Nat) (A:List Opn) (z:Int):Prop:= -1≤z∧(∀q∈A.drop nx,q.b≤z)∧(z= -1∨∃q∈A.drop nx,q.b=z)
theorem La.iff {nx:Nat} {A:List Opn} {z:Int} (h:La nx A z) (b:Int):z<b↔0≤b∧∀q∈A.drop nx,q.b<b:=by
 obtain⟨h1,h2,h3⟩:=h
 constructor
 ·intro hb;exact⟨by omega,fun q hq=>by have:=h2 q hq;omega⟩
 rintro⟨a,c⟩
 rcases h3 with e|⟨q,hq,e⟩
 ·omega
 have:=c q hq;omega
theorem La.fst {nx:Nat} {A:List Opn} {z:Int} {o:Opn} (h:La nx A z) (hl:A.length<nx):La nx (A++[o]) z:=by
 unfold La at h⊢
 rw[List.drop_eq_nil_of_le (by simp;omega)]
 rw[List.drop_eq_nil_of_le (by omega)] at h
 exact h
theorem La.snd {nx:Nat} {A:List Opn} {z:Int} {o:Opn} (h:La nx A z) (B:nx≤A.length) (hb:z<o.b):La nx (A++[o]) o.b:=by
 obtain⟨h1,h2,h3⟩:=h
 refine⟨by omega,fun q hq=>?_,Or.inr ⟨o,by rw[List.drop_append_of_le_length B];simp,O⟩⟩
 rw[List.drop_append_of_le_length B] at hq
 rcases List.mem_append.1 hq with h|h
 ·have:=h2 q h;omega
 rw[List.mem_singleton.1 h];omega
theorem Scr.take {nx ny:Nat} {l:List Opn} {i:Nat} {o:Opn} (h:∀j q,j<i→l[j]?=some q→OkO nx ny (l.take j) q) (A:l[i]?=some o) (hk:OkO nx ny (l.take i) o):∀j q,j<i+1→l[j]?=some q→OkO nx ny (l.take j) q:=fun j q hj hq=>by
 rcases Nat.lt_or_ge j i with e|e
 ·exact h j q e hq
 obtain rfl:j=i:=by omega
 rw[A] at hq;cases hq;exact hk
theorem vloop (nx ny:Nat) (l:List Opn) (x:Nmb) (C:x.nodes.length=nx) (hnx:nx≤100000) (hl:l.length≤9223372036854775807) (E:∀o∈l,I64 o.a∧I64 o.b):
  ∃r,fG (fun s=>qP l x s.1 s.2.1 s.2.2.1 s.2.2.2) (-1,0,[],List.replicate ny false)=some r∧((r= .ret false∧¬Scr nx ny l)∨∃m,r= .brk (l.filter (fun o=>decide (0≤o.a)&&decide (0≤o.b)),m)∧Scr nx ny l∧Mk ny l m):=by
 refine rP (fun s=>∃i:Nat,s.2.1=(i:Int)∧i≤l.length∧(∀j q,j<i→l[j]?=some q→OkO nx ny (l.take j) q)∧La nx (l.take i) s.1∧s.2.2.1=(l.take i).filter (fun o=>decide (0≤o.a)&&decide (0≤o.b))∧s.2.2.1.length≤nx∧(i≤nx→s.2.2.1.length≤i)∧Mk ny (l.take i) s.2.2.2) (fun s=>l.length-s.2.1.toNat) _ ?_ _ ⟨0,O,Nat.zero_le _,fun j q h=>by omega,⟨by simp,by simp,Or.inl O⟩,by simp,by simp,by simp,by rw[List.take_zero];exact Mk.nil ny⟩
 rintro⟨z,_,ps,m⟩ ⟨i,rfl,hi,h1,h2,h3,h4,h4',h5⟩
 simp only at h2 h3 h4 h4' h5
 by_cases hlt:i<l.length
 ·obtain⟨o,A⟩:=jE hlt
  have hwo:=E o (List.mem_of_getElem? A)
  unfold I64 at hwo
  have hti:(l.take i).length=i:=by rw[List.length_take];omega
  have hnext:inK .i64 ((i:Int)+1)=some ((i+1:Nat):Int):=by rw[jK (by omega)];rfl
  simp only[qP]
  rw[if_pos (by simp;omega),qC A,bsn]
  by_cases D:((i<nx↔0≤o.a)∧(0≤o.a→o.a=i)∧(o.a<0→o.a= -1)∧ -1≤o.b∧o.b<ny∧(o.a<0→z<o.b))
  ·obtain⟨c1,c2,c3,c4,c5,c6⟩:=D
   rw[if_neg (by
    rw[C,h5.1]
    simp only[Bool.or_eq_true,Bool.and_eq_true,Bool.not_eq_true',decide_eq_true_eq,decide_eq_false_iff_not,beq_eq_false_iff_ne,ne_eq,decide_eq_decide]
    omega)]
   have hok:(0≤o.b→∀q∈l.take i,q.b≠o.b)→OkO nx ny (l.take i) o:=fun F=>⟨fun h=>by rw[hti] at h⊢;exact c2 (c1.1 h),fun h=>by
    rw[hti] at h
    have:o.a<0:=by omega
    exact⟨c3 this,(h2.iff o.b).1 (c6 this)⟩,c4,c5,F⟩
   have hz:La nx (l.take (i+1)) (if o.a<0 then o.b else z):=by
    rw[mJ A]
    split
    ·rename_i hh;exact h2.snd (by omega) (c6 hh)
    exact h2.fst (by omega)
   have hj2:((if(decide (o.a<0))=true then some o.b else some z):Option Int)=some (if o.a<0 then o.b else z):=by
    by_cases hh:o.a<0<;>simp[hh]
   rw[hj2,bsn]
   have hfil1:0≤o.a→0≤o.b→ps++[o]=(l.take (i+1)).filter (fun o=>decide (0≤o.a)&&decide (0≤o.b)):=fun a b=>by
    rw[mJ A,List.filter_append,←h3];simp[a,b]
   have hfil0:o.a<0∨o.b<0→ps=(l.take (i+1)).filter (fun o=>decide (0≤o.a)&&decide (0≤o.b)):=fun a=>by
    rw[mJ A,List.filter_append,←h3,List.filter_cons_of_neg (by simp only[Bool.and_eq_true,decide_eq_true_eq];omega)];simp
   by_cases hb:o.b<0
   ·rw[if_pos (by simpa using hb),bsn]
    simp only
    rw[hnext,bsn]
    refine Or.inl ⟨_,O,⟨i+1,O,by omega,Scr.take h1 A (hok fun h=>by omega),hz,hfil0 (Or.inr hb),h4,fun h=>by have:=h4' (by omega);simp only;omega,?_⟩,by simp;omega⟩
    rw[mJ A];exact h5.skip hb
   rw[if_neg (by simpa using hb)]
   obtain⟨y,hy,hyi⟩:=h5.get (o:=o) (by omega) c5
   rw[hy,bsn]
   cases y with
   |true=>
    rw[if_pos rfl,bsn]
    refine Or.inr ⟨_,O,Or.inl ⟨O,fun B=>?_⟩⟩
    obtain⟨q,hq,e⟩:=hyi.1 O
    exact(B i o A).inj (by omega) q hq e
   |false=>
    have hno:∀q∈l.take i,q.b≠o.b:=fun q hq e=>by have:=hyi.2 ⟨q,hq,e⟩;cases this
    rw[if_neg (by simp),bsn]
    by_cases ha:0≤o.a
    ·rw[if_pos (by simpa using ha),X4 (by simp;omega),bsn,bsn]
     simp only
     rw[hnext,bsn]
     refine Or.inl ⟨_,O,⟨i+1,O,by omega,Scr.take h1 A (hok fun _=>hno),hz,hfil1 ha (by omega),?_,fun h=>?_,?_⟩,by simp;omega⟩
     ·have:=h4' (by omega);simp only[List.length_append,List.length_singleton];omega
     ·have:=h4' (by omega);simp only[List.length_append,List.length_singleton];omega
     rw[mJ A];exact h5.mark (by omega) c5
    rw[if_neg (by simpa using ha),bsn]
    simp only
    rw[hnext,bsn]
    refine Or.inl ⟨_,O,⟨i+1,O,by omega,Scr.take h1 A (hok fun _=>hno),hz,hfil0 (Or.inl (by omega)),h4,fun h=>by omega,?_⟩,by simp;omega⟩
    rw[mJ A];exact h5.mark (by omega) c5
  rw[if_pos (by
   rw[C,h5.1]
   simp only[Bool.or_eq_true,Bool.and_eq_true,Bool.not_eq_true',decide_eq_true_eq,decide_eq_false_iff_not,beq_eq_false_iff_ne,ne_eq,decide_eq_decide]
   omega),bsn]
  refine Or.inr ⟨_,O,Or.inl ⟨O,fun B=>D ?_⟩⟩
  have hk:=B i o A
  have k1:=hk.fst
  have k2:=hk.snd
  rw[hti] at k1 k2
  have k3:=hk.lo
  have k4:=hk.hi
  have k5:=h2.iff o.b
  by_cases hin:i<nx
  ·have:=k1 hin
   exact⟨by omega,fun _=>this,by omega,k3,k4,by omega⟩
  obtain⟨e1,e2⟩:=k2 (by omega)
  exact⟨by omega,by omega,fun _=>e1,k3,k4,fun _=>k5.2 e2⟩
 simp only[qP]
 rw[if_neg (by simp;omega)]
 rw[List.take_of_length_le (by omega)] at h3 h5
 exact Or.inr ⟨_,O,Or.inr ⟨m,by rw[h3],fun j q hq=>h1 j q (by have:=(List.getElem?_eq_some_iff.1 hq).1;omega) hq,h5⟩⟩
def szp (P:List (Node×Int×Nat)) (i:Nat):Nat:=match P[i]? with
 |none=>0
 |some x=>iH x.1
theorem szp_le (n:Node) (i:Nat) (h:i<iH n):∃m q,(prN n 0 (-1))[i]?=some (m,q,i)∧szp (prN n 0 (-1)) i=iH m∧i+iH m≤iH n:=by
 obtain⟨⟨m,q,k⟩,A⟩:=jE (l:=prN n 0 (-1)) (k:=i) (by rw[pr_len.1];exact h)
 obtain⟨a1,a2,a3⟩:=pr_at.1 n 0 (-1) i m q k A
 rw[Nat.zero_add] at a1 a2
 subst a1
 exact⟨m,q,A,by unfold szp;rw[A],a2⟩
theorem above_m (n:Node) (hn:iH n≤100000) (i k:Int) (h0:0≤i) (h1:i<iH n):gV (nmb (prN n 0 (-1))) i k=some (decide (i<k∧k<i+szp (prN n 0 (-1)) i.toNat)):=by
 obtain⟨m,q,a1,a2,a3⟩:=szp_le n i.toNat (by omega)
 unfold gV
 by_cases h:i<k
 ·rw[if_pos (by simpa using h),idx_of h0 (a:=(iH m:Int)) (by simp[nmb,a1]),bsn,jK (by omega),bsn,bsn,a2]
  congr 1
  simp[h]
 rw[if_neg (by simpa using h),bsn]
 congr 1
 simp[h]
theorem scr_pw {nx ny:Nat} {l:List Opn} (h:Scr nx ny l):l.Pairwise fun q o=>(0≤q.a→0≤o.a→q.a<o.a)∧(0≤o.b→q.b≠o.b):=by
 rw[List.pairwise_iff_getElem]
 intro i j hi A hij
 have h1:=h i l[i] (List.getElem?_eq_getElem hi)
 have h2:=h j l[j] (List.getElem?_eq_getElem A)
 have t1:(l.take i).length=i:=by rw[List.length_take];omega
 have t2:(l.take j).length=j:=by rw[List.length_take];omega
 refine⟨fun a b=>?_,fun b=>h2.inj b _ (List.mem_take_iff_getElem.2 ⟨i,by omega,O⟩)⟩
 have f1:=h1.fst;have s1:=h1.snd;have f2:=h2.fst;have s2:=h2.snd
 rw[t1] at f1 s1;rw[t2] at f2 s2
 rcases Nat.lt_or_ge i nx with e1|e1
 ·have:=f1 e1
  rcases Nat.lt_or_ge j nx with e2|e2
  ·have:=f2 e2;omega
  have:=(s2 e2).1;omega
 have:=(s1 e1).1;omega
theorem scr_rng {nx ny:Nat} {l:List Opn} (h:Scr nx ny l):∀o∈l,o.a<nx∧o.b<ny:=fun o A=>by
 obtain⟨i,hi,rfl⟩:=List.mem_iff_getElem.1 A
 have h1:=h i l[i] (List.getElem?_eq_getElem hi)
 have t1:(l.take i).length=i:=by rw[List.length_take];omega
 have f1:=h1.fst;have s1:=h1.snd
 rw[t1] at f1 s1
 refine⟨?_,h1.hi⟩
 rcases Nat.lt_or_ge i nx with e1|e1
 ·have:=f1 e1;omega
 have:=(s1 e1).1;omega
def Gd (sx sy:Nat→Nat) (q o:Opn):Prop:=q.b<o.b∧(o.a<q.a+sx q.a.toNat↔o.b<q.b+sy q.b.toNat)
theorem ploop (a b:Node) (ha:iH a≤100000) (hb:iH b≤100000) (ps:List Opn) (m:List Bool) (hl:ps.length≤100000)
  (hr:∀o∈ps,0≤o.a∧o.a<iH a∧0≤o.b∧o.b<iH b) (C:ps.Pairwise fun q o=>q.a<o.a∧q.b≠o.b):
  (¬ps.Pairwise (Gd (szp (prN a 0 (-1))) (szp (prN b 0 (-1))))∧fG (fun s=>lX (nmb (prN a 0 (-1))) (nmb (prN b 0 (-1))) (ps,m) s) 0=some (.ret false))∨
  (ps.Pairwise (Gd (szp (prN a 0 (-1))) (szp (prN b 0 (-1))))∧fG (fun s=>lX (nmb (prN a 0 (-1))) (nmb (prN b 0 (-1))) (ps,m) s) 0=some (.brk ())):=by
 generalize hsx:szp (prN a 0 (-1))=sx
 generalize hsy:szp (prN b 0 (-1))=sy
 have hp':=List.pairwise_iff_getElem.1 C
 have main:=up_loop (body:=fun s=>lX (nmb (prN a 0 (-1))) (nmb (prN b 0 (-1))) (ps,m) s) (fun k=>∃j q o,j<k∧ps[j]?=some q∧ps[k]?=some o∧¬Gd sx sy q o) (.ret false) (.brk ()) ps.length ps.length 0 (by omega) (fun k _ hk=>by
  obtain⟨o,B⟩:=jE hk
  have hro:=hr o (List.mem_of_getElem? B)
  simp only[lX]
  rw[if_pos (by simp;omega),qC B,bsn,sub_ok (by omega) (by omega) (by omega),bsn]
  have hx10:(ps.take (k:Int).toNat).drop (0:Int).toNat=ps.take k:=by simp
  rw[hx10]
  have inner:=up_loop (body:=fun s=>qQ (nmb (prN a 0 (-1))) (nmb (prN b 0 (-1))) o (ps.take k) s) (fun j=>∃q,ps[j]?=some q∧¬Gd sx sy q o) (.ret false) (.brk ()) k k 0 (by omega) (fun j _ A=>by
   obtain⟨q,hq⟩:=jE (show j<ps.length by omega)
   have hrq:=hr q (List.mem_of_getElem? hq)
   obtain⟨hab,hne⟩:q.a<o.a∧q.b≠o.b:=by
    have:=hp' j k (by omega) hk A
    rwa [(List.getElem?_eq_some_iff.1 hq).2,(List.getElem?_eq_some_iff.1 B).2] at this
   have hq':(ps.take k)[j]?=some q:=by rw[List.getElem?_take,if_pos A];exact hq
   simp only[qQ]
   rw[if_pos (by simp;omega),qC hq',bsn,above_m b hb o.b q.b (by omega) (by omega),above_m b hb q.b o.b (by omega) (by omega),above_m a ha q.a o.a (by omega) (by omega),hsx,hsy,bsn]
   have e1:((if(decide (o.b<q.b))=true then some (!decide (o.b<q.b∧q.b<o.b+sy o.b.toNat)) else some false):Option Bool)=some (decide (o.b<q.b∧¬q.b<o.b+sy o.b.toNat)):=by
    by_cases h:o.b<q.b
    ·rw[if_pos (decide_eq_true h)];congr 1
     rw[Bool.eq_iff_iff];simp only[Bool.not_eq_true',decide_eq_false_iff_not,decide_eq_true_eq];omega
    rw[if_neg (by simpa using h),decide_eq_false (by omega)]
   rw[e1,bsn,bsn,bsn]
   have e2:((if(decide (o.b<q.b∧¬q.b<o.b+sy o.b.toNat))=true then some true else some (!((decide (q.a<o.a∧o.a<q.a+sx q.a.toNat))==(decide (q.b<o.b∧o.b<q.b+sy q.b.toNat))))):Option Bool)=some (decide ((o.b<q.b∧¬q.b<o.b+sy o.b.toNat)∨¬((q.a<o.a∧o.a<q.a+sx q.a.toNat)↔(q.b<o.b∧o.b<q.b+sy q.b.toNat)))):=by
    by_cases h:(o.b<q.b∧¬q.b<o.b+sy o.b.toNat)
    ·rw[if_pos (decide_eq_true h),decide_eq_true (Or.inl h)]
    rw[if_neg (by simpa using h)]
    congr 1
    rw[Bool.eq_iff_iff]
    simp only[Bool.not_eq_true',beq_eq_false_iff_ne,ne_eq,decide_eq_decide,decide_eq_true_eq]
    exact⟨Or.inr,fun g=>g.resolve_left h⟩
   rw[e2,bsn,bsn]
   have e3:((if(decide ((o.b<q.b∧¬q.b<o.b+sy o.b.toNat)∨¬((q.a<o.a∧o.a<q.a+sx q.a.toNat)↔(q.b<o.b∧o.b<q.b+sy q.b.toNat))))=true then some true else some (decide (o.b<q.b∧q.b<o.b+sy o.b.toNat))):Option Bool)=some (decide (¬(q.b<o.b∧(o.a<q.a+sx q.a.toNat↔o.b<q.b+sy q.b.toNat)))):=by
    by_cases h:(o.b<q.b∧¬q.b<o.b+sy o.b.toNat)∨¬((q.a<o.a∧o.a<q.a+sx q.a.toNat)↔(q.b<o.b∧o.b<q.b+sy q.b.toNat))
    ·rw[if_pos (decide_eq_true h)]
     exact congrArg some (decide_eq_true (by omega)).symm
    rw[if_neg (by rw[decide_eq_true_eq];exact h)]
    congr 1
    rw[Bool.eq_iff_iff,decide_eq_true_eq,decide_eq_true_eq]
    omega
   rw[e3,bsn]
   by_cases hg:Gd sx sy q o
   ·rw[if_neg (by rw[decide_eq_true_eq];exact fun h=>h hg),jK (by omega),bsn]
    exact Or.inr ⟨fun⟨q',hq2,h⟩=>by rw[hq] at hq2;cases hq2;exact h hg,rfl⟩
   ·rw[if_pos (by rw[decide_eq_true_eq];exact hg)]
    exact Or.inl ⟨⟨q,hq,hg⟩,O⟩) (by
   simp only[qQ]
   rw[if_neg (by simp;omega)])
  rcases inner with⟨⟨j,_,A,q,hq,hg⟩,e⟩|⟨hall,e⟩
  ·refine Or.inl ⟨⟨j,q,o,A,hq,B,hg⟩,?_⟩
   rw[show((0:Nat):Int)=0 from rfl] at e
   rw[e,bsn]
  ·refine Or.inr ⟨fun⟨j,q,o',A,hq,ho',hg⟩=>by rw[B] at ho';cases ho';exact hall j (Nat.zero_le _) A ⟨q,hq,hg⟩,?_⟩
   rw[show((0:Nat):Int)=0 from rfl] at e
   rw[e,bsn]
   simp only
   rw[jK (by omega)];rfl) (by
  simp only[lX]
  rw[if_neg (by simp)])
 have iff:ps.Pairwise (Gd sx sy)↔∀k,0≤k→k<ps.length→¬ ∃j q o,j<k∧ps[j]?=some q∧ps[k]?=some o∧¬Gd sx sy q o:=by
  rw[List.pairwise_iff_getElem]
  constructor
  ·rintro h k _ hk ⟨j,q,o,A,hq,B,hg⟩
   have:=h j k (by omega) hk A
   rw[(List.getElem?_eq_some_iff.1 hq).2,(List.getElem?_eq_some_iff.1 B).2] at this
   exact hg this
  intro h i j hi A hij
  exact Classical.byContradiction fun hg=>h j (Nat.zero_le _) A ⟨i,_,_,hij,List.getElem?_eq_getElem hi,List.getElem?_eq_getElem A,hg⟩
 rcases main with⟨⟨k,h0,hk,h⟩,e⟩|⟨h,e⟩
 ·exact Or.inl ⟨fun hh=>iff.1 hh k h0 hk h,e⟩
 exact Or.inr ⟨iff.2 h,e⟩
theorem contains_m (m:List Bool) (h:m.length≤100000):jO m false=some (decide (false∈m)):=by
 unfold jO nJ
 rcases scan_loop (body:=fun s=>jC m false s) m (fun x=> !x) (fun k _=> .ret (k:Int)) (.brk ()) (fun k x A=>by
  have:=(List.getElem?_eq_some_iff.1 A).1
  simp only[jC]
  rw[if_pos (by simp;omega),qC A,bsn,jK (by omega),bsn]
  cases x<;>rfl) (by
  simp only[jC]
  rw[if_neg (by simp)]) with⟨k,x,A,hp,_,_,_,e⟩|⟨hall,_,_,e⟩
 ·rw[e,bsn,bsn]
  congr 1
  rw[decide_eq_true (by omega),decide_eq_true]
  have:x=false:=by simpa using hp
  exact this▸List.mem_of_getElem? A
 rw[e,bsn,bsn]
 congr 1
 rw[decide_eq_false (by omega),decide_eq_false]
 intro B
 have:=hall false B
 simp at this
theorem Mk.all {ny:Nat} {l:List Opn} {m:List Bool} (h:Mk ny l m):false∉m↔∀b:Nat,b<ny→∃q∈l,q.b=b:=by
 constructor
 ·intro A b hb
  rw[←h.2 b hb]
  obtain⟨x,B⟩:=jE (show b<m.length by rw[h.1];exact hb)
  cases x with
  |true=>exact B
  |false=>exact absurd (List.mem_of_getElem? B) A
 intro hs A
 obtain⟨b,hb,e⟩:=List.mem_iff_getElem.1 A
 have:=(h.2 b (by rw[←h.1];exact hb)).2 (hs b (by rw[←h.1];exact hb))
 rw[List.getElem?_eq_getElem hb,e] at this
 cases this
def Va (a b:Node) (l:List Opn):Prop:=Vd (iH a) (iH b) (szp (prN a 0 (-1))) (szp (prN b 0 (-1))) l
theorem pr_pairs {nx ny:Nat} {sx sy:Nat→Nat} {l:List Opn}:(l.filter (fun o=>decide (0≤o.a)&&decide (0≤o.b))).Pairwise (Gd sx sy)↔l.Pairwise (PrO sx sy):=by
 rw[List.pairwise_filter]
 refine⟨fun h=>h.imp fun{q o} g h1 h2 h3 h4=>g (by simp[h1,h2]) (by simp[h3,h4]),fun h=>h.imp fun{q o} g h1 h2=>?_⟩
 simp only[Bool.and_eq_true,decide_eq_true_eq] at h1 h2
 exact g h1.1 h1.2 h2.1 h2.2
open Classical in
theorem valid_m (a b:Node) (ha:iH a≤100000) (hb:iH b≤100000) (l:List Opn) (E:l.length≤9223372036854775807) (C:∀o∈l,I64 o.a∧I64 o.b):nV a b l=some (decide (Va a b l)):=by
 unfold nV
 have na:(nmb (prN a 0 (-1))).nodes.length=iH a:=by unfold nmb;simp[pr_len.1]
 have nb:(nmb (prN b 0 (-1))).nodes.length=iH b:=by unfold nmb;simp[pr_len.1]
 rw[aF5 a ha,bsn,aF5 b hb,bsn,na,nb]
 by_cases h0:l.length<iH a
 ·rw[if_pos (by simpa using h0),decide_eq_false fun h=>by have:=h.len;omega]
 rw[if_neg (by simpa using h0),mkc_ok (by omega),bsn,Int.toNat_natCast]
 obtain⟨r,hr,D⟩:=vloop (iH a) (iH b) l (nmb (prN a 0 (-1))) na ha E C
 rw[hr,bsn]
 rcases D with⟨rfl,hn⟩|⟨m,rfl,B,hM⟩
 ·simp only
  rw[decide_eq_false fun h=>hn h.scr]
 simp only
 have hrng:=scr_rng B
 have hfl:(l.filter (fun o=>decide (0≤o.a)&&decide (0≤o.b))).length≤100000:=by
  have hpw:(l.filter (fun o=>decide (0≤o.a)&&decide (0≤o.b))).Pairwise fun q o=>q.a<o.a:=by
   rw[List.pairwise_filter]
   exact(scr_pw B).imp fun{q o} g h1 h2=>by
    simp only[Bool.and_eq_true,decide_eq_true_eq] at h1 h2
    exact g.1 h1.1 h2.1
  generalize hF:l.filter (fun o=>decide (0≤o.a)&&decide (0≤o.b))=F at hpw
  have hFr:∀o∈F,0≤o.a∧o.a<iH a:=fun o A=>by
   rw[←hF,List.mem_filter] at A
   simp only[Bool.and_eq_true,decide_eq_true_eq] at A
   exact⟨A.2.1,(hrng o A.1).1⟩
  have key:∀(k:Nat) (o:Opn),F[k]?=some o→(k:Int)≤o.a:=by
   intro k
   induction k with
   |zero=>intro o A;have:=(hFr o (List.mem_of_getElem? A)).1;omega
   |succ k ih=>
    intro o A
    have hk:=(List.getElem?_eq_some_iff.1 A).1
    have h1:=ih F[k] (List.getElem?_eq_getElem (by omega))
    have h2:=List.pairwise_iff_getElem.1 hpw k (k+1) (by omega) hk (by omega)
    rw[(List.getElem?_eq_some_iff.1 A).2] at h2
    omega
  apply Classical.byContradiction
  intro hc
  obtain⟨o,A⟩:=jE (show 100000<F.length by omega)
  have h1:=key _ o A
  have h2:=(hFr o (List.mem_of_getElem? A)).2
  omega
 have hfr:∀o∈l.filter (fun o=>decide (0≤o.a)&&decide (0≤o.b)),0≤o.a∧o.a<iH a∧0≤o.b∧o.b<iH b:=fun o A=>by
  rw[List.mem_filter] at A
  simp only[Bool.and_eq_true,decide_eq_true_eq] at A
  exact⟨A.2.1,(hrng o A.1).1,A.2.2,(hrng o A.1).2⟩
 have hfp:(l.filter (fun o=>decide (0≤o.a)&&decide (0≤o.b))).Pairwise fun q o=>q.a<o.a∧q.b≠o.b:=by
  rw[List.pairwise_filter]
  exact(scr_pw B).imp fun{q o} g h1 h2=>by
   simp only[Bool.and_eq_true,decide_eq_true_eq] at h1 h2
   exact⟨g.1 h1.1 h2.1,g.2 h2.2⟩
 rcases ploop a b ha hb _ m hfl hfr hfp with⟨hn,e⟩|⟨hy,e⟩
 ·rw[e,bsn]
  simp only
  rw[decide_eq_false fun h=>hn (pr_pairs (nx:=iH a) (ny:=iH b).2 h.prs)]
 rw[e,bsn]
 simp only
 rw[contains_m m (by rw[hM.1];exact hb),bsn]
 congr 1
 rw[Bool.eq_iff_iff]
 simp only[Bool.not_eq_true',decide_eq_false_iff_not,decide_eq_true_eq]
 rw[hM.all]
 exact⟨fun h=>⟨B,by omega,h,(pr_pairs (nx:=iH a) (ny:=iH b)).1 hy⟩,fun h=>h.sur⟩
end Go.Proofs.YtopnldfjcciieaaGreat

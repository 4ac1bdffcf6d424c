/- The code goes as its model: assessor/assessorlaw38.AlignChanges. (Printed by wip/sp/gen.py.) -/
import Derived.Test.YtopnldfjcciieaaGreatKChT
import Derived.Test.YtopnldfjcciieaaGreatKCh4
import Derived.Test.YtopnldfjcciieaaGreatKCh5
import Derived.Test.YtopnldfjcciieaaGreatKCh23
import Derived.Test.YtopnldfjcciieaaGreatKCh2
import Derived.Test.YtopnldfjcciieaaGreatKCh3
import Derived.Test.YtopnldfjcciieaaGreatKCh6
set_option linter.unusedVariables false
set_option linter.unusedSimpArgs false
set_option maxRecDepth 100000
set_option maxHeartbeats 4000000
namespace Go.Proofs.YtopnldfjcciieaaGreat
open Go.RowKit
theorem c_assessorlaw38_AlignChanges {Z:World} {ρ:PH} {L:List bP} {w:World} (D:Node) (aI:Value) (bC:aH ρ aI D.kids) (C:Node) (aK:Value) (bQ:aH ρ aK C.kids) (W:(List Opn)) (vp2:Value) (hp2:aH ρ vp2 W) (B:Hp Z ρ (L) w) (r:Bool) (F:mY D C W=some r):
  Calls Tryz.prog 5 #[(.agg #[(Iv D.kind),(.string D.text),(Iv D.at_),(Iv D.fin),aI]),(.agg #[(Iv C.kind),(.string C.text),(Iv C.at_),(Iv C.fin),aK]),vp2] w (Ret fun v w'=>v=(.bool r)∧Hp Z ρ (L) w'):=by
 refine enter (N:=91) Tryz.func5 O O [(0,(.agg #[(Iv D.kind),(.string D.text),(Iv D.at_),(Iv D.fin),aI])),(1,(.agg #[(Iv C.kind),(.string C.text),(Iv C.at_),(Iv C.fin),aK])),(2,vp2)] O (bF ⟨O,O,O,tv⟩) fun a A=>?_
 unfold mY at F
 refine aG (aA ?_)
 refine jD (wk0 O) O O A B O (v:=(.agg #[(Iv D.kind),(.string D.text),(Iv D.at_),(Iv D.fin),aI])) O ?_
 intro a w b1 A B
 have B:=r1 B
 refine jD (wk0 O) O O A B O (v:=(.agg #[(Iv C.kind),(.string C.text),(Iv C.at_),(Iv C.fin),aK])) O ?_
 intro a w b2 A B
 have B:=r2 B
 refine S A 1 O fun a A=>aB (aG ?_)
 refine aG (aA ?_)
 obtain⟨x1,y,F⟩:=bnd F
 refine Cl A O O ent10 (aF3 B x1 y) trivial fun v a w R A=>?_
 obtain⟨rfl,B⟩:=R
 have B:=r2 B
 refine S A 1 O fun a A=>aB ?_
 refine dM A O (fun T=>?_) (fun T=>?_)
 ·replace F:=(it T).symm.trans F
  refine aG (aA ?_)
  refine S A 1 O fun a A=>aB (dI ?_)
  obtain rfl:=oj F
  exact iI A O O ⟨_,O,O,(((B.get 1 O).drop).drop)⟩
 replace F:=(ie T).symm.trans F
 refine bH (aG ?_)
 refine aG (aA ?_)
 refine V A B O (aJ O A O (fun w I=>aY (cs:=[(Iv D.kind),(.string D.text),(Iv D.at_),(Iv D.fin),aI]) dF (Hp.cN 1 O 0 _ (aT O) w I))) fun a A=>V A B O (aJ O A O (fun w I=>aY (cs:=[(Iv C.kind),(.string C.text),(Iv C.at_),(Iv C.fin),aK]) dF (Hp.cN 0 O 0 _ (aT O) w I))) fun a A=>?_
 obtain⟨x2,x,F⟩:=bnd F
 refine Cl A O O ent11 (aJ6 D aI bC C aK bQ 15 B x2 x) ⟨O,O,O,tv⟩ fun v a w R A=>?_
 obtain⟨rfl,B⟩:=R
 have B:=r2 B
 refine S A 1 O fun a A=>aB ?_
 refine dM A O (fun g=>?_) (fun g=>?_)
 ·replace F:=(it g).symm.trans F
  refine aG (aA ?_)
  refine S A 1 O fun a A=>aB (dI ?_)
  obtain rfl:=oj F
  exact iI A O O ⟨_,O,O,(((B.get 1 O).drop).drop)⟩
 replace F:=(ie g).symm.trans F
 refine bH (aG ?_)
 refine aA (V A B O (aJ O A O (fun w I=>aY (cs:=[(Iv D.kind),(.string D.text),(Iv D.at_),(Iv D.fin),aI]) dF (Hp.cN 1 O 0 _ (aT O) w I))) fun a A=>?_)
 refine V A B O (aJ O A O (fun w I=>aY (cs:=[(Iv C.kind),(.string C.text),(Iv C.at_),(Iv C.fin),aK]) dF (Hp.cN 0 O 0 _ (aT O) w I))) fun a A=>?_
 obtain⟨U,u,F⟩:=bnd F
 refine Cl A O O ent21 (aK2 D aI bC C aK bQ B U u) ⟨O,O,tv⟩ fun v a w R A=>?_
 obtain⟨vr3,rfl,B⟩:=R
 have B:=r3 B
 refine S A 5 O fun a A=>aB (aG ?_)
 refine aG (aA ?_)
 refine S A 2 O fun a A=>aB ?_
 refine dM A O (fun f=>?_) (fun f=>?_)
 ·replace F:=(it f).symm.trans F
  refine aG (aA ?_)
  refine S A 1 O fun a A=>aB (dI ?_)
  obtain rfl:=oj F
  exact iI A O O ⟨_,O,O,(((((B.get 2 O).drop).get 1 O).drop).drop)⟩
 replace F:=(ie f).symm.trans F
 refine bH (aG ?_)
 refine aG (aA ?_)
 refine S A 2 O fun a A=>?_
 refine gG (wk0 O) O O A B O [(0,vr3),(1,vp2)] ⟨⟨O,O⟩,⟨O,O⟩,tv⟩ [vr3,vp2] 25 (fun w=>by have Q:=aF.cells B 0 rfl;simp only[Value.cells] at Q;have T:=aH.cells hp2;simp only[Value.cells] at T;simp[Instr.buildSlice,Instr.fill,Value.cells,Q,T,go_sem]) ?_
 intro a w b3 A B
 have B:=r4 B
 obtain⟨k1,k1a,k1d,B⟩:=(B.get 1 O).lend
 have f1:aH (ρ.un k1) vr3 U.1:=aF.ro k1d k1a
 have B:=r3 B
 obtain⟨k2,k2a,k2d,B⟩:=(B.get 0 O).lend
 have f2:aH ((ρ.un k1).un k2) (.slice (some ⟨b3,0,none⟩) 2 2) ([U.1,W]:List (List Opn)):=aH.of_all (l:=(([U.1,W]:List (List Opn)))) k2d k2a ⟨_,_,O,⟨_,O,((aH.mono f1 (PH.le_un _ k2)))⟩,⟨_,_,O,⟨_,O,((aH.mono (aH.mono hp2 (PH.le_un _ k1)) (PH.le_un _ k2)))⟩,O⟩⟩
 have B:Hp Z ((ρ.un k1).un k2) (_::_::L) w:=B
 refine V A B O (dH O A O (aH.len f2 slty48)) fun a A=>S A 1 O fun a A=>aB ?_
 have A:=A.cut (E':=[(3,(Pv b1 0)),(4,(Pv b2 0)),(33,(.slice (some ⟨b3,0,none⟩) 2 2)),(34,(Iv (([U.1,W]:List (List Opn)).length:Int))),(35,(Iv 0))]) ⟨O,O,O,O,O,tv⟩
 obtain⟨b4,k,F⟩:=bnd F
 refine dR (fun a w=>∃s:Unit,b4= .brk s∧(∃(ρ1:PH),((ρ.un k1).un k2).le ρ1∧Env 91 [] a∧Hp Z ρ1 (Pt b2 (.cells #[(Iv C.kind),(.string C.text),(Iv C.at_),(Iv C.fin),aK] 24 (0,0))::Pt b1 (.cells #[(Iv D.kind),(.string D.text),(Iv D.at_),(Iv D.fin),aI] 24 (0,0))::L) w)) ?_ ?_
 ·refine fH k (fun s a w=>∃(ρ1:PH),((ρ.un k1).un k2).le ρ1∧Env 91 [(3,(Pv b1 0)),(4,(Pv b2 0)),(33,(.slice (some ⟨b3,0,none⟩) 2 2)),(34,(Iv (([U.1,W]:List (List Opn)).length:Int))),(35,(Iv s))] a∧Hp Z ρ1 (Pt b2 (.cells #[(Iv C.kind),(.string C.text),(Iv C.at_),(Iv C.fin),aK] 24 (0,0))::Pt b1 (.cells #[(Iv D.kind),(.string D.text),(Iv D.at_),(Iv D.fin),aI] 24 (0,0))::L) w) ?_ ?_
  ·exact⟨((ρ.un k1).un k2),(PH.le.rf _),A.cut ⟨O,O,O,O,O,tv⟩,B⟩
  rintro aQ st a w ⟨ρ1,hlg1,A,B⟩ E
  unfold iL at E
  refine aG (aA ?_)
  refine S A 1 O fun a A=>aB (aG ?_)
  refine dM A O (fun e=>?_) (fun e=>?_)
  ·replace E:=(it e).symm.trans E
   refine bH (aG ?_)
   obtain⟨j1,hj1,E⟩:=bnd E
   refine dR (fun a w=>∃s:Unit,j1= .brk s∧(∃(ρ2:PH),ρ1.le ρ2∧Env 91 [(3,(Pv b1 0)),(4,(Pv b2 0)),(33,(.slice (some ⟨b3,0,none⟩) 2 2)),(34,(Iv (([U.1,W]:List (List Opn)).length:Int))),(35,(Iv aQ))] a∧Hp Z ρ2 (Pt b2 (.cells #[(Iv C.kind),(.string C.text),(Iv C.at_),(Iv C.fin),aK] 24 (0,0))::Pt b1 (.cells #[(Iv D.kind),(.string D.text),(Iv D.at_),(Iv D.fin),aI] 24 (0,0))::L) w)) ?_ ?_
   ·
    refine aG (aA ?_)
    obtain⟨j,t,hj1⟩:=bnd hj1
    obtain⟨b5,b5o,b5c,b5r,b5k,b5f⟩:=aH.at (aH.mono f2 hlg1) slty48 t
    obtain⟨vb5,rfl,h⟩:=b5k
    have b5f:AtP ρ1 b5 b5o [vb5]:=b5f
    refine V A B O (aP O A O O b5r) fun a A=>V A B O (aJ O A O (fun w I=>bI varty25 (b5f.c 0 O w I))) fun a A=>S A 1 O fun a A=>aB (aG ?_)
    refine aA (V A B O (aJ O A O (fun w I=>aY (cs:=[(Iv D.kind),(.string D.text),(Iv D.at_),(Iv D.fin),aI]) dF (Hp.cN 1 O 0 _ (aT O) w I))) fun a A=>?_)
    refine V A B O (aJ O A O (fun w I=>aY (cs:=[(Iv C.kind),(.string C.text),(Iv C.at_),(Iv C.fin),aK]) dF (Hp.cN 0 O 0 _ (aT O) w I))) fun a A=>S A 1 O fun a A=>?_
    obtain⟨Y,q,hj1⟩:=bnd hj1
    refine Cl A O O ent15 (aL1 D aI (aH.mono (aH.mono (aH.mono bC (PH.le_un _ k1)) (PH.le_un _ k2)) hlg1) C aK (aH.mono (aH.mono (aH.mono bQ (PH.le_un _ k1)) (PH.le_un _ k2)) hlg1) j vb5 h B Y q) ⟨O,O,O,tv⟩ fun v a w R A=>?_
    obtain⟨rfl,B⟩:=R
    have B:=r2 B
    refine S A 5 O fun a A=>aB (aG ?_)
    refine aA (V A B O (aJ O A O (fun w I=>aY (cs:=[(Iv D.kind),(.string D.text),(Iv D.at_),(Iv D.fin),aI]) dF (Hp.cN 1 O 0 _ (aT O) w I))) fun a A=>?_)
    refine V A B O (aJ O A O (fun w I=>aY (cs:=[(Iv C.kind),(.string C.text),(Iv C.at_),(Iv C.fin),aK]) dF (Hp.cN 0 O 0 _ (aT O) w I))) fun a A=>S A 1 O fun a A=>?_
    obtain⟨J,p,hj1⟩:=bnd hj1
    refine Cl A O O ent16 (aE9 D aI (aH.mono (aH.mono (aH.mono bC (PH.le_un _ k1)) (PH.le_un _ k2)) hlg1) C aK (aH.mono (aH.mono (aH.mono bQ (PH.le_un _ k1)) (PH.le_un _ k2)) hlg1) j vb5 h B J p) ⟨O,O,O,tv⟩ fun v a w R A=>?_
    obtain⟨vr7,rfl,B⟩:=R
    have B:=r3 B
    refine S A 5 O fun a A=>aB ?_
    have A:=A.cut (E':=[(3,(Pv b1 0)),(4,(Pv b2 0)),(10,vb5),(11,(Iv Y.1)),(12,(Iv Y.2)),(13,vr7),(14,(Iv J.2)),(33,(.slice (some ⟨b3,0,none⟩) 2 2)),(34,(Iv (([U.1,W]:List (List Opn)).length:Int))),(35,(Iv aQ))]) ⟨O,O,O,O,O,O,O,O,O,O,tv⟩
    refine aG (aG ?_)
    refine aA (S A 2 O fun a A=>?_)
    refine aB ?_
    refine dM A O (fun d=>?_) (fun d=>?_)
    ·replace hj1:=(it d).symm.trans hj1
     refine aG (aG ?_)
     refine aA (S A 4 O fun a A=>?_)
     obtain⟨m1,hg1,hj1⟩:=bnd hj1
     refine kQ [_,_,_,_,_] (fun a w=>Env 91 [(63,(.bool m1)),(3,(Pv b1 0)),(4,(Pv b2 0)),(33,(.slice (some ⟨b3,0,none⟩) 2 2)),(34,(Iv (([U.1,W]:List (List Opn)).length:Int))),(35,(Iv aQ))] a∧Hp Z ρ1 (aF 58 vr7 J.1::Pt b2 (.cells #[(Iv C.kind),(.string C.text),(Iv C.at_),(Iv C.fin),aK] 24 (0,0))::Pt b1 (.cells #[(Iv D.kind),(.string D.text),(Iv D.at_),(Iv D.fin),aI] 24 (0,0))::L) w) ?_ ?_
     ·rcases Bool.eq_false_or_eq_true (!decide (J.2=Y.2)) with H|H
      ·
       replace hg1:=(it H).symm.trans hg1
       refine Gk A H O fun a A=>Gk A H O fun a A=>Gk A H O fun a A=>Gk A H O fun a A=>pk1 A H O O O O fun a A=>?_
       obtain rfl:=oj hg1
       exact aB ⟨A.cut ⟨O,O,O,O,O,O,tv⟩,B⟩
      replace hg1:=(ie H).symm.trans hg1
      refine G A B H O (aJ O A O (fun w I=>aY (cs:=[(Iv D.kind),(.string D.text),(Iv D.at_),(Iv D.fin),aI]) dF (Hp.cN 2 O 0 _ (aT O) w I))) fun a A=>G A B H O (aJ O A O (fun w I=>aY (cs:=[(Iv C.kind),(.string C.text),(Iv C.at_),(Iv C.fin),aK]) dF (Hp.cN 1 O 0 _ (aT O) w I))) fun a A=>Gs A H O O fun a A=>?_
      obtain⟨x7,o,hg1⟩:=bnd hg1
      refine Cg A H O O ent17 (G5 D aI (aH.mono (aH.mono (aH.mono bC (PH.le_un _ k1)) (PH.le_un _ k2)) hlg1) C aK (aH.mono (aH.mono (aH.mono bQ (PH.le_un _ k1)) (PH.le_un _ k2)) hlg1) j vb5 h B x7 o) ⟨O,O,O,tv⟩ fun v a w R A=>?_
      obtain⟨rfl,B⟩:=R
      have B:=r3 B
      refine pk0 A H O O O O fun a A=>?_
      obtain rfl:=oj hg1
      exact aB ⟨A.cut ⟨O,O,O,O,O,O,tv⟩,B⟩
     rintro a w ⟨A,B⟩
     refine aB ?_
     refine dM A O (fun b=>?_) (fun b=>?_)
     ·replace hj1:=(it b).symm.trans hj1
      refine aG (aA ?_)
      refine S A 1 O fun a A=>aB (dI ?_)
      obtain rfl:=oj hj1
      refine⟨_,(oj E).symm,fun hb=>?_⟩
      subst hb
      obtain rfl:=oj F
      exact iI A O O ⟨_,O,O,((((((((B.get 2 O).drop).get 1 O).drop).drop).less hlg1).less (PH.le_un _ k2)).less (PH.le_un _ k1))⟩
     replace hj1:=(ie b).symm.trans hj1
     refine bH ?_
     refine eU ?_
     obtain rfl:=oj hj1
     exact⟨_,O,ρ1,(PH.le.rf _),A.cut ⟨O,O,O,O,O,tv⟩,(B.drop)⟩
    replace hj1:=(ie d).symm.trans hj1
    refine bH (aG ?_)
    refine aA (V A B O (aJ O A O (fun w I=>aY (cs:=[(Iv D.kind),(.string D.text),(Iv D.at_),(Iv D.fin),aI]) dF (Hp.cN 2 O 0 _ (aT O) w I))) fun a A=>?_)
    refine gG (wk0 O) O O A B O [(0,(.agg #[(Iv D.kind),(.string D.text),(Iv D.at_),(Iv D.fin),aI]))] ⟨⟨O,O⟩,tv⟩ [(Iv D.kind),(.string D.text),(Iv D.at_),(Iv D.fin),aI] 24 (fun w=>by have Q:=aH.cells (aH.mono (aH.mono (aH.mono bC (PH.le_un _ k1)) (PH.le_un _ k2)) hlg1);simp only[Value.cells] at Q;simp[Instr.buildSlice,Instr.fill,Value.cells,Q,go_sem]) ?_
    intro a w b6 A B
    have B:=r4 B
    refine S A 1 O fun a A=>?_
    obtain⟨k3,k3a,k3d,B⟩:=(B.get 0 O).lend
    have f3:aH (ρ1.un k3) (.slice (some ⟨b6,0,none⟩) 1 1) ([D]:List Node):=aH.of_all (l:=(([D]:List Node))) k3d k3a ⟨_,_,O,(show NodeAt (ρ1.un k3) D [(Iv D.kind),(.string D.text),(Iv D.at_),(Iv D.fin),aI] from NodeAt.shutv ((aH.mono (aH.mono (aH.mono (aH.mono bC (PH.le_un _ k1)) (PH.le_un _ k2)) hlg1) (PH.le_un _ k3)))),O⟩
    have B:=r3 B
    obtain⟨k4,k4a,k4d,B⟩:=(B.get 0 O).lend
    have f4:aH ((ρ1.un k3).un k4) vr7 J.1:=aF.ro k4d k4a
    have B:Hp Z ((ρ1.un k3).un k4) (_::_::L) w:=B
    obtain⟨X,n,hj1⟩:=bnd hj1
    refine Cl A O O ent24 (c_Apply ([D]:List Node) (.slice (some ⟨b6,0,none⟩) 1 1) (aH.mono f3 (PH.le_un _ k4)) J.1 vr7 f4 B X n) ⟨O,O,tv⟩ fun v a w R A=>?_
    obtain⟨ρ3,vr10,M,rfl,hr10,B⟩:=R
    have B:=r2 B
    refine S A 5 O fun a A=>aB (aG ?_)
    refine aA (S A 3 O fun a A=>?_)
    refine kQ [_,_,_] (fun a w=>Env 91 [(76,(.bool ((!decide (J.2=0))||(!decide (X.2=0))))),(3,(Pv b1 0)),(4,(Pv b2 0)),(11,(Iv Y.1)),(13,vr7),(15,vr10),(33,(.slice (some ⟨b3,0,none⟩) 2 2)),(34,(Iv (([U.1,W]:List (List Opn)).length:Int))),(35,(Iv aQ))] a∧Hp Z ρ3 (Pt b2 (.cells #[(Iv C.kind),(.string C.text),(Iv C.at_),(Iv C.fin),aK] 24 (0,0))::Pt b1 (.cells #[(Iv D.kind),(.string D.text),(Iv D.at_),(Iv D.fin),aI] 24 (0,0))::L) w) ?_ ?_
    ·rcases Bool.eq_false_or_eq_true (!decide (J.2=0)) with K|K
     ·
      refine Gk A K O fun a A=>Gk A K O fun a A=>pk1 A K O O O O fun a A=>?_
      have A:=A.eqv (v':=(.bool ((!decide (J.2=0))||(!decide (X.2=0))))) (by rw[K];rfl)
      exact aB ⟨A.cut ⟨O,O,O,O,O,O,O,O,O,tv⟩,B⟩
     refine Gs A K O O fun a A=>Gs A K O O fun a A=>pk0 A K O O O O fun a A=>?_
     have A:=A.eqv (v':=(.bool ((!decide (J.2=0))||(!decide (X.2=0))))) (by rw[K];rfl)
     exact aB ⟨A.cut ⟨O,O,O,O,O,O,O,O,O,tv⟩,B⟩
    rintro a w ⟨A,B⟩
    refine S A 1 O fun a A=>?_
    refine kQ [_,_,_,_,_] (fun a w=>Env 91 [(82,(.bool (((!decide (J.2=0))||(!decide (X.2=0)))||(!decide ((J.1.length:Int)=Y.1))))),(3,(Pv b1 0)),(4,(Pv b2 0)),(15,vr10),(33,(.slice (some ⟨b3,0,none⟩) 2 2)),(34,(Iv (([U.1,W]:List (List Opn)).length:Int))),(35,(Iv aQ))] a∧Hp Z ρ3 (Pt b2 (.cells #[(Iv C.kind),(.string C.text),(Iv C.at_),(Iv C.fin),aK] 24 (0,0))::Pt b1 (.cells #[(Iv D.kind),(.string D.text),(Iv D.at_),(Iv D.fin),aI] 24 (0,0))::L) w) ?_ ?_
    ·rcases Bool.eq_false_or_eq_true ((!decide (J.2=0))||(!decide (X.2=0))) with hc10|hc10
     ·
      refine Gk A hc10 O fun a A=>Gk A hc10 O fun a A=>Gk A hc10 O fun a A=>Gk A hc10 O fun a A=>pk1 A hc10 O O O O fun a A=>?_
      have A:=A.eqv (v':=(.bool (((!decide (J.2=0))||(!decide (X.2=0)))||(!decide ((J.1.length:Int)=Y.1))))) (by rw[hc10];rfl)
      exact aB ⟨A.cut ⟨O,O,O,O,O,O,O,tv⟩,B⟩
     refine Gs A hc10 O O fun a A=>G A B hc10 O (dH O A O (aH.len (aH.mono f4 M) yD)) fun a A=>Gs A hc10 O O fun a A=>Gs A hc10 O O fun a A=>pk0 A hc10 O O O O fun a A=>?_
     have A:=A.eqv (v':=(.bool (((!decide (J.2=0))||(!decide (X.2=0)))||(!decide ((J.1.length:Int)=Y.1))))) (by rw[hc10];rfl)
     exact aB ⟨A.cut ⟨O,O,O,O,O,O,O,tv⟩,B⟩
    rintro a w ⟨A,B⟩
    refine S A 1 O fun a A=>?_
    obtain⟨m2,hg2,hj1⟩:=bnd hj1
    refine kQ [_,_,_,_,_,_] (fun a w=>Env 91 [(89,(.bool m2)),(3,(Pv b1 0)),(4,(Pv b2 0)),(33,(.slice (some ⟨b3,0,none⟩) 2 2)),(34,(Iv (([U.1,W]:List (List Opn)).length:Int))),(35,(Iv aQ))] a∧Hp Z ρ3 (Pt b2 (.cells #[(Iv C.kind),(.string C.text),(Iv C.at_),(Iv C.fin),aK] 24 (0,0))::Pt b1 (.cells #[(Iv D.kind),(.string D.text),(Iv D.at_),(Iv D.fin),aI] 24 (0,0))::L) w) ?_ ?_
    ·rcases Bool.eq_false_or_eq_true (((!decide (J.2=0))||(!decide (X.2=0)))||(!decide ((J.1.length:Int)=Y.1))) with hc11|hc11
     ·
      replace hg2:=(it hc11).symm.trans hg2
      refine Gk A hc11 O fun a A=>Gk A hc11 O fun a A=>Gk A hc11 O fun a A=>Gk A hc11 O fun a A=>Gk A hc11 O fun a A=>pk1 A hc11 O O O O fun a A=>?_
      obtain rfl:=oj hg2
      exact aB ⟨A.cut ⟨O,O,O,O,O,O,tv⟩,B⟩
     replace hg2:=(ie hc11).symm.trans hg2
     refine Gs A hc11 O O fun a A=>G A B hc11 O (aJ O A O (fun w I=>aY (cs:=[(Iv C.kind),(.string C.text),(Iv C.at_),(Iv C.fin),aK]) dF (Hp.cN 0 O 0 _ (aT O) w I))) fun a A=>?_
     refine gG (wk1 A O O O hc11) O O A B O [(0,(.agg #[(Iv C.kind),(.string C.text),(Iv C.at_),(Iv C.fin),aK]))] ⟨⟨O,O⟩,tv⟩ [(Iv C.kind),(.string C.text),(Iv C.at_),(Iv C.fin),aK] 24 (fun w=>by have Q:=aH.cells (aH.mono (aH.mono (aH.mono (aH.mono (aH.mono (aH.mono bQ (PH.le_un _ k1)) (PH.le_un _ k2)) hlg1) (PH.le_un _ k3)) (PH.le_un _ k4)) M);simp only[Value.cells] at Q;simp[Instr.buildSlice,Instr.fill,Value.cells,Q,go_sem]) ?_
     intro a w b7 A B
     have B:=r3 B
     obtain⟨k5,k5a,k5d,B⟩:=(B.get 0 O).lend
     have f5:aH (ρ3.un k5) (.slice (some ⟨b7,0,none⟩) 1 1) ([C]:List Node):=aH.of_all (l:=(([C]:List Node))) k5d k5a ⟨_,_,O,(show NodeAt (ρ3.un k5) C [(Iv C.kind),(.string C.text),(Iv C.at_),(Iv C.fin),aK] from NodeAt.shutv ((aH.mono (aH.mono (aH.mono (aH.mono (aH.mono (aH.mono (aH.mono bQ (PH.le_un _ k1)) (PH.le_un _ k2)) hlg1) (PH.le_un _ k3)) (PH.le_un _ k4)) M) (PH.le_un _ k5)))),O⟩
     have B:=r2 B
     obtain⟨z,m,hg2⟩:=bnd hg2
     refine Cg A hc11 O O ent25 (yE X.1 vr10 (aH.mono hr10 (PH.le_un _ k5)) ([C]:List Node) (.slice (some ⟨b7,0,none⟩) 1 1) f5 B z m) ⟨O,O,tv⟩ fun v a w R A=>?_
     obtain⟨rfl,B⟩:=R
     have B:=r2 B
     refine Gs A hc11 O O fun a A=>pk0 A hc11 O O O O fun a A=>?_
     obtain rfl:=oj hg2
     exact aB ⟨A.cut ⟨O,O,O,O,O,O,tv⟩,(B.less (PH.le_un _ k5))⟩
    rintro a w ⟨A,B⟩
    refine aB ?_
    refine dM A O (fun hc12=>?_) (fun hc12=>?_)
    ·replace hj1:=(it hc12).symm.trans hj1
     refine aG (aA ?_)
     refine S A 1 O fun a A=>aB (dI ?_)
     obtain rfl:=oj hj1
     refine⟨_,(oj E).symm,fun hb=>?_⟩
     subst hb
     obtain rfl:=oj F
     exact iI A O O ⟨_,O,O,(((((((((B.get 1 O).drop).drop).less M).less (PH.le_un _ k4)).less (PH.le_un _ k3)).less hlg1).less (PH.le_un _ k2)).less (PH.le_un _ k1))⟩
    replace hj1:=(ie hc12).symm.trans hj1
    refine bH ?_
    obtain rfl:=oj hj1
    exact⟨_,O,ρ3,(PH.le.tr (PH.le.tr (PH.le_un _ k3) (PH.le_un _ k4)) M),A.cut ⟨O,O,O,O,O,tv⟩,B⟩
   rintro a w ⟨j1s,rfl,ρ2,hlg2,A,B⟩
   dsimp only at E
   refine aA ?_
   obtain⟨x10,i,E⟩:=bnd E
   refine V A B O (bK O A O O (aN i)) fun a A=>S A 1 O fun a A=>aB ?_
   exact⟨_,(oj E).symm,ρ2,(PH.le.tr hlg1 hlg2),A.cut ⟨O,O,O,O,O,tv⟩,B⟩
  replace E:=(ie e).symm.trans E
  refine eU ?_
  refine⟨_,(oj E).symm,fun hbb=>?_⟩
  exact⟨_,hbb.symm,ρ1,hlg1,A.cut trivial,B⟩
 rintro a w ⟨b4s,rfl,ρ1,hlg1,A,B⟩
 dsimp only at F
 refine aG (aA ?_)
 refine S A 1 O fun a A=>aB (dI ?_)
 obtain rfl:=oj F
 exact iI A O O ⟨_,O,O,((((((B.get 1 O).drop).drop).less hlg1).less (PH.le_un _ k2)).less (PH.le_un _ k1))⟩
theorem loop_at {σ β:Type} {body:σ→Option (Step σ β)} {b:β} (S:Nat→σ):∀(n:Nat),(∀k,k<n→body (S k)=some (.next (S (k+1))))→body (S n)=some (.done b)→dZ body (S 0)=some b
 |0,_,h=>kD h
 |n+1,h1,h2=>by
  rw[vG (h1 0 (by omega))]
  exact loop_at (fun k=>S (k+1)) n (fun k hk=>h1 (k+1) (by omega)) h2
theorem yY {σ β:Type} {body:σ→Option (Step σ β)} {b:β} {s:σ} (S:Nat→σ) (n:Nat) (h0:s=S 0) (h1:∀k,k<n→body (S k)=some (.next (S (k+1)))) (h2:body (S n)=some (.done b)):dZ body s=some b:=by
 rw[h0];exact loop_at S n h1 h2
theorem yP {σ β γ:Type} {body:σ→Option (Step σ β)} {s:σ} {f:β→Option γ} {r:Option γ} (S:Nat→σ) (n:Nat) (b:β) (h0:s=S 0) (h1:∀k,k<n→body (S k)=some (.next (S (k+1)))) (h2:body (S n)=some (.done b)) (hf:f b=r):(dZ body s).bind f=r:=by
 rw[yY S n h0 h1 h2];exact hf
theorem dX {n:Int} (h: -9223372036854775808≤n∧n≤9223372036854775807):inK .i64 n=some n:=inK_ok n h.1 h.2
theorem fC {k:Nat} (h:k≤4611686018427387904):inK .i64 ((k:Int)+1)=some ((k+1:Nat):Int):=by
 rw[inK_ok _ (by omega) (by omega)];rfl
theorem aZ {α:Type} {l:List α} {k:Nat} {a:α} (h:l[k]?=some a):idx l (k:Int)=some a:=by
 unfold idx;rw[if_pos (by omega)];simpa using h
theorem yB {α:Type} {l:List α} {i:Int} {a:α} (h0:0≤i) (h:l[i.toNat]?=some a):idx l i=some a:=by
 unfold idx;rw[if_pos h0,h]
theorem dD {α:Type} {l:List α} {k:Nat} (h:k<l.length):∃a,l[k]?=some a:=⟨_,List.getElem?_eq_getElem h⟩
theorem wI {α:Type} {l m:List α} (h:l.length+m.length≤4294967296):app l m=some (l++m):=by unfold app;rw[if_pos h]
theorem sub_ok {α:Type} {l:List α} {i j:Int} (h0:0≤i) (h1:i≤j) (h2:j≤l.length):sub l i j=some ((l.take j.toNat).drop i.toNat):=by unfold sub;rw[if_pos ⟨h0,h1,h2⟩]
theorem mkc_ok {α:Type} {n c:Int} {z:α} (h:0≤n∧n≤c∧c≤4294967296):mkc n c z=some (List.replicate n.toNat z):=by unfold mkc;rw[if_pos h]
theorem I64.r {n:Int} (h:(Lit.int .i64 n).wf=true): -9223372036854775808≤n∧n≤9223372036854775807:=by
 simp[Lit.wf,IntKind.min,IntKind.max,IntKind.signed,IntKind.bits] at h
 exact⟨by omega,by omega⟩
theorem U8.r {n:Int} (h:(Lit.int .u8 n).wf=true):0≤n∧n≤255:=by
 simp[Lit.wf,IntKind.min,IntKind.max,IntKind.signed,IntKind.bits] at h
 omega
theorem first_or {α:Type} (p:α→Bool):∀(l:List α),(∃k a,l[k]?=some a∧p a=true∧(∀j b,j<k→l[j]?=some b→p b=false)∧l.any p=true∧l.findIdx p=k)∨((∀a∈l,p a=false)∧l.any p=false∧l.findIdx p=l.length)
 | []=>Or.inr ⟨by simp,rfl,rfl⟩
 |x::l=>by
  cases A:p x with
  |true=>exact Or.inl ⟨0,x,rfl,A,fun j b B=>by omega,by simp[A],by simp[List.findIdx_cons,A]⟩
  |false=>
   rcases first_or p l with⟨k,a,h1,h2,h3,h4,h5⟩|⟨h1,h2,h3⟩
   ·refine Or.inl ⟨k+1,a,by simpa using h1,h2,fun j b B hb=>?_,by simp[A,h4],by simp[List.findIdx_cons,A,h5]⟩
    cases j with
    |zero=>simp at hb;subst hb;exact A
    |succ j=>exact h3 j b (by omega) (by simpa using hb)
   refine Or.inr ⟨fun a ha=>?_,by simp[A,h2],by simp[List.findIdx_cons,A,h3]⟩
   rcases List.mem_cons.1 ha with rfl|ha
   ·exact A
   exact h1 a ha
theorem scan_loop {α β:Type} {body:Int→Option (Step Int β)} (l:List α) (p:α→Bool) (hit:Nat→α→β) (miss:β)
  (h1:∀(k:Nat) a,l[k]?=some a→body k=some (if p a=true then .done (hit k a) else .next ((k+1:Nat):Int))) (h2:body (l.length:Int)=some (.done miss)):
  (∃k a,l[k]?=some a∧p a=true∧(∀j b,j<k→l[j]?=some b→p b=false)∧l.any p=true∧l.findIdx p=k∧dZ body 0=some (hit k a))∨((∀a∈l,p a=false)∧l.any p=false∧l.findIdx p=l.length∧dZ body 0=some miss):=by
 rcases first_or p l with⟨k,a,a1,a2,a3,a4,a5⟩|⟨a1,a2,a3⟩
 ·refine Or.inl ⟨k,a,a1,a2,a3,a4,a5,yY (fun j=>(j:Int)) k O (fun j A=>?_) ?_⟩
  ·obtain⟨b,hb⟩:=dD (show j<l.length by have:=(List.getElem?_eq_some_iff.1 a1).1;omega)
   rw[h1 j b hb,a3 j b A hb];rfl
  rw[h1 k a a1,a2];rfl
 refine Or.inr ⟨a1,a2,a3,yY (fun j=>(j:Int)) l.length O (fun j A=>?_) h2⟩
 obtain⟨b,hb⟩:=dD A
 rw[h1 j b hb,a1 b (List.mem_of_getElem? hb)];rfl
theorem any_loop {α β:Type} {body:Int→Option (Step Int β)} (l:List α) (p:α→Bool) (hit miss:β)
  (h1:∀(k:Nat) a,l[k]?=some a→body k=some (if p a=true then .done hit else .next ((k+1:Nat):Int))) (h2:body (l.length:Int)=some (.done miss)):dZ body 0=some (if l.any p=true then hit else miss):=by
 rcases scan_loop l p (fun _ _=>hit) miss h1 h2 with⟨k,a,_,_,_,h,_,e⟩|⟨_,h,_,e⟩
 ·rw[e,h];rfl
 rw[e,h];rfl
theorem same_loop {α β:Type} [DecidableEq α] {body:Int→Option (Step Int β)} {a b:List α} (B:a.length=b.length) (hit miss:β)
  (h1:∀(k:Nat) x y,a[k]?=some x→b[k]?=some y→body k=some (if x=y then .next ((k+1:Nat):Int) else .done hit)) (h2:body (a.length:Int)=some (.done miss)):dZ body 0=some (if a=b then miss else hit):=by
 have hzl:(a.zip b).length=a.length:=by rw[List.length_zip];omega
 have hz:(a.zip b).any (fun p=>decide (p.1≠p.2))=decide (a≠b):=by
  clear h1 h2 hzl
  induction a generalizing b with
  |nil=>cases b with
   |nil=>simp
   |cons y b=>simp at B
  |cons x a ih=>cases b with
   |nil=>simp at B
   |cons y b=>
    simp only[List.length_cons,Nat.add_right_cancel_iff] at B
    simp only[List.zip_cons_cons,List.any_cons,ih B,ne_eq,List.cons.injEq]
    by_cases C:x=y<;>by_cases hb:a=b<;>simp[C,hb]
 have:=any_loop (body:=body) (a.zip b) (fun p=>decide (p.1≠p.2)) hit miss (fun k p A=>by
  obtain⟨x,y⟩:=p
  have hk:=(List.getElem?_eq_some_iff.1 A).1
  rw[hzl] at hk
  obtain⟨x',C⟩:=dD hk
  obtain⟨y',hy⟩:=dD (show k<b.length by omega)
  rw[List.getElem?_zip_eq_some] at A
  rw[h1 k x y A.1 A.2]
  by_cases h:x=y<;>simp[h]) (by rw[hzl];exact h2)
 rw[this,hz]
 by_cases h:a=b<;>simp[h]
theorem drop_cons_of {α:Type} {l:List α} {k:Nat} {a:α} (h:l[k]?=some a):l.drop k=a::l.drop (k+1):=by
 obtain⟨h1,h2⟩:=List.getElem?_eq_some_iff.1 h
 rw[←h2];exact List.drop_eq_getElem_cons h1
theorem lL {α:Type} {l:List α} {k:Nat} {a:α} (h:l[k]?=some a):l.take (k+1)=l.take k++[a]:=by
 obtain⟨h1,h2⟩:=List.getElem?_eq_some_iff.1 h
 rw[←h2];exact List.take_succ_eq_append_getElem h1
theorem aE4 {α:Type} {r:α→α→Prop} (irr:∀a,¬r a a) (tr:∀a b c,r a b→r b c→r a c):∀{l m:List α},l.Pairwise r→m.Pairwise r→(∀x,x∈l↔x∈m)→l=m
 | [],[],_,_,_=>rfl
 | [],b::m,_,_,h=>by have:=(h b).2 (List.mem_cons_self ..);simp at this
 |a::l,[],_,_,h=>by have:=(h a).1 (List.mem_cons_self ..);simp at this
 |a::l,b::m,C,B,h=>by
  obtain⟨l1,l2⟩:=List.pairwise_cons.1 C
  obtain⟨m1,m2⟩:=List.pairwise_cons.1 B
  have e:a=b:=by
   rcases List.mem_cons.1 ((h a).1 (List.mem_cons_self ..)) with e|h1
   ·exact e
   rcases List.mem_cons.1 ((h b).2 (List.mem_cons_self ..)) with e|h2
   ·exact e.symm
   exact absurd (tr _ _ _ (m1 a h1) (l1 b h2)) (irr b)
  subst e
  congr 1
  refine aE4 irr tr l2 m2 fun x=>?_
  constructor
  ·intro A
   rcases List.mem_cons.1 ((h x).1 (List.mem_cons_of_mem _ A)) with e|h1
   ·subst e;exact absurd (l1 x A) (irr x)
   exact h1
  intro A
  rcases List.mem_cons.1 ((h x).2 (List.mem_cons_of_mem _ A)) with e|h1
  ·subst e;exact absurd (m1 x A) (irr x)
  exact h1
theorem rising_int {l m:List Int} (B:l.Pairwise (· < ·)) (A:m.Pairwise (· < ·)) (h:∀x,x∈l↔x∈m):l=m:=
 aE4 (r:=fun a b:Int=>a<b) (fun a=>Int.lt_irrefl a) (fun a b c=>Int.lt_trans) B A h
theorem mget_put {κ β:Type} [DecidableEq κ] (l:List (κ×β)) (k x:κ) (v:β):jL (I9 l k v) x=if x=k then some v else jL l x:=by
 induction l with
 |nil=>by_cases h:k=x<;>simp[I9,jL,h,eq_comm]
 |cons p l ih=>
  unfold I9
  by_cases h:p.1=k
  ·rw[if_pos h]
   by_cases A:x=k
   ·subst A;simp[jL]
   have h1:¬k=x:=fun e=>A e.symm
   have h2:¬p.1=x:=fun e=>A (e.symm.trans h)
   simp[jL,List.find?_cons,A,h1,h2]
  rw[if_neg h]
  by_cases A:p.1=x
  ·have h3:¬x=k:=fun e=>h (A.trans e)
   simp[jL,List.find?_cons,A,h3]
  unfold jL at ih⊢
  rw[List.find?_cons_of_neg (by simpa using A),List.find?_cons_of_neg (by simpa using A)]
  exact ih
theorem mput_len2 {κ β:Type} [DecidableEq κ] (l:List (κ×β)) (k:κ) (v:β):(I9 l k v).length≤l.length+1:=by
 have:=congrArg List.length (D9 l k v)
 rw[List.length_map] at this
 rw[this]
 split<;>simp
noncomputable def tV (E:(List Opn)) (D:(List Span)) (C:(List Span)) (aQ:Int) (aW:Int):Option (Step (Int×Int) Int):=
 if(decide (aW<(E.length:Int)))=true then
  (idx E aW).bind fun A=>
  ((if((decide (A.a<0))||(decide (A.b<0)))=true then
   some true
  else
   (idx D A.a).bind fun K=>
   (idx C A.b).bind fun J=>
   some (!decide (K.kind=J.kind))):Option Bool).bind fun m1=>
  ((if m1=true then
   some true
  else
   (idx D A.a).bind fun I=>
   (idx C A.b).bind fun H=>
   some (!decide (I.text=H.text))):Option Bool).bind fun m2=>
  if m2=true then
   (inK .i64 (aQ+1)).bind fun G=>
   (inK .i64 (aW+1)).bind fun F=>
   some (.next (G,F))
  else
   (inK .i64 (aW+1)).bind fun B=>
   some (.next (aQ,B))
 else
  some (.done aQ)
theorem bsn {α β:Type} (a:α) (f:α→Option β):(some a).bind f=f a:=rfl
mutual
def prN:Node→Nat→Int→List (Node×Int×Nat)
 |⟨a,b,c,d,kids⟩,z,p=>(⟨a,b,c,d,kids⟩,p,z)::prL kids (z+1) z
def prL:List Node→Nat→Int→List (Node×Int×Nat)
 | [],_,_=>[]
 |n::r,z,p=>prN n z p++prL r (z+aU n) p
end
theorem rJ (n:Node) (z:Nat) (p:Int):prN n z p=(n,p,z)::prL n.kids (z+1) z:=by obtain⟨a,b,c,d,k⟩:=n;rw[prN]
theorem zS (z:Nat) (p:Int):prL [] z p=[]:=by rw[prL]
theorem pU (n:Node) (r:List Node) (z:Nat) (p:Int):prL (n::r) z p=prN n z p++prL r (z+aU n) p:=by rw[prL]
theorem prL_app:∀(A B:List Node) (z:Nat) (p:Int),prL (A++B) z p=prL A z p++prL B (z+dQ A) p
 | [],B,z,p=>by rw[zS,dQ];rfl
 |n::A,B,z,p=>by rw[List.cons_append,pU,pU,prL_app A B,dW,List.append_assoc,Nat.add_assoc]
theorem prL_take {l:List Node} {i:Nat} {n:Node} (h:l[i]?=some n) (z:Nat) (p:Int):prL (l.take (i+1)) z p=prL (l.take i) z p++prN n (z+dQ (l.take i)) p:=by
 rw[lL h,prL_app,pU,zS,List.append_nil]
theorem qN {P:Node→Prop} {Q:List Node→Prop} (h1:∀n,Q n.kids→P n) (h2:Q []) (h3:∀n r,P n→Q r→Q (n::r)):(∀n,P n)∧∀l,Q l:=by
 have hq:∀(m:Nat) (l:List Node),SizeOf.sizeOf l≤m→Q l:=by
  intro m
  induction m with
  |zero=>intro l h;cases l<;>simp at h
  |succ m ih=>
   intro l h
   cases l with
   |nil=>exact h2
   |cons n r=>
    simp only[List.cons.sizeOf_spec] at h
    have hs:SizeOf.sizeOf n.kids<SizeOf.sizeOf n:=by obtain⟨a,b,c,d,kids⟩:=n;simp;omega
    exact h3 n r (h1 n (ih _ (by omega))) (ih r (by omega))
 exact⟨fun n=>h1 n (hq _ _ (Nat.le_refl _)),fun l=>hq _ _ (Nat.le_refl _)⟩
theorem nD:(∀n z p,(prN n z p).length=aU n)∧∀l z p,(prL l z p).length=dQ l:=by
 refine qN (fun n h z p=>?_) (fun z p=>by rw[zS,dQ];rfl) (fun n r h1 h2 z p=>?_)
 ·rw[rJ,List.length_cons,h,fO];omega
 rw[pU,List.length_append,h1,h2,dW]
theorem aC3:(∀n z p (j:Nat) m q k,(prN n z p)[j]?=some (m,q,k)→k=z+j∧k+aU m≤z+aU n∧(q=p∧j=0∧m=n∨(z:Int)≤q∧q<k∧0<j))∧
  ∀l z p (j:Nat) m q k,(prL l z p)[j]?=some (m,q,k)→k=z+j∧k+aU m≤z+dQ l∧(q=p∨(z:Int)≤q∧q<k):=by
 refine qN (fun n h z p j m q k A=>?_) (fun z p j m q k A=>?_) (fun n r h1 h2 z p j m q k A=>?_)
 ·rw[rJ] at A
  have B:=fO n
  cases j with
  |zero=>
   simp only[List.getElem?_cons_zero,Option.some.injEq,Prod.mk.injEq] at A
   obtain⟨rfl,rfl,rfl⟩:=A
   exact⟨O,Nat.le_refl _,Or.inl ⟨O,O,O⟩⟩
  |succ j=>
   rw[List.getElem?_cons_succ] at A
   obtain⟨a1,a2,a3⟩:=h _ _ j m q k A
   refine⟨by omega,by omega,Or.inr ?_⟩
   rcases a3 with e|e<;>omega
 ·rw[zS] at A;simp at A
 rw[pU] at A
 have B:=dW n r
 have hl:=nD.1 n z p
 rcases Nat.lt_or_ge j (prN n z p).length with hh|hh
 ·rw[List.getElem?_append_left hh] at A
  obtain⟨a1,a2,a3⟩:=h1 z p j m q k A
  refine⟨a1,by omega,?_⟩
  rcases a3 with e|e
  ·exact Or.inl e.1
  exact Or.inr ⟨e.1,e.2.1⟩
 rw[List.getElem?_append_right hh] at A
 obtain⟨a1,a2,a3⟩:=h2 _ p _ m q k A
 refine⟨by omega,by omega,?_⟩
 rcases a3 with e|e
 ·exact Or.inl e
 exact Or.inr (by omega)
def nmb (l:List (Node×Int×Nat)):Nmb:=⟨l.map (·.1),l.map fun x=>(aU x.1:Int),l.map (·.2.1)⟩
def spn (x:Node×Int×Nat):Span:=⟨x.1.kind,x.1.text,((x.2.2+aU x.1:Nat):Int),x.2.1⟩
theorem number_r:∀(f:Nat) (n:Node),SizeOf.sizeOf n<f→∀(p:Int) (B:List (Node×Int×Nat)),B.length+aU n≤100000→pY f n p (nmb B)=some (nmb (B++prN n B.length p)):=by
 intro f
 induction f with
 |zero=>intro n h;omega
 |succ f ih=>
  intro n hsz p B hb
  have hc:=fO n
  have hl:=uA n.kids
  unfold pY rZ
  have hN:(nmb B).nodes.length=B.length∧(nmb B).sizes.length=B.length∧(nmb B).parent.length=B.length:=by simp[nmb]
  rw[wI (by simp only[List.length_singleton];omega),bsn,show aA2 n=some (aU n:Int) by unfold aA2;rw[if_pos (by omega)],bsn,wI (by simp only[List.length_singleton];omega),bsn,wI (by simp only[List.length_singleton];omega),bsn]
  let G (i:Nat):Nmb:=nmb (B++((n,p,B.length)::prL (n.kids.take i) (B.length+1) B.length))
  refine yP (fun i=>((i:Int),(G i).nodes,(G i).sizes,(G i).parent)) n.kids.length ((G n.kids.length).nodes,(G n.kids.length).sizes,(G n.kids.length).parent) (by simp[G,nmb,zS]) (fun i hi=>?_) ?_ ?_
  ·obtain⟨x,A⟩:=dD hi
   have e1:=xQ A
   have e2:=aA1 n.kids (i+1)
   have e3:=nD.2 (n.kids.take i) (B.length+1) B.length
   simp only[pI]
   rw[if_pos (by simp;omega),aZ A,bsn,hN.1]
   have:=ih x (by have:=aI2 A;omega) (B.length:Int) (B++((n,p,B.length)::prL (n.kids.take i) (B.length+1) B.length)) (by simp only[List.length_append,List.length_cons];omega)
   rw[show(Nmb.mk (G i).nodes (G i).sizes (G i).parent)=nmb (B++((n,p,B.length)::prL (n.kids.take i) (B.length+1) B.length)) from rfl,this,bsn,fC (by omega),bsn]
   simp only[G]
   rw[prL_take A]
   simp only[List.length_append,List.length_cons,e3]
   rw[show B.length+(dQ (n.kids.take i)+1)=B.length+1+dQ (n.kids.take i) by omega]
   simp
  ·simp only[pI]
   rw[if_neg (by simp)]
  simp only[G]
  rw[rJ,List.take_of_length_le (Nat.le_refl _)]
theorem J3 (n:Node) (h:aU n≤100000):jO n=some (nmb (prN n 0 (-1))):=by
 unfold jO D8
 have:=number_r (SizeOf.sizeOf n+1) n (by omega) (-1) [] (by simpa using h)
 rw[show(Nmb.mk ([]) ([]) ([]))=nmb [] from rfl,this];rfl
theorem bsm {α β:Type} (a:α) (f:α→Option β):(some a).bind f=f a:=rfl
mutual
def ndN:Node→Nat→Option Node
 |⟨_,_,_,_,kids⟩,k=>ndL kids k
def ndL:List Node→Nat→Option Node
 | [],_=>none
 |n::r,k=>if k=0 then some n else if k<aU n then ndN n (k-1) else ndL r (k-aU n)
end
mutual
def rpN (f:Node→List Node):Node→Nat→Node
 |⟨a,b,c,d,kids⟩,k=>⟨a,b,c,d,rpL f kids k⟩
def rpL (f:Node→List Node):List Node→Nat→List Node
 | [],_=>[]
 |n::r,k=>if k=0 then f n++r else if k<aU n then rpN f n (k-1)::r else n::rpL f r (k-aU n)
end
theorem aG7 (n:Node) (r:List Node) (k:Nat):ndL (n::r) k=if k=0 then some n else if k<aU n then ndL n.kids (k-1) else ndL r (k-aU n):=by
 obtain⟨a,b,c,d,kids⟩:=n
 rw[ndL,ndN]
theorem aH1 (f:Node→List Node) (n:Node) (r:List Node) (k:Nat):rpL f (n::r) k=if k=0 then f n++r else if k<aU n then n.re (rpL f n.kids (k-1))::r else n::rpL f r (k-aU n):=by
 obtain⟨a,b,c,d,kids⟩:=n
 rw[rpL,rpN];rfl
theorem ndL_nil (k:Nat):ndL [] k=none:=by rw[ndL]
theorem rpL_nil (f:Node→List Node) (k:Nat):rpL f [] k=[]:=by rw[rpL]
theorem yG:dQ []=0:=by rw[dQ]
theorem cntN_re (n:Node) (ks:List Node):aU (n.re ks)=1+dQ ks:=fO _
theorem G6 (n:Node):0<aU n:=by have:=fO n;omega
theorem tr_ind {P:List Node→Nat→Prop} (h0:∀k,P [] k) (h1:∀n r,P (n::r) 0) (h2:∀n r k,k<dQ n.kids→P n.kids k→P (n::r) (k+1)) (h3:∀n r k,P r k→P (n::r) (aU n+k)):∀ts k,P ts k:=by
 have go:∀(m:Nat) (ts:List Node) (k:Nat),SizeOf.sizeOf ts≤m→P ts k:=by
  intro m
  induction m with
  |zero=>intro ts k h;cases ts<;>simp at h
  |succ m ih=>
   intro ts k h
   cases ts with
   |nil=>exact h0 k
   |cons n r=>
    simp only[List.cons.sizeOf_spec] at h
    by_cases hk:k=0
    ·subst hk;exact h1 n r
    have hc:=fO n
    by_cases hl:k<aU n
    ·have hs:SizeOf.sizeOf n.kids<SizeOf.sizeOf n:=by obtain⟨a,b,c,d,kids⟩:=n;simp;omega
     have:=h2 n r (k-1) (by omega) (ih n.kids (k-1) (by omega))
     rwa [show k-1+1=k by omega] at this
    have:=h3 n r (k-aU n) (ih r _ (by omega))
    rwa [show aU n+(k-aU n)=k by omega] at this
 exact fun ts k=>go _ ts k (Nat.le_refl _)
theorem nd_in {n:Node} {r:List Node} {k:Nat} (h:k<dQ n.kids):ndL (n::r) (k+1)=ndL n.kids k:=by
 have:=fO n
 rw[aG7,if_neg (by omega),if_pos (by omega),Nat.add_sub_cancel]
theorem nd_on {n:Node} {r:List Node} {k:Nat}:ndL (n::r) (aU n+k)=ndL r k:=by
 have:=G6 n
 rw[aG7,if_neg (by omega),if_neg (by omega),Nat.add_sub_cancel_left]
theorem rp_in {f:Node→List Node} {n:Node} {r:List Node} {k:Nat} (h:k<dQ n.kids):rpL f (n::r) (k+1)=n.re (rpL f n.kids k)::r:=by
 have:=fO n
 rw[aH1,if_neg (by omega),if_pos (by omega),Nat.add_sub_cancel]
theorem rp_on {f:Node→List Node} {n:Node} {r:List Node} {k:Nat}:rpL f (n::r) (aU n+k)=n::rpL f r k:=by
 have:=G6 n
 rw[aH1,if_neg (by omega),if_neg (by omega),Nat.add_sub_cancel_left]
theorem nd_0 (n:Node) (r:List Node):ndL (n::r) 0=some n:=by rw[aG7,if_pos rfl]
theorem rp_0 (f:Node→List Node) (n:Node) (r:List Node):rpL f (n::r) 0=f n++r:=by rw[aH1,if_pos rfl]
theorem nd_none:∀ts k,dQ ts≤k→ndL ts k=none∧∀f,rpL f ts k=ts:=by
 refine tr_ind (fun k h=>⟨ndL_nil k,fun f=>rpL_nil f k⟩) (fun n r h=>?_) (fun n r k hk ih h=>?_) (fun n r k ih h=>?_)
 ·rw[dW] at h;have:=G6 n;omega
 ·rw[dW] at h;have:=fO n;omega
 rw[dW] at h
 obtain⟨h1,h2⟩:=ih (by omega)
 exact⟨by rw[nd_on,h1],fun f=>by rw[rp_on,h2]⟩
theorem nd_le:∀ts k x,ndL ts k=some x→k+aU x≤dQ ts:=by
 refine tr_ind (fun k x h=>?_) (fun n r x h=>?_) (fun n r k hk ih x h=>?_) (fun n r k ih x h=>?_)
 ·rw[ndL_nil] at h;cases h
 ·rw[nd_0] at h;cases h;rw[dW];omega
 ·rw[nd_in hk] at h;have:=ih x h;rw[dW,fO n];omega
 rw[nd_on] at h;have:=ih x h;rw[dW];omega
theorem rp_cnt (f:Node→List Node):∀ts k x,ndL ts k=some x→dQ (rpL f ts k)+aU x=dQ ts+dQ (f x):=by
 refine tr_ind (fun k x h=>?_) (fun n r x h=>?_) (fun n r k hk ih x h=>?_) (fun n r k ih x h=>?_)
 ·rw[ndL_nil] at h;cases h
 ·rw[nd_0] at h;cases h;rw[rp_0,zJ,dW];omega
 ·rw[nd_in hk] at h;have:=ih x h;rw[rp_in hk,dW,dW,cntN_re,fO n];omega
 rw[nd_on] at h;have:=ih x h;rw[rp_on,dW,dW];omega
theorem rp_congr (f g:Node→List Node):∀ts k,(∀x,ndL ts k=some x→f x=g x)→rpL f ts k=rpL g ts k:=by
 refine tr_ind (fun k h=>?_) (fun n r h=>?_) (fun n r k hk ih h=>?_) (fun n r k ih h=>?_)
 ·rw[rpL_nil,rpL_nil]
 ·rw[rp_0,rp_0,h n (nd_0 n r)]
 ·rw[rp_in hk,rp_in hk,ih fun x A=>h x (by rw[nd_in hk];exact A)]
 rw[rp_on,rp_on,ih fun x A=>h x (by rw[nd_on];exact A)]
theorem nd_app:∀(A B:List Node) (k:Nat),ndL (A++B) k=if k<dQ A then ndL A k else ndL B (k-dQ A)
 | [],B,k=>by rw[yG,if_neg (by omega)];rfl
 |n::A,B,k=>by
  rw[List.cons_append,aG7,aG7,dW,nd_app A B]
  have:=G6 n
  by_cases h0:k=0
  ·rw[if_pos h0,if_pos (by omega),if_pos h0]
  rw[if_neg h0,if_neg h0]
  by_cases h1:k<aU n
  ·rw[if_pos h1,if_pos (by omega),if_pos h1]
  rw[if_neg h1,if_neg h1]
  by_cases h2:k<aU n+dQ A
  ·rw[if_pos (by omega),if_pos h2]
  rw[if_neg (by omega),if_neg h2,Nat.sub_sub]
theorem rp_app (f:Node→List Node):∀(A B:List Node) (k:Nat),rpL f (A++B) k=if k<dQ A then rpL f A k++B else A++rpL f B (k-dQ A)
 | [],B,k=>by rw[yG,if_neg (by omega)];rfl
 |n::A,B,k=>by
  rw[List.cons_append,aH1,aH1,dW,rp_app f A B]
  have:=G6 n
  by_cases h0:k=0
  ·rw[if_pos h0,if_pos (by omega),if_pos h0];simp
  rw[if_neg h0,if_neg h0]
  by_cases h1:k<aU n
  ·rw[if_pos h1,if_pos (by omega),if_pos h1];simp
  rw[if_neg h1,if_neg h1]
  by_cases h2:k<aU n+dQ A
  ·rw[if_pos (by omega),if_pos h2];simp
  rw[if_neg (by omega),if_neg h2,Nat.sub_sub];simp
theorem at_rp:∀ts k pre,(k<dQ ts→∃t i p x,atL pre ts k=some (t,i,p)∧t[i]?=some x∧ndL ts k=some x∧∀ys,p (t.take i++ys++t.drop (i+1))=pre++rpL (fun _=>ys) ts k)∧(dQ ts≤k→atL pre ts k=none):=by
 refine tr_ind (fun k pre=>⟨fun h=>?_,fun _=>atL_nil pre k⟩) (fun n r pre=>⟨fun _=>?_,fun h=>?_⟩) (fun n r k hk ih pre=>⟨fun _=>?_,fun h=>?_⟩) (fun n r k ih pre=>⟨fun h=>?_,fun h=>?_⟩)
 ·rw[yG] at h;omega
 ·exact⟨_,_,_,n,by rw[zH,if_pos rfl],by simp,nd_0 n r,fun ys=>by rw[rp_0,id];simp⟩
 ·rw[dW] at h;have:=G6 n;omega
 ·obtain⟨t,i,p,x,h1,h2,h3,h4⟩:=(ih []).1 hk
  have:=fO n
  refine⟨t,i,_,x,by rw[zH,if_neg (by omega),if_pos (by omega),atN_eq,Nat.add_sub_cancel,h1];rfl,h2,by rw[nd_in hk,h3],fun ys=>?_⟩
  simp only
  rw[h4,rp_in hk];simp
 ·rw[dW] at h;have:=fO n;omega
 ·rw[dW] at h
  have:=G6 n
  obtain⟨t,i,p,x,h1,h2,h3,h4⟩:=(ih (pre++[n])).1 (by omega)
  exact⟨t,i,p,x,by rw[zH,if_neg (by omega),if_neg (by omega),Nat.add_sub_cancel_left,h1],h2,by rw[nd_on,h3],fun ys=>by rw[h4,rp_on];simp⟩
 rw[dW] at h
 have:=G6 n
 rw[zH,if_neg (by omega),if_neg (by omega),Nat.add_sub_cancel_left]
 exact(ih _).2 (by omega)
def chF (c:Chg) (n:Node):List Node:=
 if c.op=0 then [⟨c.kind,c.text,n.at_,n.fin,n.kids⟩] else if c.op=1 then n.kids else [n.re ((zG n.kids c).getD n.kids)]
def okN (c:Chg) (n:Node):Bool:=decide (c.op=0)||decide (c.op=1)||(zG n.kids c).isSome
def chg1 (ts:List Node) (c:Chg):Int×List Node:=
 if fieldsB c=true then
  if c.node< -1∨(c.node= -1∧c.op≠2) then(2,ts)
  else if c.node= -1 then(match zG ts c with
   |none=>(2,ts)
   |some ks=>(0,ks))
  else match ndL ts c.node.toNat with
   |none=>(2,ts)
   |some x=>if okN c x=true then(0,rpL (chF c) ts c.node.toNat) else(2,ts)
 else(1,ts)
theorem insK_cnt {l ks:List Node} {c:Chg} (h:zG l c=some ks):dQ ks=dQ l+1:=by
 unfold zG at h
 split at h
 ·cases h
 cases h
 rename_i hn
 rw[zJ,dW,fO]
 simp only
 have h1:dQ l=dQ (l.take c.index.toNat)+(dQ ((l.drop c.index.toNat).take c.count.toNat)+dQ (l.drop (c.index.toNat+c.count.toNat))):=by
  conv=>lhs;rw[←List.take_append_drop c.index.toNat l,zJ,←List.take_append_drop c.count.toNat (l.drop c.index.toNat),zJ,List.drop_drop]
 rw[h1];omega
theorem chF_cnt (c:Chg) (n:Node):dQ (chF c n)≤aU n+1:=by
 have hn:=fO n
 unfold chF
 split
 ·rw[dW,yG,fO];simp only;omega
 split
 ·omega
 rw[dW,yG,cntN_re]
 cases h:zG n.kids c with
 |none=>rw[Option.getD_none];omega
 |some ks=>rw[Option.getD_some,insK_cnt h];omega
theorem take_set {t:List Node} {i:Nat} {x y:Node} (h:t[i]?=some x):t.set i y=t.take i++[y]++t.drop (i+1):=by
 have:=(List.getElem?_eq_some_iff.1 h).1
 rw[List.set_eq_take_append_cons_drop,if_pos this];simp
theorem change1_m (ts:List Node) (c:Chg) (h:dQ ts≤1000000) (C:(Lit.int .i64 c.node).wf=true):nK ts c=some (chg1 ts c):=by
 unfold nK chg1
 have hb:=I64.r C
 by_cases hf:fieldsB c=true
 ·rw[if_pos hf,if_pos hf]
  by_cases h1:c.node< -1∨(c.node= -1∧c.op≠2)
  ·rw[if_pos h1,if_pos h1]
  rw[if_neg h1,if_neg h1]
  have hl:=uA ts
  have h012:c.op=0∨c.op=1∨c.op=2:=by
   unfold fieldsB at hf
   by_cases e0:c.op=0
   ·exact Or.inl e0
   by_cases e1:c.op=1
   ·exact Or.inr (Or.inl e1)
   rw[if_neg e0,if_neg e1] at hf;exact Or.inr (Or.inr (of_decide_eq_true hf))
  by_cases A:c.node= -1
  ·have h2:c.op=2:=Classical.byContradiction fun e=>h1 (Or.inr ⟨A,e⟩)
   rw[if_neg (by omega),if_neg (by omega),if_pos A]
   unfold I8
   rw[if_pos A]
   simp only[bsm]
   rw[if_pos (by omega)]
   cases zG ts c<;>rfl
  rw[if_neg A]
  have hat:m_at ts c.node=some (atL [] ts c.node.toNat):=by
   unfold m_at;rw[if_pos ⟨by omega,by omega,by omega⟩]
  by_cases hk:c.node.toNat<dQ ts
  ·obtain⟨t,i,p,x,a1,a2,a3,a4⟩:=(at_rp ts c.node.toNat []).1 hk
   obtain⟨p1,B⟩:=atL_plug _ ts [] _ (Nat.le_refl _) a1
   rw[a3]
   simp only
   have hx:=nd_le _ _ _ a3
   have hxk:=fO x
   have hkl:=uA x.kids
   simp only[List.length_nil] at B
   have e1:∀ys,chF c x=ys→p (t.take i++ys++t.drop (i+1))=rpL (chF c) ts c.node.toNat:=fun ys hy=>by
    rw[a4,List.nil_append]
    exact rp_congr _ _ _ _ fun z hz=>by rw[a3] at hz;cases hz;exact hy.symm
   rcases h012 with e|e|e
   ·rw[if_pos e,if_pos (by unfold okN;simp[e])]
    unfold Q9
    rw[hat,a1]
    simp only[bsm]
    rw[a2,Option.map_some,take_set a2,e1 _ (by unfold chF;rw[if_pos e])]
   ·rw[if_neg (by omega),if_pos e,if_pos (by unfold okN;simp[e])]
    unfold aC0
    rw[hat,a1]
    simp only[bsm]
    rw[a2,bsm,if_pos (by omega),e1 _ (by unfold chF;rw[if_neg (by omega),if_pos e])]
   rw[if_neg (by omega),if_neg (by omega)]
   unfold I8
   rw[if_neg A,hat,a1]
   simp only[bsm]
   rw[a2,Option.map_some,bsm]
   simp only
   rw[if_pos (by omega)]
   unfold okN
   cases hi:zG x.kids c with
   |none=>rw[if_neg (by simp[e])]
   |some ks=>rw[if_pos (by simp)];simp only;rw[take_set a2,e1 _ (by unfold chF;rw[if_neg (by omega),if_neg (by omega),hi];rfl)]
  rw[(nd_none ts _ (by omega)).1]
  have hno:=(at_rp ts c.node.toNat []).2 (by omega)
  simp only
  rcases h012 with e|e|e
  ·rw[if_pos e];unfold Q9;rw[hat,hno];rfl
  ·rw[if_neg (by omega),if_pos e];unfold aC0;rw[hat,hno];rfl
  rw[if_neg (by omega),if_neg (by omega)];unfold I8;rw[if_neg A,hat,hno];rfl
 rw[if_neg hf,if_neg hf]
theorem chg1_cnt (ts:List Node) (c:Chg):dQ (chg1 ts c).2≤dQ ts+1:=by
 unfold chg1
 split
 ·split
  ·simp
  split
  ·split
   ·simp
   rename_i h;simp only;rw[insK_cnt h];omega
  split
  ·simp
  rename_i x A
  split
  ·have h1:=rp_cnt (chF c) _ _ _ A
   have h2:=chF_cnt c x
   simp only;omega
  simp
 simp
theorem few_r:∀(f:Nat) (n:Node),SizeOf.sizeOf n<f→∀(left:Int),left≤1000→ -1≤left→∃r,kE f n left=some r∧ -1≤r∧r≤1000∧(0≤r→(aU n:Int)+r=left):=by
 intro f
 induction f with
 |zero=>intro n h;omega
 |succ f ih=>
  intro n hsz left hl C
  have hcnt:=fO n
  unfold kE qG
  split
  ·exact⟨-1,O,by omega,by omega,fun h=>by omega⟩
  rename_i D
  have B:1≤left:=by
   apply Classical.byContradiction
   intro hn
   apply D
   rw[Bool.or_eq_true]
   exact Or.inl (decide_eq_true (by omega))
  rw[dX (by omega)]
  simp only[Option.bind_some]
  obtain⟨r,hr,h1,h2,h3⟩:=D7 (body:=fun s=>jP n (kE f) s.1 s.2) (fun s=>∃i:Nat,s.2=(i:Int)∧i≤n.kids.length∧ -1≤s.1∧s.1≤1000∧(0≤s.1→(dQ (n.kids.take i):Int)+s.1=left-1)) (fun s=>n.kids.length-s.2.toNat)
   (fun r=> -1≤r∧r≤1000∧(0≤r→(aU n:Int)+r=left))
   (by
    rintro⟨l,z⟩ ⟨i,e,hi,h1,h2,h3⟩
    simp only at e h1 h2 h3
    subst e
    by_cases hlt:i<n.kids.length∧0≤l
    ·left
     obtain⟨x,A⟩:=dD hlt.1
     obtain⟨r,hr,g1,g2,g3⟩:=ih x (by have:=aI2 A;omega) l h2 h1
     have e1:=xQ A
     have e2:=uA (n.kids.take i)
     rw[List.length_take] at e2
     have e3:=h3 hlt.2
     refine⟨(r,((i+1:Nat):Int)),?_,⟨i+1,O,by omega,g1,g2,fun h=>?_⟩,by simp;omega⟩
     ·simp only[jP]
      rw[if_pos (by simp;omega),aZ A]
      simp only[Option.bind_some]
      rw[hr]
      simp only[Option.bind_some]
      rw[fC (by omega)]
      rfl
     have:=g3 h
     simp only
     rw[e1];omega
    right
    refine⟨l,?_,h1,h2,fun h=>?_⟩
    ·simp only[jP]
     rw[if_neg (by
      rw[Bool.and_eq_true,decide_eq_true_eq,decide_eq_true_eq]
      omega)]
    have h4:=h3 h
    rw[List.take_of_length_le (by omega)] at h4
    omega) (left-1,0) ⟨0,O,Nat.zero_le _,by simp only;omega,by simp only;omega,fun _=>by simp[dQ]⟩
  rw[hr]
  exact⟨r,O,h1,h2,h3⟩
theorem Few_m (n:Node) (k:Int) (h:k≤1000) (h0:0≤k):∃b,oJ n k=some b∧(b=true→(aU n:Int)≤k):=by
 obtain⟨r,hr,h1,h2,h3⟩:=few_r (SizeOf.sizeOf n+1) n (by omega) k h (by omega)
 unfold oJ yC
 rw[hr]
 refine⟨_,O,fun e=>?_⟩
 have:=h3 (by simpa using e)
 have:=of_decide_eq_true e
 omega
mutual
def stN:Node→Node
 |⟨a,b,_,_,kids⟩=>⟨a,b,0,0,stL kids⟩
def stL:List Node→List Node
 | []=>[]
 |n::r=>stN n::stL r
end
theorem E8 (n:Node):stN n=⟨n.kind,n.text,0,0,stL n.kids⟩:=by obtain⟨a,b,c,d,k⟩:=n;rw[stN]
theorem pO:∀l,stL l=l.map stN
 | []=>by rw[stL];rfl
 |n::l=>by rw[stL,pO l];rfl
theorem st_ext (a b:Node):stN a=stN b↔(a.kind=b.kind∧a.text=b.text)∧a.kids.map stN=b.kids.map stN:=by
 rw[E8,E8,pO,pO]
 simp[and_assoc]
theorem Same_r:∀(f:Nat) (a b:Node),SizeOf.sizeOf a<f→aU a≤100000→∃r,jI f a b=some r∧(r=true↔stN a=stN b):=by
 intro f
 induction f with
 |zero=>intro n b h;omega
 |succ f ih=>
  intro a b hsz ha
  have hcnt:=fO a
  have hlen:=uA a.kids
  unfold jI pJ sF
  simp only[Option.bind_some]
  by_cases B:(a.kind=b.kind∧a.text=b.text)∧a.kids.length=b.kids.length
  ·rw[if_neg (by simp[B])]
   obtain⟨o,D,hp⟩:=D7 (body:=fun s=>iJ a b (jI f) s) (fun s=>∃i:Nat,s=(i:Int)∧i≤a.kids.length∧∀(j:Nat) x y,j<i→a.kids[j]?=some x→b.kids[j]?=some y→stN x=stN y) (fun s=>a.kids.length-s.toNat)
    (fun o:Out Unit Bool=>(o= .brk ()∧∀(j:Nat) x y,a.kids[j]?=some x→b.kids[j]?=some y→stN x=stN y)∨(o= .ret false∧∃(j:Nat) (x y:Node),a.kids[j]?=some x∧b.kids[j]?=some y∧stN x≠stN y))
    (by
     rintro s ⟨i,rfl,hi,C⟩
     by_cases hlt:i<a.kids.length
     ·obtain⟨x,A⟩:=dD hlt
      obtain⟨y,hy⟩:=dD (l:=b.kids) (k:=i) (by omega)
      have e1:=xQ A
      have e2:=aA1 a.kids (i+1)
      obtain⟨r,hr,hiff⟩:=ih x y (by have:=aI2 A;omega) (by omega)
      cases r with
      |true=>
       left
       refine⟨((i+1:Nat):Int),?_,⟨i+1,O,by omega,fun j x' y' hj' hx' hy'=>?_⟩,by simp;omega⟩
       ·simp only[iJ]
        rw[if_pos (by simp;omega),aZ A]
        simp only[Option.bind_some]
        rw[aZ hy]
        simp only[Option.bind_some]
        rw[hr]
        simp only[Option.bind_some]
        rw[if_neg (by simp),fC (by omega)]
        rfl
       rcases Nat.lt_or_ge j i with h|h
       ·exact C j x' y' h hx' hy'
       have:j=i:=by omega
       subst this
       rw[A] at hx';rw[hy] at hy'
       rw[←oj hx',←oj hy'];exact hiff.1 rfl
      |false=>
       right
       refine⟨.ret false,?_,Or.inr ⟨O,i,x,y,A,hy,fun e=>by have:=hiff.2 e;cases this⟩⟩
       simp only[iJ]
       rw[if_pos (by simp;omega),aZ A]
       simp only[Option.bind_some]
       rw[aZ hy]
       simp only[Option.bind_some]
       rw[hr]
       simp only[Option.bind_some]
       rw[if_pos (by simp)]
     right
     refine⟨.brk (),?_,Or.inl ⟨O,fun j x y A hy=>C j x y (by have:=(List.getElem?_eq_some_iff.1 A).1;omega) A hy⟩⟩
     simp only[iJ]
     rw[if_neg (by simp;omega)]) 0 ⟨0,rfl,Nat.zero_le _,fun j x y h=>by omega⟩
   rw[D]
   simp only[Option.bind_some]
   rcases hp with⟨rfl,hp⟩|⟨rfl,j,x,y,A,hy,hne⟩
   ·refine⟨true,O,?_⟩
    simp only[true_iff]
    rw[st_ext]
    refine⟨B.1,List.ext_getElem? fun j=>?_⟩
    rw[List.getElem?_map,List.getElem?_map]
    rcases Nat.lt_or_ge j a.kids.length with h|h
    ·obtain⟨x,A⟩:=dD h
     obtain⟨y,hy⟩:=dD (l:=b.kids) (k:=j) (by omega)
     rw[A,hy]
     simp[hp j x y A hy]
    rw[List.getElem?_eq_none h,List.getElem?_eq_none (by omega)]
   refine⟨false,O,?_⟩
   constructor
   ·intro h;cases h
   intro e
   rw[st_ext] at e
   have:=congrArg (fun l=>l[j]?) e.2
   simp only[List.getElem?_map,A,hy,Option.map_some,Option.some.injEq] at this
   exact absurd this hne
  refine⟨false,?_,?_⟩
  ·rw[if_pos]
   rw[Bool.or_eq_true,Bool.not_eq_true',Bool.not_eq_true',Bool.and_eq_false_iff,decide_eq_false_iff_not,decide_eq_false_iff_not,decide_eq_false_iff_not]
   have:= @Classical.not_and_iff_not_or_not
   by_cases h1:a.kind=b.kind
   ·by_cases h2:a.text=b.text
    ·right;intro e;exact B ⟨⟨h1,h2⟩,by omega⟩
    left;right;exact h2
   left;left;exact h1
  constructor
  ·intro h;cases h
  intro e
  rw[st_ext] at e
  have h2:=congrArg List.length e.2
  rw[List.length_map,List.length_map] at h2
  exact absurd ⟨e.1,h2⟩ B
open Classical in
theorem Same_m (a b:Node) (h:aU a≤100000):sS a b=some (decide (stN a=stN b)):=by
 obtain⟨r,hr,h2⟩:=Same_r (SizeOf.sizeOf a+1) a b (by omega) h
 unfold sS
 rw[hr]
 congr 1
 cases r with
 |true=>exact(decide_eq_true (h2.1 rfl)).symm
 |false=>exact(decide_eq_false fun e=>by have:=h2.2 e;cases this).symm
open Classical in
theorem SameList_m (a b:List Node) (h:dQ a≤100000):jW a b=some (decide (stL a=stL b)):=by
 have hl:=uA a
 unfold jW
 rw[pO,pO]
 by_cases he:a.length=b.length
 ·rw[if_neg (by simp;omega)]
  have:=same_loop (body:=fun s=>jQ a b s) (a:=a.map stN) (b:=b.map stN) (by simp[he]) (.ret false) (.brk ()) (fun k x y A hy=>by
   obtain⟨x,hx',rfl⟩:=List.getElem?_map ..▸A |> Option.map_eq_some_iff.1
   obtain⟨y,hy',rfl⟩:=List.getElem?_map ..▸hy |> Option.map_eq_some_iff.1
   have hk:=(List.getElem?_eq_some_iff.1 hx').1
   have e1:=xQ hx'
   have e2:=aA1 a (k+1)
   simp only[jQ]
   rw[if_pos (by simp;omega),aZ hx']
   simp only[Option.bind_some]
   rw[aZ hy']
   simp only[Option.bind_some]
   rw[Same_m x y (by omega)]
   simp only[Option.bind_some]
   rw[fC (by omega)]
   by_cases hxy:stN x=stN y<;>simp[hxy]) (by
   simp only[jQ]
   rw[if_neg (by simp)])
  rw[this]
  by_cases hab:a.map stN=b.map stN<;>simp[hab]
 rw[if_pos (by simp;omega),decide_eq_false fun e=>he (by simpa using congrArg List.length e)]
theorem few_m (a b:Node) (k:Int) (h:k≤1000) (h0:0≤k):∃r,rF a b k=some r∧(r=true→(aU a:Int)≤k∧(aU b:Int)≤k):=by
 obtain⟨x,A,h1⟩:=Few_m a k h h0
 obtain⟨y,hy,h2⟩:=Few_m b k h h0
 unfold rF
 rw[A,hy]
 simp only[Option.bind_some]
 cases x with
 |true=>exact⟨y,by simp,fun e=>⟨h1 rfl,h2 e⟩⟩
 |false=>exact⟨false,by simp,fun e=>by cases e⟩
end Go.Proofs.YtopnldfjcciieaaGreat

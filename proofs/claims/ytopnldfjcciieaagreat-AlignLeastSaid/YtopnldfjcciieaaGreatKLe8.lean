/- The code goes as its model: slices.Index[[]bool,bool], slices.Contains[[]bool,bool], assessor/align.Valid, assessor/align.Cost. (Printed by wip/sp/gen.py.) -/
import Derived.Test.YtopnldfjcciieaaGreatKLeT
import Derived.Test.YtopnldfjcciieaaGreatKLe3
import Derived.Test.YtopnldfjcciieaaGreatKLe5
import Derived.Test.YtopnldfjcciieaaGreatKLe7
set_option linter.unusedVariables false
set_option linter.unusedSimpArgs false
set_option maxRecDepth 100000
set_option maxHeartbeats 4000000
namespace Go.Proofs.YtopnldfjcciieaaGreat
open Go.RowKit
theorem aD2 {Z:World} {ρ:PH} {L:List bQ} {w:World} (I:(List Bool)) (vp0:Value) (hp0:aH ρ vp0 I) (D:Bool) (C:Hp Z ρ (L) w) (r:Int) (G:qQ I D=some r):
  Calls Tryz.prog 66 #[vp0,(.bool D)] w (Ret fun v w'=>v=(Iv r)∧Hp Z ρ (L) w'):=by
 refine enter (N:=19) Tryz.func66 O O [(0,vp0),(1,(.bool D))] O (bH ⟨O,O,tv⟩) fun a A=>?_
 unfold qQ at G
 refine aG (aA ?_)
 refine S A 1 O fun a A=>aB (aG ?_)
 refine aG (aA ?_)
 refine S A 1 O fun a A=>V A C O (bW O A O (aH.len hp0 yY)) fun a A=>S A 1 O fun a A=>aB ?_
 obtain⟨b1,J,G⟩:=bnd G
 refine dM (fun a w=>∃s:Unit,b1= .brk s∧(Env 19 [] a∧Hp Z ρ (L) w)) ?_ ?_
 ·refine eQ J (fun s a w=>Env 19 [(0,vp0),(1,(.bool D)),(7,(Iv (I.length:Int))),(8,(Iv s))] a∧Hp Z ρ (L) w) ?_ ?_
  ·exact⟨A.cut ⟨O,O,O,O,tv⟩,C⟩
  rintro aQ st a w ⟨A,C⟩ B
  unfold jP at B
  refine aG (aA ?_)
  refine S A 1 O fun a A=>aB (aG ?_)
  refine dK A O (fun F=>?_) (fun F=>?_)
  ·replace B:=(it F).symm.trans B
   refine bI (aG ?_)
   refine dN (aG ?_)
   refine aA (S A 2 O fun a A=>?_)
   refine aB (aG ?_)
   refine aA (S A 3 O fun a A=>?_)
   obtain⟨H,M,B⟩:=bnd B
   obtain⟨b2,b2o,b2c,b2r,b2k,b2f⟩:=aH.at hp0 yY M
   obtain rfl:b2c=Enc.enc H:=b2k
   have b2f:AtP ρ b2 b2o [(.bool H)]:=b2f
   refine V A C O (aO O A O O b2r) fun a A=>V A C O (aK O A O (fun w Q=>aZ N8 (b2f.c 0 O w Q))) fun a A=>V A C O (v:=(.bool (D==H))) (ex_beql bty4 O A O O) fun a A=>aB ?_
   have A:=A.cut (E':=[(0,vp0),(1,(.bool D)),(5,(Iv aQ)),(7,(Iv (I.length:Int))),(8,(Iv aQ)),(16,(.bool (D==H)))]) ⟨O,O,O,O,O,O,tv⟩
   refine dK A O (fun E=>?_) (fun E=>?_)
   ·replace B:=(it E).symm.trans B
    refine aG (aA ?_)
    refine S A 2 O fun a A=>aB (cZ ?_)
    refine⟨_,(oj B).symm,fun hb=>?_⟩
    subst hb
    obtain rfl:=oj G
    exact gY A O O ⟨_,O,O,C⟩
   replace B:=(ie E).symm.trans B
   refine bI (aA ?_)
   obtain⟨x2,K,B⟩:=bnd B
   refine V A C O (bF O A O O (aN K)) fun a A=>S A 1 O fun a A=>aB ?_
   exact⟨_,(oj B).symm,A.cut ⟨O,O,O,O,tv⟩,C⟩
  replace B:=(ie F).symm.trans B
  refine dZ ?_
  refine⟨_,(oj B).symm,fun hbb=>?_⟩
  exact⟨_,hbb.symm,A.cut trivial,C⟩
 rintro a w ⟨b1s,rfl,A,C⟩
 dsimp only at G
 refine aG (aA ?_)
 refine S A 1 O fun a A=>aB (cZ ?_)
 obtain rfl:=oj G
 exact gY A O O ⟨_,O,O,C⟩
theorem V3 {Z:World} {ρ:PH} {L:List bQ} {w:World} (E:(List Bool)) (vp0:Value) (hp0:aH ρ vp0 E) (C:Bool) (B:Hp Z ρ (L) w) (r:Bool) (D:kF E C=some r):
  Calls Tryz.prog 46 #[vp0,(.bool C)] w (Ret fun v w'=>v=(.bool r)∧Hp Z ρ (L) w'):=by
 refine enter (N:=9) Tryz.func46 O O [(0,vp0),(1,(.bool C))] O (bH ⟨O,O,tv⟩) fun a A=>?_
 unfold kF at D
 refine aG (aA ?_)
 refine S A 1 O fun a A=>aB (aG ?_)
 refine aA (S A 2 O fun a A=>?_)
 obtain⟨G,F,D⟩:=bnd D
 refine Cl A O O ent66 (aD2 E vp0 hp0 C B G F) ⟨O,O,tv⟩ fun v a w H A=>?_
 obtain⟨rfl,B⟩:=H
 have B:=r0 B
 refine S A 2 O fun a A=>aB (cZ ?_)
 obtain rfl:=oj D
 exact gY A O O ⟨_,O,O,B⟩
theorem aE0 {Z:World} {ρ:PH} {L:List bQ} {w:World} (I:Node) (aI:Value) (aY:aH ρ aI I.kids) (H:Node) (aJ:Value) (bG:aH ρ aJ H.kids) (p2:(List Opn)) (vp2:Value) (hp2:aH ρ vp2 p2) (B:Hp Z ρ (L) w) (r:Bool) (hm:uZ I H p2=some r):
  Calls Tryz.prog 17 #[(.agg #[(Iv I.kind),(.string I.text),(Iv I.at_),(Iv I.fin),aI]),(.agg #[(Iv H.kind),(.string H.text),(Iv H.at_),(Iv H.fin),aJ]),vp2] w (Ret fun v w'=>v=(.bool r)∧Hp Z ρ (L) w'):=by
 refine enter (N:=174) Tryz.func17 O O [(0,(.agg #[(Iv I.kind),(.string I.text),(Iv I.at_),(Iv I.fin),aI])),(1,(.agg #[(Iv H.kind),(.string H.text),(Iv H.at_),(Iv H.fin),aJ])),(2,vp2)] O (bH ⟨O,O,O,tv⟩) fun a A=>?_
 unfold uZ at hm
 refine aG (aA ?_)
 refine iH (wk0 O) O O A B O (v:=(.agg #[(Iv I.kind),(.string I.text),(Iv I.at_),(Iv I.fin),aI])) O ?_
 intro a w b1 A B
 have B:=r1 B
 refine iH (wk0 O) O O A B O (v:=(.agg #[(Iv H.kind),(.string H.text),(Iv H.at_),(Iv H.fin),aJ])) O ?_
 intro a w b2 A B
 have B:=r2 B
 refine S A 1 O fun a A=>aB (aG ?_)
 obtain⟨m,ex1,hm⟩:=bnd hm
 obtain⟨x2,ex2,hm⟩:=bnd hm
 have B:=B.drew
 refine gK ([([],At0 Z ρ),([],At1 Z ρ (Pt b2 (.cells #[(Iv H.kind),(.string H.text),(Iv H.at_),(Iv H.fin),aJ] 24 (0,0)))),([],At1 Z ρ (Pt b1 (.cells #[(Iv I.kind),(.string I.text),(Iv I.at_),(Iv I.fin),aI] 24 (0,0))))]:Facts) (fun a w=>∃ρy1:PH,∃y4:Nat,∃y3:Nat,∃yv1:Value,∃yv2:Value,∃yv3:Value,∃yv4:Value,∃yv5:Value,∃yv6:Value,ρ.le ρy1∧aH ρy1 yv1 x2.nodes∧aH ρy1 yv2 x2.sizes∧aH ρy1 yv3 x2.parent∧aH ρy1 yv4 m.nodes∧aH ρy1 yv5 m.sizes∧aH ρy1 yv6 m.parent∧Env 174 [(2,vp2),(7,(Pv y3 0)),(8,(Pv y4 0))] a∧Hp Z ρy1 (Pt y4 (.cells #[yv1,yv2,yv3] 75 (0,0))::Pt y3 (.cells #[yv4,yv5,yv6] 75 (0,0))::Pt b2 (.cells #[(Iv H.kind),(.string H.text),(Iv H.at_),(Iv H.fin),aJ] 24 (0,0))::Pt b1 (.cells #[(Iv I.kind),(.string I.text),(Iv I.at_),(Iv I.fin),aI] 24 (0,0))::L) w) kr ⟨fun _=>⟨_,B⟩,fun _=>⟨_,(B.get 0 O)⟩,fun _=>⟨_,(B.get 1 O)⟩,tv⟩ (fun X=>?_) ?_
 ·
  generalize w.drew=w at X B⊢
  refine T 0 2 A X O O O kr (fun _=>aK O A O (fun w x=>aX (cs:=[(Iv I.kind),(.string I.text),(Iv I.at_),(Iv I.fin),aI]) cO (Hp.cN 0 O 0 _ (aS O) w x))) fun a A X=>T 2 1 A X O O O kr (fun _=>aK O A O (fun w x=>aX (cs:=[(Iv H.kind),(.string H.text),(Iv H.at_),(Iv H.fin),aJ]) cO (Hp.cN 0 O 0 _ (aS O) w x))) fun a A X=>?_
  refine fQ [1,4,5] kr O ?_
  refine uE.2 ⟨?_,uE.2 ⟨?_,uE.2 ⟨?_,fun _ h=>absurd h (by simp)⟩⟩⟩
  ·
   refine dV O ?_
   refine Cl A O O kL (bJ I aI aY B m ex1) ⟨O,tv⟩ fun v a w p A=>?_
   obtain⟨ρ3,Y6,Y7,O3,C,rfl,uH,uI,sK,B⟩:=p
   have B:=r2 B
   refine aB (aF ⟨fun _=>⟨_,(B.less C)⟩,fun _=>⟨_,((B.get 0 O).less C)⟩,fun _=>⟨_,((B.get 1 O).less C)⟩,tv⟩ fun X=>?_)
   refine fQ [3,4,5] kr O ?_
   refine uE.2 ⟨?_,uE.2 ⟨?_,uE.2 ⟨?_,fun _ h=>absurd h (by simp)⟩⟩⟩
   ·
    refine dV O ?_
    refine Cl A O O kL (bJ H aJ (aH.mono bG C) B x2 ex2) ⟨O,tv⟩ fun v a w p A=>?_
    obtain⟨ρ4,qE,qF,nI,F,rfl,gZ,iC,fJ,B⟩:=p
    have B:=r2 B
    refine aB (aF ⟨fun _=>⟨_,((B.less F).less C)⟩,fun _=>⟨_,(((B.get 0 O).less F).less C)⟩,fun _=>⟨_,(((B.get 1 O).less F).less C)⟩,tv⟩ fun X=>?_)
    refine fQ [4,5] kr O ?_
    refine uE.2 ⟨?_,uE.2 ⟨?_,fun _ h=>absurd h (by simp)⟩⟩
    ·
     refine dV O ?_
     refine dF (wk0 O) O O A B O [N0,N0,N0] (fun w=>by simp[Instr.alloc,go_sem]<;>rfl) ?_
     intro a w b5 A B
     have B:=r3 B
     refine aB (aF ⟨fun _=>⟨_,((B.less F).less C)⟩,fun _=>⟨_,(((B.get 1 O).less F).less C)⟩,fun _=>⟨_,(((B.get 2 O).less F).less C)⟩,tv⟩ fun X=>?_)
     refine W1 5 kr O ?_
     refine dF (wk0 O) O O A B O [N0,N0,N0] (fun w=>by simp[Instr.alloc,go_sem]<;>rfl) ?_
     intro a w b6 A B
     have B:=r4 B
     refine aB (aF ⟨fun _=>⟨_,((B.less F).less C)⟩,fun _=>⟨_,(((B.get 2 O).less F).less C)⟩,fun _=>⟨_,(((B.get 3 O).less F).less C)⟩,tv⟩ fun X=>?_)
     refine W1 6 kr O ?_
     refine aV (wk0 O) O A B O O O 1 O dG.size_ O (aP ⟨(aH.one (aH.mono uH F)),(aH.one (aH.mono uI F)),(aH.one (aH.mono sK F)),tv⟩) [Y6,Y7,O3] O ?_
     intro w B
     have B:=r4 B
     refine aB (aF ⟨fun _=>⟨_,((B.less F).less C)⟩,fun _=>⟨_,(((B.get 2 O).less F).less C)⟩,fun _=>⟨_,(((B.get 3 O).less F).less C)⟩,tv⟩ fun X=>?_)
     refine W1 7 kr O ?_
     refine aV (wk0 O) O A B O O O 0 O dG.size_ O (aP ⟨(aH.one gZ),(aH.one iC),(aH.one fJ),tv⟩) [qE,qF,nI] O ?_
     intro w B
     have B:=r4 B
     refine aB (aF ⟨fun _=>⟨_,((B.less F).less C)⟩,fun _=>⟨_,(((B.get 2 O).less F).less C)⟩,fun _=>⟨_,(((B.get 3 O).less F).less C)⟩,tv⟩ fun X=>?_)
     exact bT kr ⟨ρ4,_,_,_,_,_,_,_,_,(PH.le.tr C F),gZ,iC,fJ,(aH.mono uH F),(aH.mono uI F),(aH.mono sK F),A.cut ⟨O,O,O,tv⟩,B⟩
    refine dV O ?_
    refine dF (wk0 O) O O A B O [N0,N0,N0] (fun w=>by simp[Instr.alloc,go_sem]<;>rfl) ?_
    intro a w b7 A B
    have B:=r3 B
    refine aB (aF ⟨fun _=>⟨_,((B.less F).less C)⟩,fun _=>⟨_,(((B.get 1 O).less F).less C)⟩,fun _=>⟨_,(((B.get 2 O).less F).less C)⟩,tv⟩ fun X=>?_)
    refine W1 4 kr O ?_
    refine dF (wk0 O) O O A B O [N0,N0,N0] (fun w=>by simp[Instr.alloc,go_sem]<;>rfl) ?_
    intro a w b8 A B
    have B:=r4 B
    refine aB (aF ⟨fun _=>⟨_,((B.less F).less C)⟩,fun _=>⟨_,(((B.get 2 O).less F).less C)⟩,fun _=>⟨_,(((B.get 3 O).less F).less C)⟩,tv⟩ fun X=>?_)
    refine W1 6 kr O ?_
    refine aV (wk0 O) O A B O O O 0 O dG.size_ O (aP ⟨(aH.one (aH.mono uH F)),(aH.one (aH.mono uI F)),(aH.one (aH.mono sK F)),tv⟩) [Y6,Y7,O3] O ?_
    intro w B
    have B:=r4 B
    refine aB (aF ⟨fun _=>⟨_,((B.less F).less C)⟩,fun _=>⟨_,(((B.get 2 O).less F).less C)⟩,fun _=>⟨_,(((B.get 3 O).less F).less C)⟩,tv⟩ fun X=>?_)
    refine W1 7 kr O ?_
    refine aV (wk0 O) O A B O O O 1 O dG.size_ O (aP ⟨(aH.one gZ),(aH.one iC),(aH.one fJ),tv⟩) [qE,qF,nI] O ?_
    intro w B
    have B:=r4 B
    refine aB (aF ⟨fun _=>⟨_,((B.less F).less C)⟩,fun _=>⟨_,(((B.get 2 O).less F).less C)⟩,fun _=>⟨_,(((B.get 3 O).less F).less C)⟩,tv⟩ fun X=>?_)
    exact bT kr ⟨ρ4,_,_,_,_,_,_,_,_,(PH.le.tr C F),gZ,iC,fJ,(aH.mono uH F),(aH.mono uI F),(aH.mono sK F),A.cut ⟨O,O,O,tv⟩,((((B.get 3 O).get 3 O).get 2 O).get 3 O)⟩
   ·
    refine dV O ?_
    refine dF (wk0 O) O O A B O [N0,N0,N0] (fun w=>by simp[Instr.alloc,go_sem]<;>rfl) ?_
    intro a w b9 A B
    have B:=r3 B
    refine aB (aF ⟨fun _=>⟨_,(B.less C)⟩,fun _=>⟨_,((B.get 1 O).less C)⟩,fun _=>⟨_,((B.get 2 O).less C)⟩,tv⟩ fun X=>?_)
    refine fQ [3,5] kr O ?_
    refine uE.2 ⟨?_,uE.2 ⟨?_,fun _ h=>absurd h (by simp)⟩⟩
    ·
     refine dV O ?_
     refine Cl A O O kL (bJ H aJ (aH.mono bG C) B x2 ex2) ⟨O,tv⟩ fun v a w p A=>?_
     obtain⟨ρ5,wF,wG,tY,c,rfl,qV,qW,oG,B⟩:=p
     have B:=r3 B
     refine aB (aF ⟨fun _=>⟨_,((B.less c).less C)⟩,fun _=>⟨_,(((B.get 1 O).less c).less C)⟩,fun _=>⟨_,(((B.get 2 O).less c).less C)⟩,tv⟩ fun X=>?_)
     refine W1 5 kr O ?_
     refine dF (wk0 O) O O A B O [N0,N0,N0] (fun w=>by simp[Instr.alloc,go_sem]<;>rfl) ?_
     intro a w b10 A B
     have B:=r4 B
     refine aB (aF ⟨fun _=>⟨_,((B.less c).less C)⟩,fun _=>⟨_,(((B.get 2 O).less c).less C)⟩,fun _=>⟨_,(((B.get 3 O).less c).less C)⟩,tv⟩ fun X=>?_)
     refine W1 6 kr O ?_
     refine aV (wk0 O) O A B O O O 1 O dG.size_ O (aP ⟨(aH.one (aH.mono uH c)),(aH.one (aH.mono uI c)),(aH.one (aH.mono sK c)),tv⟩) [Y6,Y7,O3] O ?_
     intro w B
     have B:=r4 B
     refine aB (aF ⟨fun _=>⟨_,((B.less c).less C)⟩,fun _=>⟨_,(((B.get 2 O).less c).less C)⟩,fun _=>⟨_,(((B.get 3 O).less c).less C)⟩,tv⟩ fun X=>?_)
     refine W1 7 kr O ?_
     refine aV (wk0 O) O A B O O O 0 O dG.size_ O (aP ⟨(aH.one qV),(aH.one qW),(aH.one oG),tv⟩) [wF,wG,tY] O ?_
     intro w B
     have B:=r4 B
     refine aB (aF ⟨fun _=>⟨_,((B.less c).less C)⟩,fun _=>⟨_,(((B.get 2 O).less c).less C)⟩,fun _=>⟨_,(((B.get 3 O).less c).less C)⟩,tv⟩ fun X=>?_)
     exact bT kr ⟨ρ5,_,_,_,_,_,_,_,_,(PH.le.tr C c),qV,qW,oG,(aH.mono uH c),(aH.mono uI c),(aH.mono sK c),A.cut ⟨O,O,O,tv⟩,B⟩
    refine dV O ?_
    refine dF (wk0 O) O O A B O [N0,N0,N0] (fun w=>by simp[Instr.alloc,go_sem]<;>rfl) ?_
    intro a w b11 A B
    have B:=r4 B
    refine aB (aF ⟨fun _=>⟨_,(B.less C)⟩,fun _=>⟨_,((B.get 2 O).less C)⟩,fun _=>⟨_,((B.get 3 O).less C)⟩,tv⟩ fun X=>?_)
    refine W1 3 kr O ?_
    refine Cl A O O kL (bJ H aJ (aH.mono bG C) B x2 ex2) ⟨O,tv⟩ fun v a w p A=>?_
    obtain⟨ρ6,zK,zL,wW,i,rfl,vO,vP,tN,B⟩:=p
    have B:=r4 B
    refine aB (aF ⟨fun _=>⟨_,((B.less i).less C)⟩,fun _=>⟨_,(((B.get 2 O).less i).less C)⟩,fun _=>⟨_,(((B.get 3 O).less i).less C)⟩,tv⟩ fun X=>?_)
    refine W1 6 kr O ?_
    refine aV (wk0 O) O A B O O O 1 O dG.size_ O (aP ⟨(aH.one (aH.mono uH i)),(aH.one (aH.mono uI i)),(aH.one (aH.mono sK i)),tv⟩) [Y6,Y7,O3] O ?_
    intro w B
    have B:=r4 B
    refine aB (aF ⟨fun _=>⟨_,((B.less i).less C)⟩,fun _=>⟨_,(((B.get 2 O).less i).less C)⟩,fun _=>⟨_,(((B.get 3 O).less i).less C)⟩,tv⟩ fun X=>?_)
    refine W1 7 kr O ?_
    refine aV (wk0 O) O A B O O O 0 O dG.size_ O (aP ⟨(aH.one vO),(aH.one vP),(aH.one tN),tv⟩) [zK,zL,wW] O ?_
    intro w B
    have B:=r4 B
    refine aB (aF ⟨fun _=>⟨_,((B.less i).less C)⟩,fun _=>⟨_,(((B.get 2 O).less i).less C)⟩,fun _=>⟨_,(((B.get 3 O).less i).less C)⟩,tv⟩ fun X=>?_)
    exact bT kr ⟨ρ6,_,_,_,_,_,_,_,_,(PH.le.tr C i),vO,vP,tN,(aH.mono uH i),(aH.mono uI i),(aH.mono sK i),A.cut ⟨O,O,O,tv⟩,B⟩
   refine dV O ?_
   refine dF (wk0 O) O O A B O [N0,N0,N0] (fun w=>by simp[Instr.alloc,go_sem]<;>rfl) ?_
   intro a w b12 A B
   have B:=r3 B
   refine aB (aF ⟨fun _=>⟨_,(B.less C)⟩,fun _=>⟨_,((B.get 1 O).less C)⟩,fun _=>⟨_,((B.get 2 O).less C)⟩,tv⟩ fun X=>?_)
   refine fQ [3,4] kr O ?_
   refine uE.2 ⟨?_,uE.2 ⟨?_,fun _ h=>absurd h (by simp)⟩⟩
   ·
    refine dV O ?_
    refine Cl A O O kL (bJ H aJ (aH.mono bG C) B x2 ex2) ⟨O,tv⟩ fun v a w p A=>?_
    obtain⟨ρ7,aG9,aH0,aC4,Y,rfl,D9,E5,yT,B⟩:=p
    have B:=r3 B
    refine aB (aF ⟨fun _=>⟨_,((B.less Y).less C)⟩,fun _=>⟨_,(((B.get 1 O).less Y).less C)⟩,fun _=>⟨_,(((B.get 2 O).less Y).less C)⟩,tv⟩ fun X=>?_)
    refine W1 4 kr O ?_
    refine dF (wk0 O) O O A B O [N0,N0,N0] (fun w=>by simp[Instr.alloc,go_sem]<;>rfl) ?_
    intro a w b13 A B
    have B:=r4 B
    refine aB (aF ⟨fun _=>⟨_,((B.less Y).less C)⟩,fun _=>⟨_,(((B.get 2 O).less Y).less C)⟩,fun _=>⟨_,(((B.get 3 O).less Y).less C)⟩,tv⟩ fun X=>?_)
    refine W1 6 kr O ?_
    refine aV (wk0 O) O A B O O O 0 O dG.size_ O (aP ⟨(aH.one (aH.mono uH Y)),(aH.one (aH.mono uI Y)),(aH.one (aH.mono sK Y)),tv⟩) [Y6,Y7,O3] O ?_
    intro w B
    have B:=r4 B
    refine aB (aF ⟨fun _=>⟨_,((B.less Y).less C)⟩,fun _=>⟨_,(((B.get 2 O).less Y).less C)⟩,fun _=>⟨_,(((B.get 3 O).less Y).less C)⟩,tv⟩ fun X=>?_)
    refine W1 7 kr O ?_
    refine aV (wk0 O) O A B O O O 1 O dG.size_ O (aP ⟨(aH.one D9),(aH.one E5),(aH.one yT),tv⟩) [aG9,aH0,aC4] O ?_
    intro w B
    have B:=r4 B
    refine aB (aF ⟨fun _=>⟨_,((B.less Y).less C)⟩,fun _=>⟨_,(((B.get 2 O).less Y).less C)⟩,fun _=>⟨_,(((B.get 3 O).less Y).less C)⟩,tv⟩ fun X=>?_)
    exact bT kr ⟨ρ7,_,_,_,_,_,_,_,_,(PH.le.tr C Y),D9,E5,yT,(aH.mono uH Y),(aH.mono uI Y),(aH.mono sK Y),A.cut ⟨O,O,O,tv⟩,((((B.get 3 O).get 3 O).get 2 O).get 3 O)⟩
   refine dV O ?_
   refine dF (wk0 O) O O A B O [N0,N0,N0] (fun w=>by simp[Instr.alloc,go_sem]<;>rfl) ?_
   intro a w b14 A B
   have B:=r4 B
   refine aB (aF ⟨fun _=>⟨_,(B.less C)⟩,fun _=>⟨_,((B.get 2 O).less C)⟩,fun _=>⟨_,((B.get 3 O).less C)⟩,tv⟩ fun X=>?_)
   refine W1 3 kr O ?_
   refine Cl A O O kL (bJ H aJ (aH.mono bG C) B x2 ex2) ⟨O,tv⟩ fun v a w p A=>?_
   obtain⟨ρ8,aH1,aH2,aC5,g,rfl,E8,F5,yU,B⟩:=p
   have B:=r4 B
   refine aB (aF ⟨fun _=>⟨_,((B.less g).less C)⟩,fun _=>⟨_,(((B.get 2 O).less g).less C)⟩,fun _=>⟨_,(((B.get 3 O).less g).less C)⟩,tv⟩ fun X=>?_)
   refine W1 6 kr O ?_
   refine aV (wk0 O) O A B O O O 0 O dG.size_ O (aP ⟨(aH.one (aH.mono uH g)),(aH.one (aH.mono uI g)),(aH.one (aH.mono sK g)),tv⟩) [Y6,Y7,O3] O ?_
   intro w B
   have B:=r4 B
   refine aB (aF ⟨fun _=>⟨_,((B.less g).less C)⟩,fun _=>⟨_,(((B.get 2 O).less g).less C)⟩,fun _=>⟨_,(((B.get 3 O).less g).less C)⟩,tv⟩ fun X=>?_)
   refine W1 7 kr O ?_
   refine aV (wk0 O) O A B O O O 1 O dG.size_ O (aP ⟨(aH.one E8),(aH.one F5),(aH.one yU),tv⟩) [aH1,aH2,aC5] O ?_
   intro w B
   have B:=r4 B
   refine aB (aF ⟨fun _=>⟨_,((B.less g).less C)⟩,fun _=>⟨_,(((B.get 2 O).less g).less C)⟩,fun _=>⟨_,(((B.get 3 O).less g).less C)⟩,tv⟩ fun X=>?_)
   exact bT kr ⟨ρ8,_,_,_,_,_,_,_,_,(PH.le.tr C g),E8,F5,yU,(aH.mono uH g),(aH.mono uI g),(aH.mono sK g),A.cut ⟨O,O,O,tv⟩,((((B.get 3 O).get 3 O).get 2 O).get 3 O)⟩
  ·
   refine dV O ?_
   refine dF (wk0 O) O O A B O [N0,N0,N0] (fun w=>by simp[Instr.alloc,go_sem]<;>rfl) ?_
   intro a w b15 A B
   have B:=r3 B
   refine aB (aF ⟨gp0 B,gp 1 B O,gp 2 B O,tv⟩ fun X=>?_)
   refine fQ [1,5] kr O ?_
   refine uE.2 ⟨?_,uE.2 ⟨?_,fun _ h=>absurd h (by simp)⟩⟩
   ·
    refine dV O ?_
    refine Cl A O O kL (bJ I aI aY B m ex1) ⟨O,tv⟩ fun v a w p A=>?_
    obtain⟨ρ9,Y9,Z4,O4,J,rfl,xG,xH,uX,B⟩:=p
    have B:=r3 B
    refine aB (aF ⟨fun _=>⟨_,(B.less J)⟩,fun _=>⟨_,((B.get 1 O).less J)⟩,fun _=>⟨_,((B.get 2 O).less J)⟩,tv⟩ fun X=>?_)
    refine fQ [3,5] kr O ?_
    refine uE.2 ⟨?_,uE.2 ⟨?_,fun _ h=>absurd h (by simp)⟩⟩
    ·
     refine dV O ?_
     refine Cl A O O kL (bJ H aJ (aH.mono bG J) B x2 ex2) ⟨O,tv⟩ fun v a w p A=>?_
     obtain⟨ρ10,zZ,A8,yZ,M,rfl,sF,sG,qG,B⟩:=p
     have B:=r3 B
     refine aB (aF ⟨fun _=>⟨_,((B.less M).less J)⟩,fun _=>⟨_,(((B.get 1 O).less M).less J)⟩,fun _=>⟨_,(((B.get 2 O).less M).less J)⟩,tv⟩ fun X=>?_)
     refine W1 5 kr O ?_
     refine dF (wk0 O) O O A B O [N0,N0,N0] (fun w=>by simp[Instr.alloc,go_sem]<;>rfl) ?_
     intro a w b16 A B
     have B:=r4 B
     refine aB (aF ⟨fun _=>⟨_,((B.less M).less J)⟩,fun _=>⟨_,(((B.get 2 O).less M).less J)⟩,fun _=>⟨_,(((B.get 3 O).less M).less J)⟩,tv⟩ fun X=>?_)
     refine W1 6 kr O ?_
     refine aV (wk0 O) O A B O O O 1 O dG.size_ O (aP ⟨(aH.one (aH.mono xG M)),(aH.one (aH.mono xH M)),(aH.one (aH.mono uX M)),tv⟩) [Y9,Z4,O4] O ?_
     intro w B
     have B:=r4 B
     refine aB (aF ⟨fun _=>⟨_,((B.less M).less J)⟩,fun _=>⟨_,(((B.get 2 O).less M).less J)⟩,fun _=>⟨_,(((B.get 3 O).less M).less J)⟩,tv⟩ fun X=>?_)
     refine W1 7 kr O ?_
     refine aV (wk0 O) O A B O O O 0 O dG.size_ O (aP ⟨(aH.one sF),(aH.one sG),(aH.one qG),tv⟩) [zZ,A8,yZ] O ?_
     intro w B
     have B:=r4 B
     refine aB (aF ⟨fun _=>⟨_,((B.less M).less J)⟩,fun _=>⟨_,(((B.get 2 O).less M).less J)⟩,fun _=>⟨_,(((B.get 3 O).less M).less J)⟩,tv⟩ fun X=>?_)
     exact bT kr ⟨ρ10,_,_,_,_,_,_,_,_,(PH.le.tr J M),sF,sG,qG,(aH.mono xG M),(aH.mono xH M),(aH.mono uX M),A.cut ⟨O,O,O,tv⟩,B⟩
    refine dV O ?_
    refine dF (wk0 O) O O A B O [N0,N0,N0] (fun w=>by simp[Instr.alloc,go_sem]<;>rfl) ?_
    intro a w b17 A B
    have B:=r4 B
    refine aB (aF ⟨fun _=>⟨_,(B.less J)⟩,fun _=>⟨_,((B.get 2 O).less J)⟩,fun _=>⟨_,((B.get 3 O).less J)⟩,tv⟩ fun X=>?_)
    refine W1 3 kr O ?_
    refine Cl A O O kL (bJ H aJ (aH.mono bG J) B x2 ex2) ⟨O,tv⟩ fun v a w p A=>?_
    obtain⟨ρ11,aB1,aB2,S9,W,rfl,yH,yI,wJ,B⟩:=p
    have B:=r4 B
    refine aB (aF ⟨fun _=>⟨_,((B.less W).less J)⟩,fun _=>⟨_,(((B.get 2 O).less W).less J)⟩,fun _=>⟨_,(((B.get 3 O).less W).less J)⟩,tv⟩ fun X=>?_)
    refine W1 6 kr O ?_
    refine aV (wk0 O) O A B O O O 1 O dG.size_ O (aP ⟨(aH.one (aH.mono xG W)),(aH.one (aH.mono xH W)),(aH.one (aH.mono uX W)),tv⟩) [Y9,Z4,O4] O ?_
    intro w B
    have B:=r4 B
    refine aB (aF ⟨fun _=>⟨_,((B.less W).less J)⟩,fun _=>⟨_,(((B.get 2 O).less W).less J)⟩,fun _=>⟨_,(((B.get 3 O).less W).less J)⟩,tv⟩ fun X=>?_)
    refine W1 7 kr O ?_
    refine aV (wk0 O) O A B O O O 0 O dG.size_ O (aP ⟨(aH.one yH),(aH.one yI),(aH.one wJ),tv⟩) [aB1,aB2,S9] O ?_
    intro w B
    have B:=r4 B
    refine aB (aF ⟨fun _=>⟨_,((B.less W).less J)⟩,fun _=>⟨_,(((B.get 2 O).less W).less J)⟩,fun _=>⟨_,(((B.get 3 O).less W).less J)⟩,tv⟩ fun X=>?_)
    exact bT kr ⟨ρ11,_,_,_,_,_,_,_,_,(PH.le.tr J W),yH,yI,wJ,(aH.mono xG W),(aH.mono xH W),(aH.mono uX W),A.cut ⟨O,O,O,tv⟩,B⟩
   refine dV O ?_
   refine dF (wk0 O) O O A B O [N0,N0,N0] (fun w=>by simp[Instr.alloc,go_sem]<;>rfl) ?_
   intro a w b18 A B
   have B:=r4 B
   refine aB (aF ⟨gp0 B,gp 2 B O,gp 3 B O,tv⟩ fun X=>?_)
   refine W1 1 kr O ?_
   refine Cl A O O kL (bJ I aI aY B m ex1) ⟨O,tv⟩ fun v a w p A=>?_
   obtain⟨ρ12,aB3,aB4,U0,f,rfl,yJ,yK,wK,B⟩:=p
   have B:=r4 B
   refine aB (aF ⟨fun _=>⟨_,(B.less f)⟩,fun _=>⟨_,((B.get 2 O).less f)⟩,fun _=>⟨_,((B.get 3 O).less f)⟩,tv⟩ fun X=>?_)
   refine W1 3 kr O ?_
   refine Cl A O O kL (bJ H aJ (aH.mono bG f) B x2 ex2) ⟨O,tv⟩ fun v a w p A=>?_
   obtain⟨ρ13,aB5,aB6,U1,U,rfl,yL,yM,wL,B⟩:=p
   have B:=r4 B
   refine aB (aF ⟨fun _=>⟨_,((B.less U).less f)⟩,fun _=>⟨_,(((B.get 2 O).less U).less f)⟩,fun _=>⟨_,(((B.get 3 O).less U).less f)⟩,tv⟩ fun X=>?_)
   refine W1 6 kr O ?_
   refine aV (wk0 O) O A B O O O 1 O dG.size_ O (aP ⟨(aH.one (aH.mono yJ U)),(aH.one (aH.mono yK U)),(aH.one (aH.mono wK U)),tv⟩) [aB3,aB4,U0] O ?_
   intro w B
   have B:=r4 B
   refine aB (aF ⟨fun _=>⟨_,((B.less U).less f)⟩,fun _=>⟨_,(((B.get 2 O).less U).less f)⟩,fun _=>⟨_,(((B.get 3 O).less U).less f)⟩,tv⟩ fun X=>?_)
   refine W1 7 kr O ?_
   refine aV (wk0 O) O A B O O O 0 O dG.size_ O (aP ⟨(aH.one yL),(aH.one yM),(aH.one wL),tv⟩) [aB5,aB6,U1] O ?_
   intro w B
   have B:=r4 B
   refine aB (aF ⟨fun _=>⟨_,((B.less U).less f)⟩,fun _=>⟨_,(((B.get 2 O).less U).less f)⟩,fun _=>⟨_,(((B.get 3 O).less U).less f)⟩,tv⟩ fun X=>?_)
   exact bT kr ⟨ρ13,_,_,_,_,_,_,_,_,(PH.le.tr f U),yL,yM,wL,(aH.mono yJ U),(aH.mono yK U),(aH.mono wK U),A.cut ⟨O,O,O,tv⟩,B⟩
  refine dV O ?_
  refine dF (wk0 O) O O A B O [N0,N0,N0] (fun w=>by simp[Instr.alloc,go_sem]<;>rfl) ?_
  intro a w b19 A B
  have B:=r3 B
  refine aB (aF ⟨gp0 B,gp 1 B O,gp 2 B O,tv⟩ fun X=>?_)
  refine fQ [1,4] kr O ?_
  refine uE.2 ⟨?_,uE.2 ⟨?_,fun _ h=>absurd h (by simp)⟩⟩
  ·
   refine dV O ?_
   refine Cl A O O kL (bJ I aI aY B m ex1) ⟨O,tv⟩ fun v a w p A=>?_
   obtain⟨ρ14,N9,O0,F8,E,rfl,uU,uV,tH,B⟩:=p
   have B:=r3 B
   refine aB (aF ⟨fun _=>⟨_,(B.less E)⟩,fun _=>⟨_,((B.get 1 O).less E)⟩,fun _=>⟨_,((B.get 2 O).less E)⟩,tv⟩ fun X=>?_)
   refine fQ [3,4] kr O ?_
   refine uE.2 ⟨?_,uE.2 ⟨?_,fun _ h=>absurd h (by simp)⟩⟩
   ·
    refine dV O ?_
    refine Cl A O O kL (bJ H aJ (aH.mono bG E) B x2 ex2) ⟨O,tv⟩ fun v a w p A=>?_
    obtain⟨ρ15,C9,D5,zA,K,rfl,sH,sJ,qH,B⟩:=p
    have B:=r3 B
    refine aB (aF ⟨fun _=>⟨_,((B.less K).less E)⟩,fun _=>⟨_,(((B.get 1 O).less K).less E)⟩,fun _=>⟨_,(((B.get 2 O).less K).less E)⟩,tv⟩ fun X=>?_)
    refine W1 4 kr O ?_
    refine dF (wk0 O) O O A B O [N0,N0,N0] (fun w=>by simp[Instr.alloc,go_sem]<;>rfl) ?_
    intro a w b20 A B
    have B:=r4 B
    refine aB (aF ⟨fun _=>⟨_,((B.less K).less E)⟩,fun _=>⟨_,(((B.get 2 O).less K).less E)⟩,fun _=>⟨_,(((B.get 3 O).less K).less E)⟩,tv⟩ fun X=>?_)
    refine W1 6 kr O ?_
    refine aV (wk0 O) O A B O O O 0 O dG.size_ O (aP ⟨(aH.one (aH.mono uU K)),(aH.one (aH.mono uV K)),(aH.one (aH.mono tH K)),tv⟩) [N9,O0,F8] O ?_
    intro w B
    have B:=r4 B
    refine aB (aF ⟨fun _=>⟨_,((B.less K).less E)⟩,fun _=>⟨_,(((B.get 2 O).less K).less E)⟩,fun _=>⟨_,(((B.get 3 O).less K).less E)⟩,tv⟩ fun X=>?_)
    refine W1 7 kr O ?_
    refine aV (wk0 O) O A B O O O 1 O dG.size_ O (aP ⟨(aH.one sH),(aH.one sJ),(aH.one qH),tv⟩) [C9,D5,zA] O ?_
    intro w B
    have B:=r4 B
    refine aB (aF ⟨fun _=>⟨_,((B.less K).less E)⟩,fun _=>⟨_,(((B.get 2 O).less K).less E)⟩,fun _=>⟨_,(((B.get 3 O).less K).less E)⟩,tv⟩ fun X=>?_)
    exact bT kr ⟨ρ15,_,_,_,_,_,_,_,_,(PH.le.tr E K),sH,sJ,qH,(aH.mono uU K),(aH.mono uV K),(aH.mono tH K),A.cut ⟨O,O,O,tv⟩,((((B.get 3 O).get 3 O).get 2 O).get 3 O)⟩
   refine dV O ?_
   refine dF (wk0 O) O O A B O [N0,N0,N0] (fun w=>by simp[Instr.alloc,go_sem]<;>rfl) ?_
   intro a w b21 A B
   have B:=r4 B
   refine aB (aF ⟨fun _=>⟨_,(B.less E)⟩,fun _=>⟨_,((B.get 2 O).less E)⟩,fun _=>⟨_,((B.get 3 O).less E)⟩,tv⟩ fun X=>?_)
   refine W1 3 kr O ?_
   refine Cl A O O kL (bJ H aJ (aH.mono bG E) B x2 ex2) ⟨O,tv⟩ fun v a w p A=>?_
   obtain⟨ρ16,aB7,aB8,U2,R,rfl,yN,yO,wM,B⟩:=p
   have B:=r4 B
   refine aB (aF ⟨fun _=>⟨_,((B.less R).less E)⟩,fun _=>⟨_,(((B.get 2 O).less R).less E)⟩,fun _=>⟨_,(((B.get 3 O).less R).less E)⟩,tv⟩ fun X=>?_)
   refine W1 6 kr O ?_
   refine aV (wk0 O) O A B O O O 0 O dG.size_ O (aP ⟨(aH.one (aH.mono uU R)),(aH.one (aH.mono uV R)),(aH.one (aH.mono tH R)),tv⟩) [N9,O0,F8] O ?_
   intro w B
   have B:=r4 B
   refine aB (aF ⟨fun _=>⟨_,((B.less R).less E)⟩,fun _=>⟨_,(((B.get 2 O).less R).less E)⟩,fun _=>⟨_,(((B.get 3 O).less R).less E)⟩,tv⟩ fun X=>?_)
   refine W1 7 kr O ?_
   refine aV (wk0 O) O A B O O O 1 O dG.size_ O (aP ⟨(aH.one yN),(aH.one yO),(aH.one wM),tv⟩) [aB7,aB8,U2] O ?_
   intro w B
   have B:=r4 B
   refine aB (aF ⟨fun _=>⟨_,((B.less R).less E)⟩,fun _=>⟨_,(((B.get 2 O).less R).less E)⟩,fun _=>⟨_,(((B.get 3 O).less R).less E)⟩,tv⟩ fun X=>?_)
   exact bT kr ⟨ρ16,_,_,_,_,_,_,_,_,(PH.le.tr E R),yN,yO,wM,(aH.mono uU R),(aH.mono uV R),(aH.mono tH R),A.cut ⟨O,O,O,tv⟩,((((B.get 3 O).get 3 O).get 2 O).get 3 O)⟩
  refine dV O ?_
  refine dF (wk0 O) O O A B O [N0,N0,N0] (fun w=>by simp[Instr.alloc,go_sem]<;>rfl) ?_
  intro a w b22 A B
  have B:=r4 B
  refine aB (aF ⟨gp0 B,gp 2 B O,gp 3 B O,tv⟩ fun X=>?_)
  refine W1 1 kr O ?_
  refine Cl A O O kL (bJ I aI aY B m ex1) ⟨O,tv⟩ fun v a w p A=>?_
  obtain⟨ρ17,aB9,aC0,U3,d,rfl,yP,yQ,wO,B⟩:=p
  have B:=r4 B
  refine aB (aF ⟨fun _=>⟨_,(B.less d)⟩,fun _=>⟨_,((B.get 2 O).less d)⟩,fun _=>⟨_,((B.get 3 O).less d)⟩,tv⟩ fun X=>?_)
  refine W1 3 kr O ?_
  refine Cl A O O kL (bJ H aJ (aH.mono bG d) B x2 ex2) ⟨O,tv⟩ fun v a w p A=>?_
  obtain⟨ρ18,aC1,aC2,U4,Q,rfl,yR,yS,wQ,B⟩:=p
  have B:=r4 B
  refine aB (aF ⟨fun _=>⟨_,((B.less Q).less d)⟩,fun _=>⟨_,(((B.get 2 O).less Q).less d)⟩,fun _=>⟨_,(((B.get 3 O).less Q).less d)⟩,tv⟩ fun X=>?_)
  refine W1 6 kr O ?_
  refine aV (wk0 O) O A B O O O 0 O dG.size_ O (aP ⟨(aH.one (aH.mono yP Q)),(aH.one (aH.mono yQ Q)),(aH.one (aH.mono wO Q)),tv⟩) [aB9,aC0,U3] O ?_
  intro w B
  have B:=r4 B
  refine aB (aF ⟨fun _=>⟨_,((B.less Q).less d)⟩,fun _=>⟨_,(((B.get 2 O).less Q).less d)⟩,fun _=>⟨_,(((B.get 3 O).less Q).less d)⟩,tv⟩ fun X=>?_)
  refine W1 7 kr O ?_
  refine aV (wk0 O) O A B O O O 1 O dG.size_ O (aP ⟨(aH.one yR),(aH.one yS),(aH.one wQ),tv⟩) [aC1,aC2,U4] O ?_
  intro w B
  have B:=r4 B
  refine aB (aF ⟨fun _=>⟨_,((B.less Q).less d)⟩,fun _=>⟨_,(((B.get 2 O).less Q).less d)⟩,fun _=>⟨_,(((B.get 3 O).less Q).less d)⟩,tv⟩ fun X=>?_)
  exact bT kr ⟨ρ18,_,_,_,_,_,_,_,_,(PH.le.tr d Q),yR,yS,wQ,(aH.mono yP Q),(aH.mono yQ Q),(aH.mono wO Q),A.cut ⟨O,O,O,tv⟩,((((B.get 3 O).get 3 O).get 2 O).get 3 O)⟩
 rintro a w ⟨ρy1,y4,y3,yv1,yv2,yv3,yv4,yv5,yv6,hley1,yh1,yh2,yh3,yh4,yh5,yh6,A,B⟩
 refine aG (aG ?_)
 refine aA (S A 1 O fun a A=>?_)
 refine V A B O (bW O A O (aH.len (aH.mono hp2 hley1) fE)) fun a A=>V A B O (xf A lQ O O) fun a A=>V A B O (xl A iK 1 O O O O) fun a A=>V A B O (bW O A O (aH.len yh4 iZ)) fun a A=>S A 1 O fun a A=>aB ?_
 refine dK A O (fun hc1=>?_) (fun hc1=>?_)
 ·replace hm:=(it hc1).symm.trans hm
  refine aG (aA ?_)
  refine S A 1 O fun a A=>aB (cZ ?_)
  obtain rfl:=oj hm
  exact gY A O O ⟨_,O,O,((((((((B.get 3 O).drop).get 2 O).drop).get 1 O).drop).drop).less hley1)⟩
 replace hm:=(ie hc1).symm.trans hm
 refine bI (aG ?_)
 refine aA (V A B O (xf A lQ O O) fun a A=>?_)
 refine V A B O (xl A iK 0 O O O O) fun a A=>V A B O (bW O A O (aH.len yh1 iZ)) fun a A=>?_
 obtain⟨x3,ex3,hm⟩:=bnd hm
 refine aM4 (wk0 O) O O A B O (El:=4) (bytes:=1) kr (false:Bool) kr kr O O ex3 ?_
 intro v1 a w A B
 have B:=r5 B
 refine S A 1 O fun a A=>aB (aG ?_)
 refine aA (S A 1 O fun a A=>?_)
 refine aB (aG ?_)
 refine aA (S A 1 O fun a A=>?_)
 refine aB (aG ?_)
 refine aG (aA ?_)
 refine S A 1 O fun a A=>V A B O (bW O A O (aH.len (aH.mono hp2 hley1) fE)) fun a A=>S A 1 O fun a A=>aB ?_
 have B:=B.emp (aC.nil (α:=Opn) 46)
 have B:=r6 B
 obtain⟨b23,hc2,hm⟩:=bnd hm
 refine dM (fun a w=>∃s:((List Opn)×(List Bool)),b23= .brk s∧(∃(w14:Value) (w5:Value),Env 174 [(7,(Pv y3 0)),(8,(Pv y4 0)),(9,w5),(10,w14)] a∧Hp Z ρy1 (aC 46 w14 s.1::aC 4 w5 s.2::Pt y4 (.cells #[yv1,yv2,yv3] 75 (0,0))::Pt y3 (.cells #[yv4,yv5,yv6] 75 (0,0))::Pt b2 (.cells #[(Iv H.kind),(.string H.text),(Iv H.at_),(Iv H.fin),aJ] 24 (0,0))::Pt b1 (.cells #[(Iv I.kind),(.string I.text),(Iv I.at_),(Iv I.fin),aI] 24 (0,0))::L) w)) ?_ ?_
 ·refine eQ hc2 (fun s a w=>∃(w14:Value) (w5:Value),Env 174 [(7,(Pv y3 0)),(8,(Pv y4 0)),(9,w5),(10,w14),(11,(Iv s.1)),(32,vp2),(33,(Iv (p2.length:Int))),(34,(Iv s.2.1))] a∧Hp Z ρy1 (aC 46 w14 s.2.2.1::aC 4 w5 s.2.2.2::Pt y4 (.cells #[yv1,yv2,yv3] 75 (0,0))::Pt y3 (.cells #[yv4,yv5,yv6] 75 (0,0))::Pt b2 (.cells #[(Iv H.kind),(.string H.text),(Iv H.at_),(Iv H.fin),aJ] 24 (0,0))::Pt b1 (.cells #[(Iv I.kind),(.string I.text),(Iv I.at_),(Iv I.fin),aI] 24 (0,0))::L) w) ?_ ?_
  ·exact⟨_,_,A.cut ⟨O,O,O,O,O,O,O,O,tv⟩,B⟩
  rintro⟨aQ,aU,dS,fK⟩ st a w ⟨w14,w5,A,B⟩ q
  dsimp only at A B q
  unfold uK at q
  refine aG (aA ?_)
  refine S A 1 O fun a A=>aB (aG ?_)
  refine dK A O (fun hc3=>?_) (fun hc3=>?_)
  ·replace q:=(it hc3).symm.trans q
   refine bI (aG ?_)
   obtain⟨j1,hj1,q⟩:=bnd q
   refine dM (fun a w=>∃s:(Int×(List Opn)×(List Bool)),j1= .brk s∧(∃(w14:Value) (w5:Value),Env 174 [(7,(Pv y3 0)),(8,(Pv y4 0)),(9,w5),(10,w14),(11,(Iv s.1)),(32,vp2),(33,(Iv (p2.length:Int))),(34,(Iv aU))] a∧Hp Z ρy1 (aC 46 w14 s.2.1::aC 4 w5 s.2.2::Pt y4 (.cells #[yv1,yv2,yv3] 75 (0,0))::Pt y3 (.cells #[yv4,yv5,yv6] 75 (0,0))::Pt b2 (.cells #[(Iv H.kind),(.string H.text),(Iv H.at_),(Iv H.fin),aJ] 24 (0,0))::Pt b1 (.cells #[(Iv I.kind),(.string I.text),(Iv I.at_),(Iv I.fin),aI] 24 (0,0))::L) w)) ?_ ?_
   ·
    refine aG (aA ?_)
    refine S A 1 O fun a A=>?_
    obtain⟨D,ex4,hj1⟩:=bnd hj1
    obtain⟨b24,b24o,b24c,b24r,b24k,b24f⟩:=aH.at (aH.mono hp2 hley1) fE ex4
    obtain rfl:b24c=Enc.enc D:=b24k
    have b24f:AtP ρy1 b24 b24o [(Iv D.a),(Iv D.b)]:=b24f
    refine V A B O (aO O A O O b24r) fun a A=>V A B O (aK O A O (fun w x=>aX (cs:=[(Iv D.a),(Iv D.b)]) fH (fun j u hj=>cell_of x.le (b24f j u hj)))) fun a A=>?_
    refine dF (wk0 O) O O A B O [(Iv 0),(Iv 0)] (fun w=>by simp[Instr.alloc,go_sem]<;>rfl) ?_
    intro a w b25 A B
    have B:=r7 B
    refine S A 1 O fun a A=>?_
    refine aV (wk0 O) O A B O O O 0 O fH.size_ O (aP ⟨O,O,tv⟩) [(Iv D.a),(Iv D.b)] O ?_
    intro w B
    have B:=r7 B
    refine aB ?_
    have A:=A.cut (E':=[(7,(Pv y3 0)),(8,(Pv y4 0)),(9,w5),(10,w14),(11,(Iv aQ)),(12,(Iv aU)),(13,(Pv b25 0)),(32,vp2),(33,(Iv (p2.length:Int))),(34,(Iv aU))]) ⟨O,O,O,O,O,O,O,O,O,O,tv⟩
    refine aG (aG ?_)
    refine aA (S A 1 O fun a A=>?_)
    refine V A B O (xf A lQ O O) fun a A=>V A B O (xl A iK 4 O O O O) fun a A=>V A B O (bW O A O (aH.len yh4 iZ)) fun a A=>S A 1 O fun a A=>V A B O (xf A fV O O) fun a A=>V A B O (xl A aW 0 O O O O) fun a A=>S A 1 O fun a A=>V A B O (v:=(.bool (!((decide (aU<(m.nodes.length:Int)))==(decide (0≤D.a)))))) (ex_bneq bty4 O A O O) fun a A=>S A 1 O fun a A=>?_
    refine jI [_,_,_,_,_,_,_,_,_,_] (fun a w=>Env 174 [(58,(.bool ((!((decide (aU<(m.nodes.length:Int)))==(decide (0≤D.a))))||((decide (0≤D.a))&&(!decide (D.a=aU)))))),(7,(Pv y3 0)),(8,(Pv y4 0)),(9,w5),(10,w14),(11,(Iv aQ)),(13,(Pv b25 0)),(32,vp2),(33,(Iv (p2.length:Int))),(34,(Iv aU))] a∧Hp Z ρy1 (Pt b25 (.cells #[(Iv D.a),(Iv D.b)] 46 (0,0))::aC 46 w14 dS::aC 4 w5 fK::Pt y4 (.cells #[yv1,yv2,yv3] 75 (0,0))::Pt y3 (.cells #[yv4,yv5,yv6] 75 (0,0))::Pt b2 (.cells #[(Iv H.kind),(.string H.text),(Iv H.at_),(Iv H.fin),aJ] 24 (0,0))::Pt b1 (.cells #[(Iv I.kind),(.string I.text),(Iv I.at_),(Iv I.fin),aI] 24 (0,0))::L) w) ?_ ?_
    ·rcases vA (!((decide (aU<(m.nodes.length:Int)))==(decide (0≤D.a)))) with o|o
     ·
      refine Gk A o O fun a A=>Gk A o O fun a A=>Gk A o O fun a A=>Gk A o O fun a A=>?_
      refine vG (wk3 A O O O) O O A ?_
      intro a A
      refine vG (wk3 A O O O) O O A ?_
      intro a A
      refine vG (wk3 A O O O) O O A ?_
      intro a A
      refine vG (wk3 A O O O) O O A ?_
      intro a A
      refine Gk A o O fun a A=>pk1 A o O O O O fun a A=>?_
      have A:=A.eqv (v':=(.bool ((!((decide (aU<(m.nodes.length:Int)))==(decide (0≤D.a))))||((decide (0≤D.a))&&(!decide (D.a=aU)))))) (by rw[o];rfl)
      exact aB ⟨A.cut ⟨O,O,O,O,O,O,O,O,O,O,tv⟩,B⟩
     refine G A B o O (xf A fV O O) fun a A=>G A B o O (xl A aW 0 O O O O) fun a A=>Gs A o O O fun a A=>Gs A o O O fun a A=>?_
     refine jI [_,_,_,_,_] (fun a w=>Env 174 [(57,(.bool ((decide (0≤D.a))&&(!decide (D.a=aU))))),(7,(Pv y3 0)),(8,(Pv y4 0)),(9,w5),(10,w14),(11,(Iv aQ)),(13,(Pv b25 0)),(32,vp2),(33,(Iv (p2.length:Int))),(34,(Iv aU)),(48,(.bool (!((decide (aU<(m.nodes.length:Int)))==(decide (0≤D.a)))))),(49,(Pv b25 0)),(50,(Iv D.a)),(51,(.bool (decide (0≤D.a)))),(52,(.bool (decide (0≤D.a))))] a∧Hp Z ρy1 (Pt b25 (.cells #[(Iv D.a),(Iv D.b)] 46 (0,0))::aC 46 w14 dS::aC 4 w5 fK::Pt y4 (.cells #[yv1,yv2,yv3] 75 (0,0))::Pt y3 (.cells #[yv4,yv5,yv6] 75 (0,0))::Pt b2 (.cells #[(Iv H.kind),(.string H.text),(Iv H.at_),(Iv H.fin),aJ] 24 (0,0))::Pt b1 (.cells #[(Iv I.kind),(.string I.text),(Iv I.at_),(Iv I.fin),aI] 24 (0,0))::L) w) ?_ ?_
     ·rcases vA (decide (0≤D.a)) with z|z
      ·
       refine G A B z O (xf A fV O O) fun a A=>G A B z O (xl A aW 0 O O O O) fun a A=>Gs A z O O fun a A=>Gs A z O O fun a A=>G A B o O (jM O A O z O) fun a A=>?_
       have A:=A.eqv (v':=(.bool ((decide (0≤D.a))&&(!decide (D.a=aU))))) (by rw[z];rfl)
       exact aB ⟨A.cut ⟨O,O,O,O,O,O,O,O,O,O,O,O,O,O,O,tv⟩,B⟩
      refine Gk A z O fun a A=>Gk A z O fun a A=>Gk A z O fun a A=>Gk A z O fun a A=>G A B o O (iV O A O z O) fun a A=>?_
      have A:=A.eqv (v':=(.bool ((decide (0≤D.a))&&(!decide (D.a=aU))))) (by rw[z];rfl)
      exact aB ⟨A.cut ⟨O,O,O,O,O,O,O,O,O,O,O,O,O,O,O,tv⟩,B⟩
     rintro a w ⟨A,B⟩
     refine pk0 A o O O O O fun a A=>?_
     have A:=A.eqv (v':=(.bool ((!((decide (aU<(m.nodes.length:Int)))==(decide (0≤D.a))))||((decide (0≤D.a))&&(!decide (D.a=aU)))))) (by rw[o];rfl)
     exact aB ⟨A.cut ⟨O,O,O,O,O,O,O,O,O,O,tv⟩,B⟩
    rintro a w ⟨A,B⟩
    refine S A 1 O fun a A=>?_
    refine jI [_,_,_,_,_,_,_,_,_] (fun a w=>Env 174 [(68,(.bool (((!((decide (aU<(m.nodes.length:Int)))==(decide (0≤D.a))))||((decide (0≤D.a))&&(!decide (D.a=aU))))||((decide (D.a<0))&&(!decide (D.a=(-1))))))),(7,(Pv y3 0)),(8,(Pv y4 0)),(9,w5),(10,w14),(11,(Iv aQ)),(13,(Pv b25 0)),(32,vp2),(33,(Iv (p2.length:Int))),(34,(Iv aU))] a∧Hp Z ρy1 (Pt b25 (.cells #[(Iv D.a),(Iv D.b)] 46 (0,0))::aC 46 w14 dS::aC 4 w5 fK::Pt y4 (.cells #[yv1,yv2,yv3] 75 (0,0))::Pt y3 (.cells #[yv4,yv5,yv6] 75 (0,0))::Pt b2 (.cells #[(Iv H.kind),(.string H.text),(Iv H.at_),(Iv H.fin),aJ] 24 (0,0))::Pt b1 (.cells #[(Iv I.kind),(.string I.text),(Iv I.at_),(Iv I.fin),aI] 24 (0,0))::L) w) ?_ ?_
    ·rcases vA ((!((decide (aU<(m.nodes.length:Int)))==(decide (0≤D.a))))||((decide (0≤D.a))&&(!decide (D.a=aU)))) with n|n
     ·
      refine Gk A n O fun a A=>Gk A n O fun a A=>Gk A n O fun a A=>Gk A n O fun a A=>?_
      refine vG (wk3 A O O O) O O A ?_
      intro a A
      refine vG (wk3 A O O O) O O A ?_
      intro a A
      refine vG (wk3 A O O O) O O A ?_
      intro a A
      refine Gk A n O fun a A=>pk1 A n O O O O fun a A=>?_
      have A:=A.eqv (v':=(.bool (((!((decide (aU<(m.nodes.length:Int)))==(decide (0≤D.a))))||((decide (0≤D.a))&&(!decide (D.a=aU))))||((decide (D.a<0))&&(!decide (D.a=(-1))))))) (by rw[n];rfl)
      exact aB ⟨A.cut ⟨O,O,O,O,O,O,O,O,O,O,tv⟩,B⟩
     refine G A B n O (xf A fV O O) fun a A=>G A B n O (xl A aW 0 O O O O) fun a A=>Gs A n O O fun a A=>Gs A n O O fun a A=>?_
     refine jI [_,_,_,_] (fun a w=>Env 174 [(67,(.bool ((decide (D.a<0))&&(!decide (D.a=(-1)))))),(7,(Pv y3 0)),(8,(Pv y4 0)),(9,w5),(10,w14),(11,(Iv aQ)),(13,(Pv b25 0)),(32,vp2),(33,(Iv (p2.length:Int))),(34,(Iv aU)),(59,(.bool ((!((decide (aU<(m.nodes.length:Int)))==(decide (0≤D.a))))||((decide (0≤D.a))&&(!decide (D.a=aU)))))),(60,(Pv b25 0)),(61,(Iv D.a)),(62,(.bool (decide (D.a<0)))),(63,(.bool (decide (D.a<0))))] a∧Hp Z ρy1 (Pt b25 (.cells #[(Iv D.a),(Iv D.b)] 46 (0,0))::aC 46 w14 dS::aC 4 w5 fK::Pt y4 (.cells #[yv1,yv2,yv3] 75 (0,0))::Pt y3 (.cells #[yv4,yv5,yv6] 75 (0,0))::Pt b2 (.cells #[(Iv H.kind),(.string H.text),(Iv H.at_),(Iv H.fin),aJ] 24 (0,0))::Pt b1 (.cells #[(Iv I.kind),(.string I.text),(Iv I.at_),(Iv I.fin),aI] 24 (0,0))::L) w) ?_ ?_
     ·rcases vA (decide (D.a<0)) with hc7|hc7
      ·
       refine G A B hc7 O (xf A fV O O) fun a A=>G A B hc7 O (xl A aW 0 O O O O) fun a A=>Gs A hc7 O O fun a A=>G A B n O (jM O A O hc7 O) fun a A=>?_
       have A:=A.eqv (v':=(.bool ((decide (D.a<0))&&(!decide (D.a=(-1)))))) (by rw[hc7];rfl)
       exact aB ⟨A.cut ⟨O,O,O,O,O,O,O,O,O,O,O,O,O,O,O,tv⟩,B⟩
      refine Gk A hc7 O fun a A=>Gk A hc7 O fun a A=>Gk A hc7 O fun a A=>G A B n O (iV O A O hc7 O) fun a A=>?_
      have A:=A.eqv (v':=(.bool ((decide (D.a<0))&&(!decide (D.a=(-1)))))) (by rw[hc7];rfl)
      exact aB ⟨A.cut ⟨O,O,O,O,O,O,O,O,O,O,O,O,O,O,O,tv⟩,B⟩
     rintro a w ⟨A,B⟩
     refine pk0 A n O O O O fun a A=>?_
     have A:=A.eqv (v':=(.bool (((!((decide (aU<(m.nodes.length:Int)))==(decide (0≤D.a))))||((decide (0≤D.a))&&(!decide (D.a=aU))))||((decide (D.a<0))&&(!decide (D.a=(-1))))))) (by rw[n];rfl)
     exact aB ⟨A.cut ⟨O,O,O,O,O,O,O,O,O,O,tv⟩,B⟩
    rintro a w ⟨A,B⟩
    refine S A 1 O fun a A=>?_
    refine jI [_,_,_,_] (fun a w=>Env 174 [(73,(.bool ((((!((decide (aU<(m.nodes.length:Int)))==(decide (0≤D.a))))||((decide (0≤D.a))&&(!decide (D.a=aU))))||((decide (D.a<0))&&(!decide (D.a=(-1)))))||(decide (D.b<(-1)))))),(7,(Pv y3 0)),(8,(Pv y4 0)),(9,w5),(10,w14),(11,(Iv aQ)),(13,(Pv b25 0)),(32,vp2),(33,(Iv (p2.length:Int))),(34,(Iv aU))] a∧Hp Z ρy1 (Pt b25 (.cells #[(Iv D.a),(Iv D.b)] 46 (0,0))::aC 46 w14 dS::aC 4 w5 fK::Pt y4 (.cells #[yv1,yv2,yv3] 75 (0,0))::Pt y3 (.cells #[yv4,yv5,yv6] 75 (0,0))::Pt b2 (.cells #[(Iv H.kind),(.string H.text),(Iv H.at_),(Iv H.fin),aJ] 24 (0,0))::Pt b1 (.cells #[(Iv I.kind),(.string I.text),(Iv I.at_),(Iv I.fin),aI] 24 (0,0))::L) w) ?_ ?_
    ·rcases vA (((!((decide (aU<(m.nodes.length:Int)))==(decide (0≤D.a))))||((decide (0≤D.a))&&(!decide (D.a=aU))))||((decide (D.a<0))&&(!decide (D.a=(-1))))) with hc8|hc8
     ·
      refine Gk A hc8 O fun a A=>Gk A hc8 O fun a A=>Gk A hc8 O fun a A=>pk1 A hc8 O O O O fun a A=>?_
      have A:=A.eqv (v':=(.bool ((((!((decide (aU<(m.nodes.length:Int)))==(decide (0≤D.a))))||((decide (0≤D.a))&&(!decide (D.a=aU))))||((decide (D.a<0))&&(!decide (D.a=(-1)))))||(decide (D.b<(-1)))))) (by rw[hc8];rfl)
      exact aB ⟨A.cut ⟨O,O,O,O,O,O,O,O,O,O,tv⟩,B⟩
     refine G A B hc8 O (xf A eF O O) fun a A=>G A B hc8 O (xl A aW 0 O O O O) fun a A=>Gs A hc8 O O fun a A=>pk0 A hc8 O O O O fun a A=>?_
     have A:=A.eqv (v':=(.bool ((((!((decide (aU<(m.nodes.length:Int)))==(decide (0≤D.a))))||((decide (0≤D.a))&&(!decide (D.a=aU))))||((decide (D.a<0))&&(!decide (D.a=(-1)))))||(decide (D.b<(-1)))))) (by rw[hc8];rfl)
     exact aB ⟨A.cut ⟨O,O,O,O,O,O,O,O,O,O,tv⟩,B⟩
    rintro a w ⟨A,B⟩
    refine S A 1 O fun a A=>?_
    refine jI [_,_,_,_,_,_] (fun a w=>Env 174 [(80,(.bool (((((!((decide (aU<(m.nodes.length:Int)))==(decide (0≤D.a))))||((decide (0≤D.a))&&(!decide (D.a=aU))))||((decide (D.a<0))&&(!decide (D.a=(-1)))))||(decide (D.b<(-1))))||(decide ((fK.length:Int)≤D.b))))),(7,(Pv y3 0)),(8,(Pv y4 0)),(9,w5),(10,w14),(11,(Iv aQ)),(13,(Pv b25 0)),(32,vp2),(33,(Iv (p2.length:Int))),(34,(Iv aU))] a∧Hp Z ρy1 (Pt b25 (.cells #[(Iv D.a),(Iv D.b)] 46 (0,0))::aC 46 w14 dS::aC 4 w5 fK::Pt y4 (.cells #[yv1,yv2,yv3] 75 (0,0))::Pt y3 (.cells #[yv4,yv5,yv6] 75 (0,0))::Pt b2 (.cells #[(Iv H.kind),(.string H.text),(Iv H.at_),(Iv H.fin),aJ] 24 (0,0))::Pt b1 (.cells #[(Iv I.kind),(.string I.text),(Iv I.at_),(Iv I.fin),aI] 24 (0,0))::L) w) ?_ ?_
    ·rcases vA ((((!((decide (aU<(m.nodes.length:Int)))==(decide (0≤D.a))))||((decide (0≤D.a))&&(!decide (D.a=aU))))||((decide (D.a<0))&&(!decide (D.a=(-1)))))||(decide (D.b<(-1)))) with t|t
     ·
      refine Gk A t O fun a A=>Gk A t O fun a A=>Gk A t O fun a A=>Gk A t O fun a A=>Gk A t O fun a A=>pk1 A t O O O O fun a A=>?_
      have A:=A.eqv (v':=(.bool (((((!((decide (aU<(m.nodes.length:Int)))==(decide (0≤D.a))))||((decide (0≤D.a))&&(!decide (D.a=aU))))||((decide (D.a<0))&&(!decide (D.a=(-1)))))||(decide (D.b<(-1))))||(decide ((fK.length:Int)≤D.b))))) (by rw[t];rfl)
      exact aB ⟨A.cut ⟨O,O,O,O,O,O,O,O,O,O,tv⟩,B⟩
     refine G A B t O (xf A eF O O) fun a A=>G A B t O (xl A aW 0 O O O O) fun a A=>Gs A t O O fun a A=>G A B t O (bW O A O (aC.len B 2 O yY)) fun a A=>Gs A t O O fun a A=>pk0 A t O O O O fun a A=>?_
     have A:=A.eqv (v':=(.bool (((((!((decide (aU<(m.nodes.length:Int)))==(decide (0≤D.a))))||((decide (0≤D.a))&&(!decide (D.a=aU))))||((decide (D.a<0))&&(!decide (D.a=(-1)))))||(decide (D.b<(-1))))||(decide ((fK.length:Int)≤D.b))))) (by rw[t];rfl)
     exact aB ⟨A.cut ⟨O,O,O,O,O,O,O,O,O,O,tv⟩,B⟩
    rintro a w ⟨A,B⟩
    refine S A 1 O fun a A=>?_
    refine jI [_,_,_,_,_,_,_,_,_,_] (fun a w=>Env 174 [(91,(.bool ((((((!((decide (aU<(m.nodes.length:Int)))==(decide (0≤D.a))))||((decide (0≤D.a))&&(!decide (D.a=aU))))||((decide (D.a<0))&&(!decide (D.a=(-1)))))||(decide (D.b<(-1))))||(decide ((fK.length:Int)≤D.b)))||((decide (D.a<0))&&(decide (D.b≤aQ)))))),(7,(Pv y3 0)),(8,(Pv y4 0)),(9,w5),(10,w14),(11,(Iv aQ)),(13,(Pv b25 0)),(32,vp2),(33,(Iv (p2.length:Int))),(34,(Iv aU))] a∧Hp Z ρy1 (Pt b25 (.cells #[(Iv D.a),(Iv D.b)] 46 (0,0))::aC 46 w14 dS::aC 4 w5 fK::Pt y4 (.cells #[yv1,yv2,yv3] 75 (0,0))::Pt y3 (.cells #[yv4,yv5,yv6] 75 (0,0))::Pt b2 (.cells #[(Iv H.kind),(.string H.text),(Iv H.at_),(Iv H.fin),aJ] 24 (0,0))::Pt b1 (.cells #[(Iv I.kind),(.string I.text),(Iv I.at_),(Iv I.fin),aI] 24 (0,0))::L) w) ?_ ?_
    ·rcases vA (((((!((decide (aU<(m.nodes.length:Int)))==(decide (0≤D.a))))||((decide (0≤D.a))&&(!decide (D.a=aU))))||((decide (D.a<0))&&(!decide (D.a=(-1)))))||(decide (D.b<(-1))))||(decide ((fK.length:Int)≤D.b))) with hc10|hc10
     ·
      refine Gk A hc10 O fun a A=>Gk A hc10 O fun a A=>Gk A hc10 O fun a A=>Gk A hc10 O fun a A=>?_
      refine vG (wk3 A O O O) O O A ?_
      intro a A
      refine vG (wk3 A O O O) O O A ?_
      intro a A
      refine vG (wk3 A O O O) O O A ?_
      intro a A
      refine vG (wk3 A O O O) O O A ?_
      intro a A
      refine Gk A hc10 O fun a A=>pk1 A hc10 O O O O fun a A=>?_
      have A:=A.eqv (v':=(.bool ((((((!((decide (aU<(m.nodes.length:Int)))==(decide (0≤D.a))))||((decide (0≤D.a))&&(!decide (D.a=aU))))||((decide (D.a<0))&&(!decide (D.a=(-1)))))||(decide (D.b<(-1))))||(decide ((fK.length:Int)≤D.b)))||((decide (D.a<0))&&(decide (D.b≤aQ)))))) (by rw[hc10];rfl)
      exact aB ⟨A.cut ⟨O,O,O,O,O,O,O,O,O,O,tv⟩,B⟩
     refine G A B hc10 O (xf A fV O O) fun a A=>G A B hc10 O (xl A aW 0 O O O O) fun a A=>Gs A hc10 O O fun a A=>Gs A hc10 O O fun a A=>?_
     refine jI [_,_,_,_,_] (fun a w=>Env 174 [(90,(.bool ((decide (D.a<0))&&(decide (D.b≤aQ))))),(7,(Pv y3 0)),(8,(Pv y4 0)),(9,w5),(10,w14),(11,(Iv aQ)),(13,(Pv b25 0)),(32,vp2),(33,(Iv (p2.length:Int))),(34,(Iv aU)),(81,(.bool (((((!((decide (aU<(m.nodes.length:Int)))==(decide (0≤D.a))))||((decide (0≤D.a))&&(!decide (D.a=aU))))||((decide (D.a<0))&&(!decide (D.a=(-1)))))||(decide (D.b<(-1))))||(decide ((fK.length:Int)≤D.b))))),(82,(Pv b25 0)),(83,(Iv D.a)),(84,(.bool (decide (D.a<0)))),(85,(.bool (decide (D.a<0))))] a∧Hp Z ρy1 (Pt b25 (.cells #[(Iv D.a),(Iv D.b)] 46 (0,0))::aC 46 w14 dS::aC 4 w5 fK::Pt y4 (.cells #[yv1,yv2,yv3] 75 (0,0))::Pt y3 (.cells #[yv4,yv5,yv6] 75 (0,0))::Pt b2 (.cells #[(Iv H.kind),(.string H.text),(Iv H.at_),(Iv H.fin),aJ] 24 (0,0))::Pt b1 (.cells #[(Iv I.kind),(.string I.text),(Iv I.at_),(Iv I.fin),aI] 24 (0,0))::L) w) ?_ ?_
     ·rcases vA (decide (D.a<0)) with hc11|hc11
      ·
       refine G A B hc11 O (xf A eF O O) fun a A=>G A B hc11 O (xl A aW 0 O O O O) fun a A=>Gs A hc11 O O fun a A=>Gs A hc11 O O fun a A=>G A B hc10 O (jM O A O hc11 O) fun a A=>?_
       have A:=A.eqv (v':=(.bool ((decide (D.a<0))&&(decide (D.b≤aQ))))) (by rw[hc11];rfl)
       exact aB ⟨A.cut ⟨O,O,O,O,O,O,O,O,O,O,O,O,O,O,O,tv⟩,B⟩
      refine Gk A hc11 O fun a A=>Gk A hc11 O fun a A=>Gk A hc11 O fun a A=>Gk A hc11 O fun a A=>G A B hc10 O (iV O A O hc11 O) fun a A=>?_
      have A:=A.eqv (v':=(.bool ((decide (D.a<0))&&(decide (D.b≤aQ))))) (by rw[hc11];rfl)
      exact aB ⟨A.cut ⟨O,O,O,O,O,O,O,O,O,O,O,O,O,O,O,tv⟩,B⟩
     rintro a w ⟨A,B⟩
     refine pk0 A hc10 O O O O fun a A=>?_
     have A:=A.eqv (v':=(.bool ((((((!((decide (aU<(m.nodes.length:Int)))==(decide (0≤D.a))))||((decide (0≤D.a))&&(!decide (D.a=aU))))||((decide (D.a<0))&&(!decide (D.a=(-1)))))||(decide (D.b<(-1))))||(decide ((fK.length:Int)≤D.b)))||((decide (D.a<0))&&(decide (D.b≤aQ)))))) (by rw[hc10];rfl)
     exact aB ⟨A.cut ⟨O,O,O,O,O,O,O,O,O,O,tv⟩,B⟩
    rintro a w ⟨A,B⟩
    refine aB ?_
    refine dK A O (fun hc12=>?_) (fun hc12=>?_)
    ·replace hj1:=(it hc12).symm.trans hj1
     refine aG (aA ?_)
     refine S A 1 O fun a A=>aB (cZ ?_)
     obtain rfl:=oj hj1
     refine⟨_,(oj q).symm,fun hb=>?_⟩
     subst hb
     obtain rfl:=oj hm
     exact gY A O O ⟨_,O,O,((((((((((((((B.get 6 O).drop).get 5 O).drop).get 4 O).drop).get 3 O).drop).get 2 O).drop).get 1 O).drop).drop).less hley1)⟩
    replace hj1:=(ie hc12).symm.trans hj1
    refine bI (aG ?_)
    refine aG (aA ?_)
    refine V A B O (xf A fV O O) fun a A=>V A B O (xl A aW 0 O O O O) fun a A=>S A 1 O fun a A=>aB ?_
    obtain⟨j2,hj2,hj1⟩:=bnd hj1
    refine aJ9 (fun a w=>Env 174 [(7,(Pv y3 0)),(8,(Pv y4 0)),(9,w5),(10,w14),(11,(Iv j2)),(13,(Pv b25 0)),(32,vp2),(33,(Iv (p2.length:Int))),(34,(Iv aU))] a∧Hp Z ρy1 (Pt b25 (.cells #[(Iv D.a),(Iv D.b)] 46 (0,0))::aC 46 w14 dS::aC 4 w5 fK::Pt y4 (.cells #[yv1,yv2,yv3] 75 (0,0))::Pt y3 (.cells #[yv4,yv5,yv6] 75 (0,0))::Pt b2 (.cells #[(Iv H.kind),(.string H.text),(Iv H.at_),(Iv H.fin),aJ] 24 (0,0))::Pt b1 (.cells #[(Iv I.kind),(.string I.text),(Iv I.at_),(Iv I.fin),aI] 24 (0,0))::L) w) ?_ ?_
    ·
     refine dK A O (fun hc13=>?_) (fun hc13=>?_)
     ·replace hj2:=(it hc13).symm.trans hj2
      refine aA (V A B O (xf A eF O O) fun a A=>?_)
      refine V A B O (xl A aW 0 O O O O) fun a A=>S A 1 O fun a A=>aB ?_
      obtain rfl:=oj hj2
      exact⟨A.cut ⟨O,O,O,O,O,O,O,O,O,tv⟩,B⟩
     replace hj2:=(ie hc13).symm.trans hj2
     refine bI ?_
     obtain rfl:=oj hj2
     exact⟨A.cut ⟨O,O,O,O,O,O,O,O,O,tv⟩,B⟩
    rintro a w ⟨A,B⟩
    refine aG (aG ?_)
    refine aA (V A B O (xf A eF O O) fun a A=>?_)
    refine V A B O (xl A aW 0 O O O O) fun a A=>S A 1 O fun a A=>aB ?_
    refine dK A O (fun hc14=>?_) (fun hc14=>?_)
    ·replace hj1:=(it hc14).symm.trans hj1
     refine dZ ?_
     obtain rfl:=oj hj1
     exact⟨_,O,_,_,A.cut ⟨O,O,O,O,O,O,O,O,tv⟩,(B.drop)⟩
    replace hj1:=(ie hc14).symm.trans hj1
    refine bI (aG ?_)
    refine aG (aA ?_)
    refine S A 1 O fun a A=>V A B O (xf A eF O O) fun a A=>V A B O (xl A aW 0 O O O O) fun a A=>?_
    obtain⟨x5,ex5,hj1⟩:=bnd hj1
    obtain⟨b26,b26o,b26r,b26v,b26f⟩:=aC.at B 2 O yY ex5
    refine V A B O (aO O A O O b26r) fun a A=>V A B O (aK O A O (fun w x=>aZ N8 (b26f 0 _ O _ _ w (x.get 2 O)))) fun a A=>aB ?_
    have A:=A.cut (E':=[(7,(Pv y3 0)),(8,(Pv y4 0)),(9,w5),(10,w14),(11,(Iv j2)),(13,(Pv b25 0)),(32,vp2),(33,(Iv (p2.length:Int))),(34,(Iv aU)),(104,(.bool x5))]) ⟨O,O,O,O,O,O,O,O,O,O,tv⟩
    refine dK A O (fun hc15=>?_) (fun hc15=>?_)
    ·replace hj1:=(it hc15).symm.trans hj1
     refine aG (aA ?_)
     refine S A 1 O fun a A=>aB (cZ ?_)
     obtain rfl:=oj hj1
     refine⟨_,(oj q).symm,fun hb=>?_⟩
     subst hb
     obtain rfl:=oj hm
     exact gY A O O ⟨_,O,O,((((((((((((((B.get 6 O).drop).get 5 O).drop).get 4 O).drop).get 3 O).drop).get 2 O).drop).get 1 O).drop).drop).less hley1)⟩
    replace hj1:=(ie hc15).symm.trans hj1
    refine bI (aG ?_)
    refine aA (S A 1 O fun a A=>?_)
    refine V A B O (xf A eF O O) fun a A=>V A B O (xl A aW 0 O O O O) fun a A=>?_
    obtain⟨x6,ex6,hj1⟩:=bnd hj1
    obtain⟨b27,b27o,b27r,b27v,b27f⟩:=aC.at B 2 O yY ex6
    refine V A B O (aO O A O O b27r) fun a A=>?_
    refine V7 (wk0 O) O A B O O O 2 O ex6 b27v 0 (e':=true) N8.size_ O O O ⟨O,O⟩ ?_
    intro w B
    have B:=r7 B
    refine aB (aG ?_)
    refine aA (V A B O (xf A fV O O) fun a A=>?_)
    refine V A B O (xl A aW 0 O O O O) fun a A=>S A 1 O fun a A=>aB ?_
    refine dK A O (fun hc16=>?_) (fun hc16=>?_)
    ·replace hj1:=(it hc16).symm.trans hj1
     refine aA (S A 1 O fun a A=>?_)
     refine V A B O (aK O A O (fun w x=>aX (cs:=[(Iv D.a),(Iv D.b)]) fH (Hp.cN 0 O 0 _ (aS O) w x))) fun a A=>?_
     refine fU (wk0 O) O O A B O [(0,(.agg #[(Iv D.a),(Iv D.b)]))] ⟨⟨O,O⟩,tv⟩ [(Iv D.a),(Iv D.b)] 46 (fun w=>by simp[Instr.buildSlice,Instr.fill,Value.cells,go_sem]) ?_
     intro a w b28 A B
     have B:=r8 B
     obtain⟨x7,ex7,hj1⟩:=bnd hj1
     refine gB (wk0 O) O O A B O fE O O 2 O O (l2:=[D]) O (fun j u hj=>by have:=Hp.cN 0 O 0 _ (aS O) w B j u hj;simpa using this) ex7 ?_
     intro v2 a w A B
     have B:=r8 B
     refine S A 1 O fun a A=>aB ?_
     obtain rfl:=oj hj1
     exact⟨_,O,_,_,A.cut ⟨O,O,O,O,O,O,O,O,tv⟩,(((B.get 1 O).drop).drop)⟩
    replace hj1:=(ie hc16).symm.trans hj1
    refine bI ?_
    obtain rfl:=oj hj1
    exact⟨_,O,_,_,A.cut ⟨O,O,O,O,O,O,O,O,tv⟩,(B.drop)⟩
   rintro a w ⟨j1s,rfl,w14,w5,A,B⟩
   dsimp only at q
   refine aA ?_
   obtain⟨x8,ex8,q⟩:=bnd q
   refine V A B O (bF O A O O (aN ex8)) fun a A=>S A 1 O fun a A=>aB ?_
   have A:=A.cut (E':=[(7,(Pv y3 0)),(8,(Pv y4 0)),(9,w5),(10,w14),(11,(Iv j1s.1)),(32,vp2),(33,(Iv (p2.length:Int))),(34,(Iv x8))]) ⟨O,O,O,O,O,O,O,O,tv⟩
   exact⟨_,(oj q).symm,_,_,A.cut ⟨O,O,O,O,O,O,O,O,tv⟩,B⟩
  replace q:=(ie hc3).symm.trans q
  refine dZ ?_
  refine⟨_,(oj q).symm,fun hbb=>?_⟩
  exact⟨_,hbb.symm,_,_,A.cut ⟨O,O,O,O,tv⟩,B⟩
 rintro a w ⟨b23s,rfl,w14,w5,A,B⟩
 dsimp only at hm
 refine aG (aG ?_)
 refine aA (S A 1 O fun a A=>?_)
 refine V A B O (bW O A O (aC.len B 0 O fE)) fun a A=>S A 1 O fun a A=>aB ?_
 obtain⟨b29,hc17,hm⟩:=bnd hm
 refine dM (fun a w=>∃s:Unit,b29= .brk s∧(Env 174 [(9,w5)] a∧Hp Z ρy1 (aC 46 w14 b23s.1::aC 4 w5 b23s.2::Pt y4 (.cells #[yv1,yv2,yv3] 75 (0,0))::Pt y3 (.cells #[yv4,yv5,yv6] 75 (0,0))::Pt b2 (.cells #[(Iv H.kind),(.string H.text),(Iv H.at_),(Iv H.fin),aJ] 24 (0,0))::Pt b1 (.cells #[(Iv I.kind),(.string I.text),(Iv I.at_),(Iv I.fin),aI] 24 (0,0))::L) w)) ?_ ?_
 ·refine eQ hc17 (fun s a w=>Env 174 [(7,(Pv y3 0)),(8,(Pv y4 0)),(9,w5),(10,w14),(117,w14),(118,(Iv (b23s.1.length:Int))),(119,(Iv s))] a∧Hp Z ρy1 (aC 46 w14 b23s.1::aC 4 w5 b23s.2::Pt y4 (.cells #[yv1,yv2,yv3] 75 (0,0))::Pt y3 (.cells #[yv4,yv5,yv6] 75 (0,0))::Pt b2 (.cells #[(Iv H.kind),(.string H.text),(Iv H.at_),(Iv H.fin),aJ] 24 (0,0))::Pt b1 (.cells #[(Iv I.kind),(.string I.text),(Iv I.at_),(Iv I.fin),aI] 24 (0,0))::L) w) ?_ ?_
  ·exact⟨A.cut ⟨O,O,O,O,O,O,O,tv⟩,B⟩
  rintro bP st a w ⟨A,B⟩ l
  unfold pI at l
  refine aG (aA ?_)
  refine S A 1 O fun a A=>aB (aG ?_)
  refine dK A O (fun hc18=>?_) (fun hc18=>?_)
  ·replace l:=(it hc18).symm.trans l
   refine bI (aG ?_)
   refine dN (aG ?_)
   refine aA (S A 1 O fun a A=>?_)
   obtain⟨x9,ex9,l⟩:=bnd l
   obtain⟨b30,b30o,b30r,b30v,b30f⟩:=aC.at B 0 O fE ex9
   refine V A B O (aO O A O O b30r) fun a A=>V A B O (aK O A O (fun w x=>aX (cs:=[(Iv x9.a),(Iv x9.b)]) fH (fun j u hj=>b30f j u hj _ _ w (x.get 0 O)))) fun a A=>?_
   refine dF (wk0 O) O O A B O [(Iv 0),(Iv 0)] (fun w=>by simp[Instr.alloc,go_sem]<;>rfl) ?_
   intro a w b31 A B
   have B:=r7 B
   refine S A 1 O fun a A=>?_
   refine aV (wk0 O) O A B O O O 0 O fH.size_ O (aP ⟨O,O,tv⟩) [(Iv x9.a),(Iv x9.b)] O ?_
   intro w B
   have B:=r7 B
   refine aB (aG ?_)
   refine aA (S A 2 O fun a A=>?_)
   obtain⟨x10,ex10,l⟩:=bnd l
   obtain⟨v3,v3r,v3f⟩:=aC.viewF B 1 O fE none (some (.i64,bP)) O O ex10
   refine V A B O (v:=v3) (rX O A O none (some (.i64,bP)) (by exact trivial) (by exact O) v3r) fun a A=>V A B O (bW O A O (ViewF.len v3f B 1 O fE)) fun a A=>S A 1 O fun a A=>aB ?_
   have A:=A.cut (E':=[(7,(Pv y3 0)),(8,(Pv y4 0)),(9,w5),(10,w14),(15,(Pv b31 0)),(117,w14),(118,(Iv (b23s.1.length:Int))),(119,(Iv bP)),(126,v3),(127,(Iv (x10.length:Int))),(128,(Iv 0))]) ⟨O,O,O,O,O,O,O,O,O,O,O,tv⟩
   obtain⟨b32,hc19,l⟩:=bnd l
   refine dM (fun a w=>∃s:Unit,b32= .brk s∧(Env 174 [(7,(Pv y3 0)),(8,(Pv y4 0)),(9,w5),(10,w14),(117,w14),(118,(Iv (b23s.1.length:Int))),(119,(Iv bP))] a∧Hp Z ρy1 (Pt b31 (.cells #[(Iv x9.a),(Iv x9.b)] 46 (0,0))::aC 46 w14 b23s.1::aC 4 w5 b23s.2::Pt y4 (.cells #[yv1,yv2,yv3] 75 (0,0))::Pt y3 (.cells #[yv4,yv5,yv6] 75 (0,0))::Pt b2 (.cells #[(Iv H.kind),(.string H.text),(Iv H.at_),(Iv H.fin),aJ] 24 (0,0))::Pt b1 (.cells #[(Iv I.kind),(.string I.text),(Iv I.at_),(Iv I.fin),aI] 24 (0,0))::L) w)) ?_ ?_
   ·refine eQ hc19 (fun s a w=>Env 174 [(7,(Pv y3 0)),(8,(Pv y4 0)),(9,w5),(10,w14),(15,(Pv b31 0)),(117,w14),(118,(Iv (b23s.1.length:Int))),(119,(Iv bP)),(126,v3),(127,(Iv (x10.length:Int))),(128,(Iv s))] a∧Hp Z ρy1 (Pt b31 (.cells #[(Iv x9.a),(Iv x9.b)] 46 (0,0))::aC 46 w14 b23s.1::aC 4 w5 b23s.2::Pt y4 (.cells #[yv1,yv2,yv3] 75 (0,0))::Pt y3 (.cells #[yv4,yv5,yv6] 75 (0,0))::Pt b2 (.cells #[(Iv H.kind),(.string H.text),(Iv H.at_),(Iv H.fin),aJ] 24 (0,0))::Pt b1 (.cells #[(Iv I.kind),(.string I.text),(Iv I.at_),(Iv I.fin),aI] 24 (0,0))::L) w) ?_ ?_
    ·exact⟨A.cut ⟨O,O,O,O,O,O,O,O,O,O,O,tv⟩,B⟩
    rintro dR st a w ⟨A,B⟩ k
    unfold uM at k
    refine aG (aA ?_)
    refine S A 1 O fun a A=>aB (aG ?_)
    refine dK A O (fun hc20=>?_) (fun hc20=>?_)
    ·replace k:=(it hc20).symm.trans k
     refine bI (aG ?_)
     refine dN (aG ?_)
     refine aA ?_
     obtain⟨y,ex11,k⟩:=bnd k
     obtain⟨b33,b33o,b33r,b33f⟩:=ViewF.at v3f B 1 O fE ex11
     refine V A B O (aO O A O O b33r) fun a A=>V A B O (aK O A O (fun w x=>aX (cs:=[(Iv y.a),(Iv y.b)]) fH (fun j u hj=>b33f j u hj _ _ w (x.get 1 O)))) fun a A=>?_
     refine dF (wk0 O) O O A B O [(Iv 0),(Iv 0)] (fun w=>by simp[Instr.alloc,go_sem]<;>rfl) ?_
     intro a w b34 A B
     have B:=r8 B
     refine aV (wk0 O) O A B O O O 0 O fH.size_ O (aP ⟨O,O,tv⟩) [(Iv y.a),(Iv y.b)] O ?_
     intro w B
     have B:=r8 B
     refine aB (aG ?_)
     refine jU kr kr B ?_
     refine Vq A O (xf A eF O O) fun a A=>Vq A O (xl A aW 0 O O O O) fun a A=>Vq A O (xf A eF O O) fun a A=>Vq A O (xl A aW 1 O O O O) fun a A=>Sq A 2 O fun a A=>?_
     obtain⟨m1,hg1,k⟩:=bnd k
     refine q_cut [_,_,_,_,_,_,_,_] (fun a=>Env 174 [(145,(.bool m1)),(7,(Pv y3 0)),(8,(Pv y4 0)),(9,w5),(10,w14),(15,(Pv b31 0)),(17,(Pv b34 0)),(117,w14),(118,(Iv (b23s.1.length:Int))),(119,(Iv bP)),(126,v3),(127,(Iv (x10.length:Int))),(128,(Iv dR))] a) ?_ ?_
     ·rcases vA (decide (x9.b<y.b)) with hc21|hc21
      ·
       replace hg1:=(it hc21).symm.trans hg1
       refine Gq A hc21 O (aK O A O (fun w x=>aX (cs:=[yv1,yv2,yv3]) dG (Hp.cN 4 O 0 _ (aS O) w x))) fun a A=>Gq A hc21 O (xf A eF O O) fun a A=>Gq A hc21 O (xl A aW 1 O O O O) fun a A=>Gq A hc21 O (xf A eF O O) fun a A=>Gq A hc21 O (xl A aW 0 O O O O) fun a A=>?_
       obtain⟨x12,ex12,hg1⟩:=bnd hg1
       refine aE8 (wk1 A O O O hc21) O O A O [(.agg #[yv1,yv2,yv3]),(Iv x9.b),(Iv y.b)] ⟨O,O,O,tv⟩ ent45 (v:=(.bool x12)) (fun w x=>Calls.mono (lN x2 yv1 yh1 yv2 yh2 yv3 yh3 x9.b y.b x x12 ex12) fun e w' ⟨v,he,hv,hh⟩=>⟨by rw[he,hv],hh⟩) ?_
       intro a A
       refine Gq A hc21 O (ex_not O A O) fun a A=>Vq A O (v:=(.bool (!x12))) (jM O A O hc21 O) fun a A=>?_
       obtain rfl:=oj hg1
       exact jQ (A.cut ⟨O,O,O,O,O,O,O,O,O,O,O,O,O,tv⟩)
      replace hg1:=(ie hc21).symm.trans hg1
      refine Gkq A hc21 O fun a A=>Gkq A hc21 O fun a A=>Gkq A hc21 O fun a A=>Gkq A hc21 O fun a A=>Gkq A hc21 O fun a A=>Gkq A hc21 O fun a A=>Gkq A hc21 O fun a A=>?_
      refine Vq A O (v:=(.bool false)) (iV O A O hc21 O) fun a A=>?_
      obtain rfl:=oj hg1
      exact jQ (A.cut ⟨O,O,O,O,O,O,O,O,O,O,O,O,O,tv⟩)
     intro a A
     refine Sq A 1 O fun a A=>?_
     obtain⟨m2,hg2,k⟩:=bnd k
     refine q_cut [_,_,_,_,_,_,_,_,_,_,_,_,_,_] (fun a=>Env 174 [(160,(.bool m2)),(7,(Pv y3 0)),(8,(Pv y4 0)),(9,w5),(10,w14),(15,(Pv b31 0)),(17,(Pv b34 0)),(117,w14),(118,(Iv (b23s.1.length:Int))),(119,(Iv bP)),(126,v3),(127,(Iv (x10.length:Int))),(128,(Iv dR))] a) ?_ ?_
     ·rcases vA m1 with hc22|hc22
      ·
       replace hg2:=(it hc22).symm.trans hg2
       refine Gkq A hc22 O fun a A=>Gkq A hc22 O fun a A=>Gkq A hc22 O fun a A=>Gkq A hc22 O fun a A=>Gkq A hc22 O fun a A=>Gkq A hc22 O fun a A=>Gkq A hc22 O fun a A=>Gkq A hc22 O fun a A=>Gkq A hc22 O fun a A=>Gkq A hc22 O fun a A=>Gkq A hc22 O fun a A=>Gkq A hc22 O fun a A=>Gkq A hc22 O fun a A=>?_
       refine Vq A O (v:=(.bool true)) (jM O A O hc22 O) fun a A=>?_
       obtain rfl:=oj hg2
       exact jQ (A.cut ⟨O,O,O,O,O,O,O,O,O,O,O,O,O,tv⟩)
      replace hg2:=(ie hc22).symm.trans hg2
      refine Gq A hc22 O (aK O A O (fun w x=>aX (cs:=[yv4,yv5,yv6]) dG (Hp.cN 5 O 0 _ (aS O) w x))) fun a A=>Gq A hc22 O (xf A fV O O) fun a A=>Gq A hc22 O (xl A aW 0 O O O O) fun a A=>Gq A hc22 O (xf A fV O O) fun a A=>Gq A hc22 O (xl A aW 1 O O O O) fun a A=>?_
      obtain⟨x13,ex13,hg2⟩:=bnd hg2
      refine aE8 (wk1 A O O O hc22) O O A O [(.agg #[yv4,yv5,yv6]),(Iv y.a),(Iv x9.a)] ⟨O,O,O,tv⟩ ent45 (v:=(.bool x13)) (fun w x=>Calls.mono (lN m yv4 yh4 yv5 yh5 yv6 yh6 y.a x9.a x x13 ex13) fun e w' ⟨v,he,hv,hh⟩=>⟨by rw[he,hv],hh⟩) ?_
      intro a A
      refine Gq A hc22 O (aK O A O (fun w x=>aX (cs:=[yv1,yv2,yv3]) dG (Hp.cN 4 O 0 _ (aS O) w x))) fun a A=>Gq A hc22 O (xf A eF O O) fun a A=>Gq A hc22 O (xl A aW 0 O O O O) fun a A=>Gq A hc22 O (xf A eF O O) fun a A=>Gq A hc22 O (xl A aW 1 O O O O) fun a A=>?_
      obtain⟨x14,ex14,hg2⟩:=bnd hg2
      refine aE8 (wk1 A O O O hc22) O O A O [(.agg #[yv1,yv2,yv3]),(Iv y.b),(Iv x9.b)] ⟨O,O,O,tv⟩ ent45 (v:=(.bool x14)) (fun w x=>Calls.mono (lN x2 yv1 yh1 yv2 yh2 yv3 yh3 y.b x9.b x x14 ex14) fun e w' ⟨v,he,hv,hh⟩=>⟨by rw[he,hv],hh⟩) ?_
      intro a A
      refine Gq A hc22 O (v:=(.bool (!(x13==x14)))) (ex_bneq bty4 O A O O) fun a A=>Vq A O (v:=(.bool (!(x13==x14)))) (iV O A O hc22 O) fun a A=>?_
      obtain rfl:=oj hg2
      exact jQ (A.cut ⟨O,O,O,O,O,O,O,O,O,O,O,O,O,tv⟩)
     intro a A
     refine Sq A 1 O fun a A=>?_
     obtain⟨m3,hg3,k⟩:=bnd k
     refine q_cut [_,_,_,_,_,_,_] (fun a=>Env 174 [(168,(.bool m3)),(7,(Pv y3 0)),(8,(Pv y4 0)),(9,w5),(10,w14),(15,(Pv b31 0)),(117,w14),(118,(Iv (b23s.1.length:Int))),(119,(Iv bP)),(126,v3),(127,(Iv (x10.length:Int))),(128,(Iv dR))] a) ?_ ?_
     ·rcases vA m2 with hc23|hc23
      ·
       replace hg3:=(it hc23).symm.trans hg3
       refine Gkq A hc23 O fun a A=>Gkq A hc23 O fun a A=>Gkq A hc23 O fun a A=>Gkq A hc23 O fun a A=>Gkq A hc23 O fun a A=>Gkq A hc23 O fun a A=>?_
       refine Vq A O (v:=(.bool true)) (jM O A O hc23 O) fun a A=>?_
       obtain rfl:=oj hg3
       exact jQ (A.cut ⟨O,O,O,O,O,O,O,O,O,O,O,O,tv⟩)
      replace hg3:=(ie hc23).symm.trans hg3
      refine Gq A hc23 O (aK O A O (fun w x=>aX (cs:=[yv1,yv2,yv3]) dG (Hp.cN 4 O 0 _ (aS O) w x))) fun a A=>Gq A hc23 O (xf A eF O O) fun a A=>Gq A hc23 O (xl A aW 1 O O O O) fun a A=>Gq A hc23 O (xf A eF O O) fun a A=>Gq A hc23 O (xl A aW 0 O O O O) fun a A=>?_
      obtain⟨x15,ex15,hg3⟩:=bnd hg3
      refine aE8 (wk1 A O O O hc23) O O A O [(.agg #[yv1,yv2,yv3]),(Iv x9.b),(Iv y.b)] ⟨O,O,O,tv⟩ ent45 (v:=(.bool x15)) (fun w x=>Calls.mono (lN x2 yv1 yh1 yv2 yh2 yv3 yh3 x9.b y.b x x15 ex15) fun e w' ⟨v,he,hv,hh⟩=>⟨by rw[he,hv],hh⟩) ?_
      intro a A
      refine Vq A O (v:=(.bool x15)) (iV O A O hc23 O) fun a A=>?_
      obtain rfl:=oj hg3
      exact jQ (A.cut ⟨O,O,O,O,O,O,O,O,O,O,O,O,tv⟩)
     intro a A
     refine jQ fun w B=>?_
     have B:=r8 B
     refine dK A O (fun hc24=>?_) (fun hc24=>?_)
     ·replace k:=(it hc24).symm.trans k
      refine aG (aA ?_)
      refine S A 1 O fun a A=>aB (cZ ?_)
      refine⟨_,(oj k).symm,fun hb=>?_⟩
      subst hb
      refine⟨_,(oj l).symm,fun hb=>?_⟩
      subst hb
      obtain rfl:=oj hm
      exact gY A O O ⟨_,O,O,((((((((((((((((B.get 7 O).drop).get 6 O).drop).get 5 O).drop).get 4 O).drop).get 3 O).drop).get 2 O).drop).get 1 O).drop).drop).less hley1)⟩
     replace k:=(ie hc24).symm.trans k
     refine bI (aA ?_)
     obtain⟨x16,ex16,k⟩:=bnd k
     refine V A B O (bF O A O O (aN ex16)) fun a A=>S A 1 O fun a A=>aB ?_
     exact⟨_,(oj k).symm,A.cut ⟨O,O,O,O,O,O,O,O,O,O,O,tv⟩,(B.drop)⟩
    replace k:=(ie hc20).symm.trans k
    refine dZ ?_
    refine⟨_,(oj k).symm,fun hbb=>?_⟩
    exact⟨_,hbb.symm,A.cut ⟨O,O,O,O,O,O,O,tv⟩,B⟩
   rintro a w ⟨b32s,rfl,A,B⟩
   dsimp only at l
   refine aA ?_
   obtain⟨x17,ex17,l⟩:=bnd l
   refine V A B O (bF O A O O (aN ex17)) fun a A=>S A 1 O fun a A=>aB ?_
   exact⟨_,(oj l).symm,A.cut ⟨O,O,O,O,O,O,O,tv⟩,(B.drop)⟩
  replace l:=(ie hc18).symm.trans l
  refine dZ ?_
  refine⟨_,(oj l).symm,fun hbb=>?_⟩
  exact⟨_,hbb.symm,A.cut ⟨O,tv⟩,B⟩
 rintro a w ⟨b29s,rfl,A,B⟩
 dsimp only at hm
 refine aG (aA ?_)
 refine S A 1 O fun a A=>?_
 obtain⟨k1,k1a,k1d,k1h⟩:=(B.get 1 O).lend
 obtain⟨x18,ex18,hm⟩:=bnd hm
 refine Cl A O O ent46 (V3 b23s.2 w5 (aC.ro k1d k1a) false k1h x18 ex18) ⟨O,O,tv⟩ fun v a w p A=>?_
 obtain⟨rfl,B⟩:=p
 have B:=Hp.back k1a k1d B
 have B:=r6 B
 refine S A 2 O fun a A=>aB (cZ ?_)
 obtain rfl:=oj hm
 exact gY A O O ⟨_,O,O,((((((((((((B.get 5 O).drop).get 4 O).drop).get 3 O).drop).get 2 O).drop).get 1 O).drop).drop).less hley1)⟩
theorem aQ6 {Z:World} {ρ:PH} {L:List bQ} {w:World} (i:Node) (aI:Value) (aY:aH ρ aI i.kids) (c:Node) (aJ:Value) (bG:aH ρ aJ c.kids) (p2:(List Opn)) (vp2:Value) (hp2:aH ρ vp2 p2) (A:Hp Z ρ (L) w) (r:(Int×Int)) (p:zI i c p2=some r):
  Calls Tryz.prog 15 #[(.agg #[(Iv i.kind),(.string i.text),(Iv i.at_),(Iv i.fin),aI]),(.agg #[(Iv c.kind),(.string c.text),(Iv c.at_),(Iv c.fin),aJ]),vp2] w (Ret fun v w'=>v= .tuple #[(Iv r.1),(Iv r.2)]∧Hp Z ρ (L) w'):=by
 refine enter (N:=56) Tryz.func15 O O [(0,(.agg #[(Iv i.kind),(.string i.text),(Iv i.at_),(Iv i.fin),aI])),(1,(.agg #[(Iv c.kind),(.string c.text),(Iv c.at_),(Iv c.fin),aJ])),(2,vp2)] O (bH ⟨O,O,O,tv⟩) fun a B=>?_
 unfold zI at p
 refine aG (aA ?_)
 refine iH (wk0 O) O O B A O (v:=(.agg #[(Iv i.kind),(.string i.text),(Iv i.at_),(Iv i.fin),aI])) O ?_
 intro a w b1 B A
 have A:=r1 A
 refine iH (wk0 O) O O B A O (v:=(.agg #[(Iv c.kind),(.string c.text),(Iv c.at_),(Iv c.fin),aJ])) O ?_
 intro a w b2 B A
 have A:=r2 A
 refine S B 2 O fun a B=>aB (aG ?_)
 refine aG (aA ?_)
 refine V B A O (aK O B O (fun w o=>aX (cs:=[(Iv i.kind),(.string i.text),(Iv i.at_),(Iv i.fin),aI]) cO (Hp.cN 1 O 0 _ (aS O) w o))) fun a B=>V B A O (aK O B O (fun w o=>aX (cs:=[(Iv c.kind),(.string c.text),(Iv c.at_),(Iv c.fin),aJ]) cO (Hp.cN 0 O 0 _ (aS O) w o))) fun a B=>S B 1 O fun a B=>?_
 obtain⟨x1,ex1,p⟩:=bnd p
 refine Cl B O O ent17 (aE0 i aI aY c aJ bG p2 vp2 hp2 A x1 ex1) ⟨O,O,O,tv⟩ fun v a w k B=>?_
 obtain⟨rfl,A⟩:=k
 have A:=r2 A
 refine S B 1 O fun a B=>aB ?_
 refine dK B O (fun hc1=>?_) (fun hc1=>?_)
 ·replace p:=(it hc1).symm.trans p
  refine aG (aA ?_)
  refine S B 2 O fun a B=>aB (cZ ?_)
  obtain rfl:=oj p
  exact N7 B O O O ⟨_,O,O,(((A.get 1 O).drop).drop)⟩
 replace p:=(ie hc1).symm.trans p
 refine bI (aG ?_)
 obtain⟨z,y,p⟩:=bnd p
 obtain⟨q,m,p⟩:=bnd p
 have A:=A.drew
 refine gK ([([],At0 Z ρ),([],At1 Z ρ (Pt b2 (.cells #[(Iv c.kind),(.string c.text),(Iv c.at_),(Iv c.fin),aJ] 24 (0,0)))),([],At1 Z ρ (Pt b1 (.cells #[(Iv i.kind),(.string i.text),(Iv i.at_),(Iv i.fin),aI] 24 (0,0))))]:Facts) (fun a w=>∃ρy1:PH,∃y4:Nat,∃y3:Nat,∃yv1:Value,∃yv2:Value,∃yv3:Value,∃yv4:Value,∃yv5:Value,∃yv6:Value,ρ.le ρy1∧aH ρy1 yv1 q.nodes∧aH ρy1 yv2 q.sizes∧aH ρy1 yv3 q.parent∧aH ρy1 yv4 z.nodes∧aH ρy1 yv5 z.sizes∧aH ρy1 yv6 z.parent∧Env 56 [(2,vp2),(8,(Pv y3 0)),(9,(Pv y4 0)),(10,(Iv 0))] a∧Hp Z ρy1 (Pt y4 (.cells #[yv1,yv2,yv3] 75 (0,0))::Pt y3 (.cells #[yv4,yv5,yv6] 75 (0,0))::Pt b2 (.cells #[(Iv c.kind),(.string c.text),(Iv c.at_),(Iv c.fin),aJ] 24 (0,0))::Pt b1 (.cells #[(Iv i.kind),(.string i.text),(Iv i.at_),(Iv i.fin),aI] 24 (0,0))::L) w) kr ⟨fun _=>⟨_,A⟩,fun _=>⟨_,(A.get 0 O)⟩,fun _=>⟨_,(A.get 1 O)⟩,tv⟩ (fun G=>?_) ?_
 ·
  generalize w.drew=w at G A⊢
  refine T 0 2 B G O O O kr (fun _=>aK O B O (fun w o=>aX (cs:=[(Iv i.kind),(.string i.text),(Iv i.at_),(Iv i.fin),aI]) cO (Hp.cN 0 O 0 _ (aS O) w o))) fun a B G=>T 2 1 B G O O O kr (fun _=>aK O B O (fun w o=>aX (cs:=[(Iv c.kind),(.string c.text),(Iv c.at_),(Iv c.fin),aJ]) cO (Hp.cN 0 O 0 _ (aS O) w o))) fun a B G=>?_
  refine fQ [1,4,5] kr O ?_
  refine uE.2 ⟨?_,uE.2 ⟨?_,uE.2 ⟨?_,fun _ h=>absurd h (by simp)⟩⟩⟩
  ·
   refine dV O ?_
   refine Cl B O O kL (bJ i aI aY A z y) ⟨O,tv⟩ fun v a w k B=>?_
   obtain⟨ρ3,qE,qF,nI,C,rfl,gZ,iC,fJ,A⟩:=k
   have A:=r2 A
   refine aB (aF ⟨fun _=>⟨_,(A.less C)⟩,fun _=>⟨_,((A.get 0 O).less C)⟩,fun _=>⟨_,((A.get 1 O).less C)⟩,tv⟩ fun G=>?_)
   refine fQ [3,4,5] kr O ?_
   refine uE.2 ⟨?_,uE.2 ⟨?_,uE.2 ⟨?_,fun _ h=>absurd h (by simp)⟩⟩⟩
   ·
    refine dV O ?_
    refine Cl B O O kL (bJ c aJ (aH.mono bG C) A q m) ⟨O,tv⟩ fun v a w k B=>?_
    obtain⟨ρ4,wF,wG,tY,E,rfl,qV,qW,oG,A⟩:=k
    have A:=r2 A
    refine aB (aF ⟨fun _=>⟨_,((A.less E).less C)⟩,fun _=>⟨_,(((A.get 0 O).less E).less C)⟩,fun _=>⟨_,(((A.get 1 O).less E).less C)⟩,tv⟩ fun G=>?_)
    refine fQ [4,5] kr O ?_
    refine uE.2 ⟨?_,uE.2 ⟨?_,fun _ h=>absurd h (by simp)⟩⟩
    ·
     refine dV O ?_
     refine dF (wk0 O) O O B A O [N0,N0,N0] (fun w=>by simp[Instr.alloc,go_sem]<;>rfl) ?_
     intro a w b5 B A
     have A:=r3 A
     refine aB (aF ⟨fun _=>⟨_,((A.less E).less C)⟩,fun _=>⟨_,(((A.get 1 O).less E).less C)⟩,fun _=>⟨_,(((A.get 2 O).less E).less C)⟩,tv⟩ fun G=>?_)
     refine W1 5 kr O ?_
     refine dF (wk0 O) O O B A O [N0,N0,N0] (fun w=>by simp[Instr.alloc,go_sem]<;>rfl) ?_
     intro a w b6 B A
     have A:=r4 A
     refine aB (aF ⟨fun _=>⟨_,((A.less E).less C)⟩,fun _=>⟨_,(((A.get 2 O).less E).less C)⟩,fun _=>⟨_,(((A.get 3 O).less E).less C)⟩,tv⟩ fun G=>?_)
     refine W1 6 kr O ?_
     refine aV (wk0 O) O B A O O O 1 O dG.size_ O (aP ⟨(aH.one (aH.mono gZ E)),(aH.one (aH.mono iC E)),(aH.one (aH.mono fJ E)),tv⟩) [qE,qF,nI] O ?_
     intro w A
     have A:=r4 A
     refine aB (aF ⟨fun _=>⟨_,((A.less E).less C)⟩,fun _=>⟨_,(((A.get 2 O).less E).less C)⟩,fun _=>⟨_,(((A.get 3 O).less E).less C)⟩,tv⟩ fun G=>?_)
     refine W1 7 kr O ?_
     refine aV (wk0 O) O B A O O O 0 O dG.size_ O (aP ⟨(aH.one qV),(aH.one qW),(aH.one oG),tv⟩) [wF,wG,tY] O ?_
     intro w A
     have A:=r4 A
     refine aB (aF ⟨fun _=>⟨_,((A.less E).less C)⟩,fun _=>⟨_,(((A.get 2 O).less E).less C)⟩,fun _=>⟨_,(((A.get 3 O).less E).less C)⟩,tv⟩ fun G=>?_)
     refine Ts [8] B G O O kr fun a B G=>?_
     exact bT kr ⟨ρ4,_,_,_,_,_,_,_,_,(PH.le.tr C E),qV,qW,oG,(aH.mono gZ E),(aH.mono iC E),(aH.mono fJ E),B.cut ⟨O,O,O,O,tv⟩,A⟩
    refine dV O ?_
    refine dF (wk0 O) O O B A O [N0,N0,N0] (fun w=>by simp[Instr.alloc,go_sem]<;>rfl) ?_
    intro a w b7 B A
    have A:=r3 A
    refine aB (aF ⟨fun _=>⟨_,((A.less E).less C)⟩,fun _=>⟨_,(((A.get 1 O).less E).less C)⟩,fun _=>⟨_,(((A.get 2 O).less E).less C)⟩,tv⟩ fun G=>?_)
    refine W1 4 kr O ?_
    refine dF (wk0 O) O O B A O [N0,N0,N0] (fun w=>by simp[Instr.alloc,go_sem]<;>rfl) ?_
    intro a w b8 B A
    have A:=r4 A
    refine aB (aF ⟨fun _=>⟨_,((A.less E).less C)⟩,fun _=>⟨_,(((A.get 2 O).less E).less C)⟩,fun _=>⟨_,(((A.get 3 O).less E).less C)⟩,tv⟩ fun G=>?_)
    refine W1 6 kr O ?_
    refine aV (wk0 O) O B A O O O 0 O dG.size_ O (aP ⟨(aH.one (aH.mono gZ E)),(aH.one (aH.mono iC E)),(aH.one (aH.mono fJ E)),tv⟩) [qE,qF,nI] O ?_
    intro w A
    have A:=r4 A
    refine aB (aF ⟨fun _=>⟨_,((A.less E).less C)⟩,fun _=>⟨_,(((A.get 2 O).less E).less C)⟩,fun _=>⟨_,(((A.get 3 O).less E).less C)⟩,tv⟩ fun G=>?_)
    refine W1 7 kr O ?_
    refine aV (wk0 O) O B A O O O 1 O dG.size_ O (aP ⟨(aH.one qV),(aH.one qW),(aH.one oG),tv⟩) [wF,wG,tY] O ?_
    intro w A
    have A:=r4 A
    refine aB (aF ⟨fun _=>⟨_,((A.less E).less C)⟩,fun _=>⟨_,(((A.get 2 O).less E).less C)⟩,fun _=>⟨_,(((A.get 3 O).less E).less C)⟩,tv⟩ fun G=>?_)
    refine Ts [8] B G O O kr fun a B G=>?_
    exact bT kr ⟨ρ4,_,_,_,_,_,_,_,_,(PH.le.tr C E),qV,qW,oG,(aH.mono gZ E),(aH.mono iC E),(aH.mono fJ E),B.cut ⟨O,O,O,O,tv⟩,((((A.get 3 O).get 3 O).get 2 O).get 3 O)⟩
   ·
    refine dV O ?_
    refine dF (wk0 O) O O B A O [N0,N0,N0] (fun w=>by simp[Instr.alloc,go_sem]<;>rfl) ?_
    intro a w b9 B A
    have A:=r3 A
    refine aB (aF ⟨fun _=>⟨_,(A.less C)⟩,fun _=>⟨_,((A.get 1 O).less C)⟩,fun _=>⟨_,((A.get 2 O).less C)⟩,tv⟩ fun G=>?_)
    refine fQ [3,5] kr O ?_
    refine uE.2 ⟨?_,uE.2 ⟨?_,fun _ h=>absurd h (by simp)⟩⟩
    ·
     refine dV O ?_
     refine Cl B O O kL (bJ c aJ (aH.mono bG C) A q m) ⟨O,tv⟩ fun v a w k B=>?_
     obtain⟨ρ5,zK,zL,wW,W,rfl,vO,vP,tN,A⟩:=k
     have A:=r3 A
     refine aB (aF ⟨fun _=>⟨_,((A.less W).less C)⟩,fun _=>⟨_,(((A.get 1 O).less W).less C)⟩,fun _=>⟨_,(((A.get 2 O).less W).less C)⟩,tv⟩ fun G=>?_)
     refine W1 5 kr O ?_
     refine dF (wk0 O) O O B A O [N0,N0,N0] (fun w=>by simp[Instr.alloc,go_sem]<;>rfl) ?_
     intro a w b10 B A
     have A:=r4 A
     refine aB (aF ⟨fun _=>⟨_,((A.less W).less C)⟩,fun _=>⟨_,(((A.get 2 O).less W).less C)⟩,fun _=>⟨_,(((A.get 3 O).less W).less C)⟩,tv⟩ fun G=>?_)
     refine W1 6 kr O ?_
     refine aV (wk0 O) O B A O O O 1 O dG.size_ O (aP ⟨(aH.one (aH.mono gZ W)),(aH.one (aH.mono iC W)),(aH.one (aH.mono fJ W)),tv⟩) [qE,qF,nI] O ?_
     intro w A
     have A:=r4 A
     refine aB (aF ⟨fun _=>⟨_,((A.less W).less C)⟩,fun _=>⟨_,(((A.get 2 O).less W).less C)⟩,fun _=>⟨_,(((A.get 3 O).less W).less C)⟩,tv⟩ fun G=>?_)
     refine W1 7 kr O ?_
     refine aV (wk0 O) O B A O O O 0 O dG.size_ O (aP ⟨(aH.one vO),(aH.one vP),(aH.one tN),tv⟩) [zK,zL,wW] O ?_
     intro w A
     have A:=r4 A
     refine aB (aF ⟨fun _=>⟨_,((A.less W).less C)⟩,fun _=>⟨_,(((A.get 2 O).less W).less C)⟩,fun _=>⟨_,(((A.get 3 O).less W).less C)⟩,tv⟩ fun G=>?_)
     refine Ts [8] B G O O kr fun a B G=>?_
     exact bT kr ⟨ρ5,_,_,_,_,_,_,_,_,(PH.le.tr C W),vO,vP,tN,(aH.mono gZ W),(aH.mono iC W),(aH.mono fJ W),B.cut ⟨O,O,O,O,tv⟩,A⟩
    refine dV O ?_
    refine dF (wk0 O) O O B A O [N0,N0,N0] (fun w=>by simp[Instr.alloc,go_sem]<;>rfl) ?_
    intro a w b11 B A
    have A:=r4 A
    refine aB (aF ⟨fun _=>⟨_,(A.less C)⟩,fun _=>⟨_,((A.get 2 O).less C)⟩,fun _=>⟨_,((A.get 3 O).less C)⟩,tv⟩ fun G=>?_)
    refine W1 3 kr O ?_
    refine Cl B O O kL (bJ c aJ (aH.mono bG C) A q m) ⟨O,tv⟩ fun v a w k B=>?_
    obtain⟨ρ6,aG9,aH0,aC4,f,rfl,D9,E5,yT,A⟩:=k
    have A:=r4 A
    refine aB (aF ⟨fun _=>⟨_,((A.less f).less C)⟩,fun _=>⟨_,(((A.get 2 O).less f).less C)⟩,fun _=>⟨_,(((A.get 3 O).less f).less C)⟩,tv⟩ fun G=>?_)
    refine W1 6 kr O ?_
    refine aV (wk0 O) O B A O O O 1 O dG.size_ O (aP ⟨(aH.one (aH.mono gZ f)),(aH.one (aH.mono iC f)),(aH.one (aH.mono fJ f)),tv⟩) [qE,qF,nI] O ?_
    intro w A
    have A:=r4 A
    refine aB (aF ⟨fun _=>⟨_,((A.less f).less C)⟩,fun _=>⟨_,(((A.get 2 O).less f).less C)⟩,fun _=>⟨_,(((A.get 3 O).less f).less C)⟩,tv⟩ fun G=>?_)
    refine W1 7 kr O ?_
    refine aV (wk0 O) O B A O O O 0 O dG.size_ O (aP ⟨(aH.one D9),(aH.one E5),(aH.one yT),tv⟩) [aG9,aH0,aC4] O ?_
    intro w A
    have A:=r4 A
    refine aB (aF ⟨fun _=>⟨_,((A.less f).less C)⟩,fun _=>⟨_,(((A.get 2 O).less f).less C)⟩,fun _=>⟨_,(((A.get 3 O).less f).less C)⟩,tv⟩ fun G=>?_)
    refine Ts [8] B G O O kr fun a B G=>?_
    exact bT kr ⟨ρ6,_,_,_,_,_,_,_,_,(PH.le.tr C f),D9,E5,yT,(aH.mono gZ f),(aH.mono iC f),(aH.mono fJ f),B.cut ⟨O,O,O,O,tv⟩,A⟩
   refine dV O ?_
   refine dF (wk0 O) O O B A O [N0,N0,N0] (fun w=>by simp[Instr.alloc,go_sem]<;>rfl) ?_
   intro a w b12 B A
   have A:=r3 A
   refine aB (aF ⟨fun _=>⟨_,(A.less C)⟩,fun _=>⟨_,((A.get 1 O).less C)⟩,fun _=>⟨_,((A.get 2 O).less C)⟩,tv⟩ fun G=>?_)
   refine fQ [3,4] kr O ?_
   refine uE.2 ⟨?_,uE.2 ⟨?_,fun _ h=>absurd h (by simp)⟩⟩
   ·
    refine dV O ?_
    refine Cl B O O kL (bJ c aJ (aH.mono bG C) A q m) ⟨O,tv⟩ fun v a w k B=>?_
    obtain⟨ρ7,aH1,aH2,aC5,U,rfl,E8,F5,yU,A⟩:=k
    have A:=r3 A
    refine aB (aF ⟨fun _=>⟨_,((A.less U).less C)⟩,fun _=>⟨_,(((A.get 1 O).less U).less C)⟩,fun _=>⟨_,(((A.get 2 O).less U).less C)⟩,tv⟩ fun G=>?_)
    refine W1 4 kr O ?_
    refine dF (wk0 O) O O B A O [N0,N0,N0] (fun w=>by simp[Instr.alloc,go_sem]<;>rfl) ?_
    intro a w b13 B A
    have A:=r4 A
    refine aB (aF ⟨fun _=>⟨_,((A.less U).less C)⟩,fun _=>⟨_,(((A.get 2 O).less U).less C)⟩,fun _=>⟨_,(((A.get 3 O).less U).less C)⟩,tv⟩ fun G=>?_)
    refine W1 6 kr O ?_
    refine aV (wk0 O) O B A O O O 0 O dG.size_ O (aP ⟨(aH.one (aH.mono gZ U)),(aH.one (aH.mono iC U)),(aH.one (aH.mono fJ U)),tv⟩) [qE,qF,nI] O ?_
    intro w A
    have A:=r4 A
    refine aB (aF ⟨fun _=>⟨_,((A.less U).less C)⟩,fun _=>⟨_,(((A.get 2 O).less U).less C)⟩,fun _=>⟨_,(((A.get 3 O).less U).less C)⟩,tv⟩ fun G=>?_)
    refine W1 7 kr O ?_
    refine aV (wk0 O) O B A O O O 1 O dG.size_ O (aP ⟨(aH.one E8),(aH.one F5),(aH.one yU),tv⟩) [aH1,aH2,aC5] O ?_
    intro w A
    have A:=r4 A
    refine aB (aF ⟨fun _=>⟨_,((A.less U).less C)⟩,fun _=>⟨_,(((A.get 2 O).less U).less C)⟩,fun _=>⟨_,(((A.get 3 O).less U).less C)⟩,tv⟩ fun G=>?_)
    refine Ts [8] B G O O kr fun a B G=>?_
    exact bT kr ⟨ρ7,_,_,_,_,_,_,_,_,(PH.le.tr C U),E8,F5,yU,(aH.mono gZ U),(aH.mono iC U),(aH.mono fJ U),B.cut ⟨O,O,O,O,tv⟩,((((A.get 3 O).get 3 O).get 2 O).get 3 O)⟩
   refine dV O ?_
   refine dF (wk0 O) O O B A O [N0,N0,N0] (fun w=>by simp[Instr.alloc,go_sem]<;>rfl) ?_
   intro a w b14 B A
   have A:=r4 A
   refine aB (aF ⟨fun _=>⟨_,(A.less C)⟩,fun _=>⟨_,((A.get 2 O).less C)⟩,fun _=>⟨_,((A.get 3 O).less C)⟩,tv⟩ fun G=>?_)
   refine W1 3 kr O ?_
   refine Cl B O O kL (bJ c aJ (aH.mono bG C) A q m) ⟨O,tv⟩ fun v a w k B=>?_
   obtain⟨ρ8,Y9,Z4,O4,d,rfl,xG,xH,uX,A⟩:=k
   have A:=r4 A
   refine aB (aF ⟨fun _=>⟨_,((A.less d).less C)⟩,fun _=>⟨_,(((A.get 2 O).less d).less C)⟩,fun _=>⟨_,(((A.get 3 O).less d).less C)⟩,tv⟩ fun G=>?_)
   refine W1 6 kr O ?_
   refine aV (wk0 O) O B A O O O 0 O dG.size_ O (aP ⟨(aH.one (aH.mono gZ d)),(aH.one (aH.mono iC d)),(aH.one (aH.mono fJ d)),tv⟩) [qE,qF,nI] O ?_
   intro w A
   have A:=r4 A
   refine aB (aF ⟨fun _=>⟨_,((A.less d).less C)⟩,fun _=>⟨_,(((A.get 2 O).less d).less C)⟩,fun _=>⟨_,(((A.get 3 O).less d).less C)⟩,tv⟩ fun G=>?_)
   refine W1 7 kr O ?_
   refine aV (wk0 O) O B A O O O 1 O dG.size_ O (aP ⟨(aH.one xG),(aH.one xH),(aH.one uX),tv⟩) [Y9,Z4,O4] O ?_
   intro w A
   have A:=r4 A
   refine aB (aF ⟨fun _=>⟨_,((A.less d).less C)⟩,fun _=>⟨_,(((A.get 2 O).less d).less C)⟩,fun _=>⟨_,(((A.get 3 O).less d).less C)⟩,tv⟩ fun G=>?_)
   refine Ts [8] B G O O kr fun a B G=>?_
   exact bT kr ⟨ρ8,_,_,_,_,_,_,_,_,(PH.le.tr C d),xG,xH,uX,(aH.mono gZ d),(aH.mono iC d),(aH.mono fJ d),B.cut ⟨O,O,O,O,tv⟩,((((A.get 3 O).get 3 O).get 2 O).get 3 O)⟩
  ·
   refine dV O ?_
   refine dF (wk0 O) O O B A O [N0,N0,N0] (fun w=>by simp[Instr.alloc,go_sem]<;>rfl) ?_
   intro a w b15 B A
   have A:=r3 A
   refine aB (aF ⟨gp0 A,gp 1 A O,gp 2 A O,tv⟩ fun G=>?_)
   refine fQ [1,5] kr O ?_
   refine uE.2 ⟨?_,uE.2 ⟨?_,fun _ h=>absurd h (by simp)⟩⟩
   ·
    refine dV O ?_
    refine Cl B O O kL (bJ i aI aY A z y) ⟨O,tv⟩ fun v a w k B=>?_
    obtain⟨ρ9,zZ,A8,yZ,F,rfl,sF,sG,qG,A⟩:=k
    have A:=r3 A
    refine aB (aF ⟨fun _=>⟨_,(A.less F)⟩,fun _=>⟨_,((A.get 1 O).less F)⟩,fun _=>⟨_,((A.get 2 O).less F)⟩,tv⟩ fun G=>?_)
    refine fQ [3,5] kr O ?_
    refine uE.2 ⟨?_,uE.2 ⟨?_,fun _ h=>absurd h (by simp)⟩⟩
    ·
     refine dV O ?_
     refine Cl B O O kL (bJ c aJ (aH.mono bG F) A q m) ⟨O,tv⟩ fun v a w k B=>?_
     obtain⟨ρ10,aB1,aB2,S9,I,rfl,yH,yI,wJ,A⟩:=k
     have A:=r3 A
     refine aB (aF ⟨fun _=>⟨_,((A.less I).less F)⟩,fun _=>⟨_,(((A.get 1 O).less I).less F)⟩,fun _=>⟨_,(((A.get 2 O).less I).less F)⟩,tv⟩ fun G=>?_)
     refine W1 5 kr O ?_
     refine dF (wk0 O) O O B A O [N0,N0,N0] (fun w=>by simp[Instr.alloc,go_sem]<;>rfl) ?_
     intro a w b16 B A
     have A:=r4 A
     refine aB (aF ⟨fun _=>⟨_,((A.less I).less F)⟩,fun _=>⟨_,(((A.get 2 O).less I).less F)⟩,fun _=>⟨_,(((A.get 3 O).less I).less F)⟩,tv⟩ fun G=>?_)
     refine W1 6 kr O ?_
     refine aV (wk0 O) O B A O O O 1 O dG.size_ O (aP ⟨(aH.one (aH.mono sF I)),(aH.one (aH.mono sG I)),(aH.one (aH.mono qG I)),tv⟩) [zZ,A8,yZ] O ?_
     intro w A
     have A:=r4 A
     refine aB (aF ⟨fun _=>⟨_,((A.less I).less F)⟩,fun _=>⟨_,(((A.get 2 O).less I).less F)⟩,fun _=>⟨_,(((A.get 3 O).less I).less F)⟩,tv⟩ fun G=>?_)
     refine W1 7 kr O ?_
     refine aV (wk0 O) O B A O O O 0 O dG.size_ O (aP ⟨(aH.one yH),(aH.one yI),(aH.one wJ),tv⟩) [aB1,aB2,S9] O ?_
     intro w A
     have A:=r4 A
     refine aB (aF ⟨fun _=>⟨_,((A.less I).less F)⟩,fun _=>⟨_,(((A.get 2 O).less I).less F)⟩,fun _=>⟨_,(((A.get 3 O).less I).less F)⟩,tv⟩ fun G=>?_)
     refine Ts [8] B G O O kr fun a B G=>?_
     exact bT kr ⟨ρ10,_,_,_,_,_,_,_,_,(PH.le.tr F I),yH,yI,wJ,(aH.mono sF I),(aH.mono sG I),(aH.mono qG I),B.cut ⟨O,O,O,O,tv⟩,A⟩
    refine dV O ?_
    refine dF (wk0 O) O O B A O [N0,N0,N0] (fun w=>by simp[Instr.alloc,go_sem]<;>rfl) ?_
    intro a w b17 B A
    have A:=r4 A
    refine aB (aF ⟨fun _=>⟨_,(A.less F)⟩,fun _=>⟨_,((A.get 2 O).less F)⟩,fun _=>⟨_,((A.get 3 O).less F)⟩,tv⟩ fun G=>?_)
    refine W1 3 kr O ?_
    refine Cl B O O kL (bJ c aJ (aH.mono bG F) A q m) ⟨O,tv⟩ fun v a w k B=>?_
    obtain⟨ρ11,aB3,aB4,U0,Q,rfl,yJ,yK,wK,A⟩:=k
    have A:=r4 A
    refine aB (aF ⟨fun _=>⟨_,((A.less Q).less F)⟩,fun _=>⟨_,(((A.get 2 O).less Q).less F)⟩,fun _=>⟨_,(((A.get 3 O).less Q).less F)⟩,tv⟩ fun G=>?_)
    refine W1 6 kr O ?_
    refine aV (wk0 O) O B A O O O 1 O dG.size_ O (aP ⟨(aH.one (aH.mono sF Q)),(aH.one (aH.mono sG Q)),(aH.one (aH.mono qG Q)),tv⟩) [zZ,A8,yZ] O ?_
    intro w A
    have A:=r4 A
    refine aB (aF ⟨fun _=>⟨_,((A.less Q).less F)⟩,fun _=>⟨_,(((A.get 2 O).less Q).less F)⟩,fun _=>⟨_,(((A.get 3 O).less Q).less F)⟩,tv⟩ fun G=>?_)
    refine W1 7 kr O ?_
    refine aV (wk0 O) O B A O O O 0 O dG.size_ O (aP ⟨(aH.one yJ),(aH.one yK),(aH.one wK),tv⟩) [aB3,aB4,U0] O ?_
    intro w A
    have A:=r4 A
    refine aB (aF ⟨fun _=>⟨_,((A.less Q).less F)⟩,fun _=>⟨_,(((A.get 2 O).less Q).less F)⟩,fun _=>⟨_,(((A.get 3 O).less Q).less F)⟩,tv⟩ fun G=>?_)
    refine Ts [8] B G O O kr fun a B G=>?_
    exact bT kr ⟨ρ11,_,_,_,_,_,_,_,_,(PH.le.tr F Q),yJ,yK,wK,(aH.mono sF Q),(aH.mono sG Q),(aH.mono qG Q),B.cut ⟨O,O,O,O,tv⟩,A⟩
   refine dV O ?_
   refine dF (wk0 O) O O B A O [N0,N0,N0] (fun w=>by simp[Instr.alloc,go_sem]<;>rfl) ?_
   intro a w b18 B A
   have A:=r4 A
   refine aB (aF ⟨gp0 A,gp 2 A O,gp 3 A O,tv⟩ fun G=>?_)
   refine W1 1 kr O ?_
   refine Cl B O O kL (bJ i aI aY A z y) ⟨O,tv⟩ fun v a w k B=>?_
   obtain⟨ρ12,aB5,aB6,U1,Y,rfl,yL,yM,wL,A⟩:=k
   have A:=r4 A
   refine aB (aF ⟨fun _=>⟨_,(A.less Y)⟩,fun _=>⟨_,((A.get 2 O).less Y)⟩,fun _=>⟨_,((A.get 3 O).less Y)⟩,tv⟩ fun G=>?_)
   refine W1 3 kr O ?_
   refine Cl B O O kL (bJ c aJ (aH.mono bG Y) A q m) ⟨O,tv⟩ fun v a w k B=>?_
   obtain⟨ρ13,N9,O0,F8,M,rfl,uU,uV,tH,A⟩:=k
   have A:=r4 A
   refine aB (aF ⟨fun _=>⟨_,((A.less M).less Y)⟩,fun _=>⟨_,(((A.get 2 O).less M).less Y)⟩,fun _=>⟨_,(((A.get 3 O).less M).less Y)⟩,tv⟩ fun G=>?_)
   refine W1 6 kr O ?_
   refine aV (wk0 O) O B A O O O 1 O dG.size_ O (aP ⟨(aH.one (aH.mono yL M)),(aH.one (aH.mono yM M)),(aH.one (aH.mono wL M)),tv⟩) [aB5,aB6,U1] O ?_
   intro w A
   have A:=r4 A
   refine aB (aF ⟨fun _=>⟨_,((A.less M).less Y)⟩,fun _=>⟨_,(((A.get 2 O).less M).less Y)⟩,fun _=>⟨_,(((A.get 3 O).less M).less Y)⟩,tv⟩ fun G=>?_)
   refine W1 7 kr O ?_
   refine aV (wk0 O) O B A O O O 0 O dG.size_ O (aP ⟨(aH.one uU),(aH.one uV),(aH.one tH),tv⟩) [N9,O0,F8] O ?_
   intro w A
   have A:=r4 A
   refine aB (aF ⟨fun _=>⟨_,((A.less M).less Y)⟩,fun _=>⟨_,(((A.get 2 O).less M).less Y)⟩,fun _=>⟨_,(((A.get 3 O).less M).less Y)⟩,tv⟩ fun G=>?_)
   refine Ts [8] B G O O kr fun a B G=>?_
   exact bT kr ⟨ρ13,_,_,_,_,_,_,_,_,(PH.le.tr Y M),uU,uV,tH,(aH.mono yL M),(aH.mono yM M),(aH.mono wL M),B.cut ⟨O,O,O,O,tv⟩,A⟩
  refine dV O ?_
  refine dF (wk0 O) O O B A O [N0,N0,N0] (fun w=>by simp[Instr.alloc,go_sem]<;>rfl) ?_
  intro a w b19 B A
  have A:=r3 A
  refine aB (aF ⟨gp0 A,gp 1 A O,gp 2 A O,tv⟩ fun G=>?_)
  refine fQ [1,4] kr O ?_
  refine uE.2 ⟨?_,uE.2 ⟨?_,fun _ h=>absurd h (by simp)⟩⟩
  ·
   refine dV O ?_
   refine Cl B O O kL (bJ i aI aY A z y) ⟨O,tv⟩ fun v a w k B=>?_
   obtain⟨ρ14,C9,D5,zA,D,rfl,sH,sJ,qH,A⟩:=k
   have A:=r3 A
   refine aB (aF ⟨fun _=>⟨_,(A.less D)⟩,fun _=>⟨_,((A.get 1 O).less D)⟩,fun _=>⟨_,((A.get 2 O).less D)⟩,tv⟩ fun G=>?_)
   refine fQ [3,4] kr O ?_
   refine uE.2 ⟨?_,uE.2 ⟨?_,fun _ h=>absurd h (by simp)⟩⟩
   ·
    refine dV O ?_
    refine Cl B O O kL (bJ c aJ (aH.mono bG D) A q m) ⟨O,tv⟩ fun v a w k B=>?_
    obtain⟨ρ15,aB7,aB8,U2,H,rfl,yN,yO,wM,A⟩:=k
    have A:=r3 A
    refine aB (aF ⟨fun _=>⟨_,((A.less H).less D)⟩,fun _=>⟨_,(((A.get 1 O).less H).less D)⟩,fun _=>⟨_,(((A.get 2 O).less H).less D)⟩,tv⟩ fun G=>?_)
    refine W1 4 kr O ?_
    refine dF (wk0 O) O O B A O [N0,N0,N0] (fun w=>by simp[Instr.alloc,go_sem]<;>rfl) ?_
    intro a w b20 B A
    have A:=r4 A
    refine aB (aF ⟨fun _=>⟨_,((A.less H).less D)⟩,fun _=>⟨_,(((A.get 2 O).less H).less D)⟩,fun _=>⟨_,(((A.get 3 O).less H).less D)⟩,tv⟩ fun G=>?_)
    refine W1 6 kr O ?_
    refine aV (wk0 O) O B A O O O 0 O dG.size_ O (aP ⟨(aH.one (aH.mono sH H)),(aH.one (aH.mono sJ H)),(aH.one (aH.mono qH H)),tv⟩) [C9,D5,zA] O ?_
    intro w A
    have A:=r4 A
    refine aB (aF ⟨fun _=>⟨_,((A.less H).less D)⟩,fun _=>⟨_,(((A.get 2 O).less H).less D)⟩,fun _=>⟨_,(((A.get 3 O).less H).less D)⟩,tv⟩ fun G=>?_)
    refine W1 7 kr O ?_
    refine aV (wk0 O) O B A O O O 1 O dG.size_ O (aP ⟨(aH.one yN),(aH.one yO),(aH.one wM),tv⟩) [aB7,aB8,U2] O ?_
    intro w A
    have A:=r4 A
    refine aB (aF ⟨fun _=>⟨_,((A.less H).less D)⟩,fun _=>⟨_,(((A.get 2 O).less H).less D)⟩,fun _=>⟨_,(((A.get 3 O).less H).less D)⟩,tv⟩ fun G=>?_)
    refine Ts [8] B G O O kr fun a B G=>?_
    exact bT kr ⟨ρ15,_,_,_,_,_,_,_,_,(PH.le.tr D H),yN,yO,wM,(aH.mono sH H),(aH.mono sJ H),(aH.mono qH H),B.cut ⟨O,O,O,O,tv⟩,((((A.get 3 O).get 3 O).get 2 O).get 3 O)⟩
   refine dV O ?_
   refine dF (wk0 O) O O B A O [N0,N0,N0] (fun w=>by simp[Instr.alloc,go_sem]<;>rfl) ?_
   intro a w b21 B A
   have A:=r4 A
   refine aB (aF ⟨fun _=>⟨_,(A.less D)⟩,fun _=>⟨_,((A.get 2 O).less D)⟩,fun _=>⟨_,((A.get 3 O).less D)⟩,tv⟩ fun G=>?_)
   refine W1 3 kr O ?_
   refine Cl B O O kL (bJ c aJ (aH.mono bG D) A q m) ⟨O,tv⟩ fun v a w k B=>?_
   obtain⟨ρ16,aB9,aC0,U3,K,rfl,yP,yQ,wO,A⟩:=k
   have A:=r4 A
   refine aB (aF ⟨fun _=>⟨_,((A.less K).less D)⟩,fun _=>⟨_,(((A.get 2 O).less K).less D)⟩,fun _=>⟨_,(((A.get 3 O).less K).less D)⟩,tv⟩ fun G=>?_)
   refine W1 6 kr O ?_
   refine aV (wk0 O) O B A O O O 0 O dG.size_ O (aP ⟨(aH.one (aH.mono sH K)),(aH.one (aH.mono sJ K)),(aH.one (aH.mono qH K)),tv⟩) [C9,D5,zA] O ?_
   intro w A
   have A:=r4 A
   refine aB (aF ⟨fun _=>⟨_,((A.less K).less D)⟩,fun _=>⟨_,(((A.get 2 O).less K).less D)⟩,fun _=>⟨_,(((A.get 3 O).less K).less D)⟩,tv⟩ fun G=>?_)
   refine W1 7 kr O ?_
   refine aV (wk0 O) O B A O O O 1 O dG.size_ O (aP ⟨(aH.one yP),(aH.one yQ),(aH.one wO),tv⟩) [aB9,aC0,U3] O ?_
   intro w A
   have A:=r4 A
   refine aB (aF ⟨fun _=>⟨_,((A.less K).less D)⟩,fun _=>⟨_,(((A.get 2 O).less K).less D)⟩,fun _=>⟨_,(((A.get 3 O).less K).less D)⟩,tv⟩ fun G=>?_)
   refine Ts [8] B G O O kr fun a B G=>?_
   exact bT kr ⟨ρ16,_,_,_,_,_,_,_,_,(PH.le.tr D K),yP,yQ,wO,(aH.mono sH K),(aH.mono sJ K),(aH.mono qH K),B.cut ⟨O,O,O,O,tv⟩,((((A.get 3 O).get 3 O).get 2 O).get 3 O)⟩
  refine dV O ?_
  refine dF (wk0 O) O O B A O [N0,N0,N0] (fun w=>by simp[Instr.alloc,go_sem]<;>rfl) ?_
  intro a w b22 B A
  have A:=r4 A
  refine aB (aF ⟨gp0 A,gp 2 A O,gp 3 A O,tv⟩ fun G=>?_)
  refine W1 1 kr O ?_
  refine Cl B O O kL (bJ i aI aY A z y) ⟨O,tv⟩ fun v a w k B=>?_
  obtain⟨ρ17,aC1,aC2,U4,X,rfl,yR,yS,wQ,A⟩:=k
  have A:=r4 A
  refine aB (aF ⟨fun _=>⟨_,(A.less X)⟩,fun _=>⟨_,((A.get 2 O).less X)⟩,fun _=>⟨_,((A.get 3 O).less X)⟩,tv⟩ fun G=>?_)
  refine W1 3 kr O ?_
  refine Cl B O O kL (bJ c aJ (aH.mono bG X) A q m) ⟨O,tv⟩ fun v a w k B=>?_
  obtain⟨ρ18,aQ3,aQ4,aM7,J,rfl,aA3,aA4,P7,A⟩:=k
  have A:=r4 A
  refine aB (aF ⟨fun _=>⟨_,((A.less J).less X)⟩,fun _=>⟨_,(((A.get 2 O).less J).less X)⟩,fun _=>⟨_,(((A.get 3 O).less J).less X)⟩,tv⟩ fun G=>?_)
  refine W1 6 kr O ?_
  refine aV (wk0 O) O B A O O O 0 O dG.size_ O (aP ⟨(aH.one (aH.mono yR J)),(aH.one (aH.mono yS J)),(aH.one (aH.mono wQ J)),tv⟩) [aC1,aC2,U4] O ?_
  intro w A
  have A:=r4 A
  refine aB (aF ⟨fun _=>⟨_,((A.less J).less X)⟩,fun _=>⟨_,(((A.get 2 O).less J).less X)⟩,fun _=>⟨_,(((A.get 3 O).less J).less X)⟩,tv⟩ fun G=>?_)
  refine W1 7 kr O ?_
  refine aV (wk0 O) O B A O O O 1 O dG.size_ O (aP ⟨(aH.one aA3),(aH.one aA4),(aH.one P7),tv⟩) [aQ3,aQ4,aM7] O ?_
  intro w A
  have A:=r4 A
  refine aB (aF ⟨fun _=>⟨_,((A.less J).less X)⟩,fun _=>⟨_,(((A.get 2 O).less J).less X)⟩,fun _=>⟨_,(((A.get 3 O).less J).less X)⟩,tv⟩ fun G=>?_)
  refine Ts [8] B G O O kr fun a B G=>?_
  exact bT kr ⟨ρ18,_,_,_,_,_,_,_,_,(PH.le.tr X J),aA3,aA4,P7,(aH.mono yR J),(aH.mono yS J),(aH.mono wQ J),B.cut ⟨O,O,O,O,tv⟩,((((A.get 3 O).get 3 O).get 2 O).get 3 O)⟩
 rintro a w ⟨ρy1,y4,y3,yv1,yv2,yv3,yv4,yv5,yv6,hley1,yh1,yh2,yh3,yh4,yh5,yh6,B,A⟩
 refine aG (aG ?_)
 refine aA (S B 1 O fun a B=>?_)
 refine V B A O (bW O B O (aH.len (aH.mono hp2 hley1) fE)) fun a B=>S B 1 O fun a B=>aB ?_
 obtain⟨b23,hc2,p⟩:=bnd p
 refine dM (fun a w=>Env 56 [(10,(Iv b23))] a∧Hp Z ρy1 (Pt y4 (.cells #[yv1,yv2,yv3] 75 (0,0))::Pt y3 (.cells #[yv4,yv5,yv6] 75 (0,0))::Pt b2 (.cells #[(Iv c.kind),(.string c.text),(Iv c.at_),(Iv c.fin),aJ] 24 (0,0))::Pt b1 (.cells #[(Iv i.kind),(.string i.text),(Iv i.at_),(Iv i.fin),aI] 24 (0,0))::L) w) ?_ ?_
 ·refine eQ hc2 (fun s a w=>Env 56 [(8,(Pv y3 0)),(9,(Pv y4 0)),(10,(Iv s.1)),(22,vp2),(23,(Iv (p2.length:Int))),(24,(Iv s.2))] a∧Hp Z ρy1 (Pt y4 (.cells #[yv1,yv2,yv3] 75 (0,0))::Pt y3 (.cells #[yv4,yv5,yv6] 75 (0,0))::Pt b2 (.cells #[(Iv c.kind),(.string c.text),(Iv c.at_),(Iv c.fin),aJ] 24 (0,0))::Pt b1 (.cells #[(Iv i.kind),(.string i.text),(Iv i.at_),(Iv i.fin),aI] 24 (0,0))::L) w) ?_ ?_
  ·exact⟨B.cut ⟨O,O,O,O,O,O,tv⟩,A⟩
  rintro⟨aQ,aU⟩ st a w ⟨B,A⟩ g
  dsimp only at B A g
  unfold vS at g
  refine aG (aA ?_)
  refine S B 1 O fun a B=>aB (aG ?_)
  refine dK B O (fun hc3=>?_) (fun hc3=>?_)
  ·replace g:=(it hc3).symm.trans g
   refine bI (aG ?_)
   refine dN (aG ?_)
   refine aA ?_
   obtain⟨n,ex4,g⟩:=bnd g
   obtain⟨b24,b24o,b24c,b24r,b24k,b24f⟩:=aH.at (aH.mono hp2 hley1) fE ex4
   obtain rfl:b24c=Enc.enc n:=b24k
   have b24f:AtP ρy1 b24 b24o [(Iv n.a),(Iv n.b)]:=b24f
   refine V B A O (aO O B O O b24r) fun a B=>V B A O (aK O B O (fun w o=>aX (cs:=[(Iv n.a),(Iv n.b)]) fH (fun j u hj=>cell_of o.le (b24f j u hj)))) fun a B=>?_
   refine dF (wk0 O) O O B A O [(Iv 0),(Iv 0)] (fun w=>by simp[Instr.alloc,go_sem]<;>rfl) ?_
   intro a w b25 B A
   have A:=r5 A
   refine aV (wk0 O) O B A O O O 0 O fH.size_ O (aP ⟨O,O,tv⟩) [(Iv n.a),(Iv n.b)] O ?_
   intro w A
   have A:=r5 A
   refine aB (aG ?_)
   refine jU kr kr A ?_
   refine Vq B O (xf B fV O O) fun a B=>Vq B O (xl B aW 0 O O O O) fun a B=>Sq B 2 O fun a B=>?_
   refine q_cut [_,_,_,_] (fun a=>Env 56 [(35,(.bool ((decide (n.a<0))||(decide (n.b<0))))),(8,(Pv y3 0)),(9,(Pv y4 0)),(10,(Iv aQ)),(12,(Pv b25 0)),(22,vp2),(23,(Iv (p2.length:Int))),(24,(Iv aU))] a) ?_ ?_
   ·rcases vA (decide (n.a<0)) with l|l
    ·
     refine Gkq B l O fun a B=>Gkq B l O fun a B=>Gkq B l O fun a B=>?_
     refine Vq B O (v:=(.bool true)) (jM O B O l O) fun a B=>?_
     have B:=B.eqv (v':=(.bool ((decide (n.a<0))||(decide (n.b<0))))) (by rw[l];rfl)
     exact jQ (B.cut ⟨O,O,O,O,O,O,O,O,tv⟩)
    refine Gq B l O (xf B eF O O) fun a B=>Gq B l O (xl B aW 0 O O O O) fun a B=>Gq B l O (aE5 O B O O) fun a B=>Vq B O (v:=(.bool (decide (n.b<0)))) (iV O B O l O) fun a B=>?_
    have B:=B.eqv (v':=(.bool ((decide (n.a<0))||(decide (n.b<0))))) (by rw[l];rfl)
    exact jQ (B.cut ⟨O,O,O,O,O,O,O,O,tv⟩)
   intro a B
   refine Sq B 1 O fun a B=>?_
   obtain⟨m1,hg1,g⟩:=bnd g
   refine q_cut [_,_,_,_,_,_,_,_,_,_,_,_,_,_,_] (fun a=>Env 56 [(51,(.bool m1)),(8,(Pv y3 0)),(9,(Pv y4 0)),(10,(Iv aQ)),(22,vp2),(23,(Iv (p2.length:Int))),(24,(Iv aU))] a) ?_ ?_
   ·rcases vA ((decide (n.a<0))||(decide (n.b<0))) with R|R
    ·
     replace hg1:=(it R).symm.trans hg1
     refine Gkq B R O fun a B=>Gkq B R O fun a B=>Gkq B R O fun a B=>Gkq B R O fun a B=>Gkq B R O fun a B=>Gkq B R O fun a B=>Gkq B R O fun a B=>Gkq B R O fun a B=>Gkq B R O fun a B=>Gkq B R O fun a B=>Gkq B R O fun a B=>Gkq B R O fun a B=>Gkq B R O fun a B=>Gkq B R O fun a B=>?_
     refine Vq B O (v:=(.bool true)) (jM O B O R O) fun a B=>?_
     obtain rfl:=oj hg1
     exact jQ (B.cut ⟨O,O,O,O,O,O,O,tv⟩)
    replace hg1:=(ie R).symm.trans hg1
    refine Gq B R O (xf B lQ O O) fun a B=>Gq B R O (xl B iK 2 O O O O) fun a B=>Gq B R O (xf B fV O O) fun a B=>Gq B R O (xl B aW 0 O O O O) fun a B=>?_
    obtain⟨x,ex5,hg1⟩:=bnd hg1
    obtain⟨b26,b26o,b26c,b26r,b26k,b26f⟩:=aH.at yh4 iZ ex5
    obtain⟨aO9,rfl,hb26_kids⟩:=NodeAt.opens b26k
    have b26f:AtP ρy1 b26 b26o [(Iv x.kind),(.string x.text),(Iv x.at_),(Iv x.fin),aO9]:=b26f
    refine Gq B R O (aO O B O O b26r) fun a B=>Gq B R O (aK O B O (fun w o=>aX (cs:=[(Iv x.kind),(.string x.text),(Iv x.at_),(Iv x.fin),aO9]) cO (fun j u hj=>cell_of o.le (b26f j u hj)))) fun a B=>Gq B R O (xf B lQ O O) fun a B=>Gq B R O (xl B iK 1 O O O O) fun a B=>Gq B R O (xf B eF O O) fun a B=>Gq B R O (xl B aW 0 O O O O) fun a B=>?_
    obtain⟨t,ex6,hg1⟩:=bnd hg1
    obtain⟨b27,b27o,b27c,b27r,b27k,b27f⟩:=aH.at yh1 iZ ex6
    obtain⟨aP0,rfl,hb27_kids⟩:=NodeAt.opens b27k
    have b27f:AtP ρy1 b27 b27o [(Iv t.kind),(.string t.text),(Iv t.at_),(Iv t.fin),aP0]:=b27f
    refine Gq B R O (aO O B O O b27r) fun a B=>Gq B R O (aK O B O (fun w o=>aX (cs:=[(Iv t.kind),(.string t.text),(Iv t.at_),(Iv t.fin),aP0]) cO (fun j u hj=>cell_of o.le (b27f j u hj)))) fun a B=>?_
    obtain⟨x7,ex7,hg1⟩:=bnd hg1
    refine aE8 (wk1 B O O O R) O O B O [(.agg #[(Iv x.kind),(.string x.text),(Iv x.at_),(Iv x.fin),aO9]),(.agg #[(Iv t.kind),(.string t.text),(Iv t.at_),(Iv t.fin),aP0])] ⟨O,O,tv⟩ ent41 (v:=(.bool x7)) (fun w o=>Calls.mono (F9 x aO9 hb26_kids t aP0 hb27_kids o x7 ex7) fun e w' ⟨v,he,hv,hh⟩=>⟨by rw[he,hv],hh⟩) ?_
    intro a B
    refine Gq B R O (ex_not O B O) fun a B=>Vq B O (v:=(.bool (!x7))) (iV O B O R O) fun a B=>?_
    obtain rfl:=oj hg1
    exact jQ (B.cut ⟨O,O,O,O,O,O,O,tv⟩)
   intro a B
   refine jQ fun w A=>?_
   have A:=r5 A
   refine dK B O (fun hc6=>?_) (fun hc6=>?_)
   ·replace g:=(it hc6).symm.trans g
    refine aA (S B 1 O fun a B=>?_)
    obtain⟨x8,ex8,g⟩:=bnd g
    refine V B A O (bF O B O O (aN ex8)) fun a B=>S B 1 O fun a B=>aB (aA ?_)
    obtain⟨x9,ex9,g⟩:=bnd g
    refine V B A O (bF O B O O (aN ex9)) fun a B=>S B 1 O fun a B=>aB ?_
    exact⟨_,(oj g).symm,B.cut ⟨O,O,O,O,O,O,tv⟩,(A.drop)⟩
   replace g:=(ie hc6).symm.trans g
   refine bI (aA ?_)
   obtain⟨x10,ex10,g⟩:=bnd g
   refine V B A O (bF O B O O (aN ex10)) fun a B=>S B 1 O fun a B=>aB ?_
   exact⟨_,(oj g).symm,B.cut ⟨O,O,O,O,O,O,tv⟩,(A.drop)⟩
  replace g:=(ie hc3).symm.trans g
  refine dZ ?_
  refine⟨_,(oj g).symm,fun hbb=>?_⟩
  subst hbb
  exact⟨B.cut ⟨O,tv⟩,A⟩
 rintro a w ⟨B,A⟩
 refine aG (aA ?_)
 refine S B 3 O fun a B=>aB (cZ ?_)
 obtain rfl:=oj p
 exact N7 B O O O ⟨_,O,O,((((((((A.get 3 O).drop).get 2 O).drop).get 1 O).drop).drop).less hley1)⟩
end Go.Proofs.YtopnldfjcciieaaGreat

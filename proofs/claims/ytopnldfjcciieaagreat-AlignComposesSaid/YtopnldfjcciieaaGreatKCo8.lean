/- The code goes as its model: slices.Index[[]bool,bool], slices.Contains[[]bool,bool], assessor/align.Valid, assessor/align.Cost. (Printed by wip/sp/gen.py.) -/
import Derived.Test.YtopnldfjcciieaaGreatKCoT
import Derived.Test.YtopnldfjcciieaaGreatKCo3
import Derived.Test.YtopnldfjcciieaaGreatKCo5
import Derived.Test.YtopnldfjcciieaaGreatKCo7
set_option linter.unusedVariables false
set_option linter.unusedSimpArgs false
set_option maxRecDepth 100000
set_option maxHeartbeats 4000000
namespace Go.Proofs.YtopnldfjcciieaaGreat
open Go.RowKit
theorem P9 {Z:World} {ρ:PH} {L:List bP} {w:World} (I:(List Bool)) (vp0:Value) (hp0:aH ρ vp0 I) (D:Bool) (C:Hp Z ρ (L) w) (r:Int) (G:nP I D=some r):
  Calls Tryz.prog 66 #[vp0,(.bool D)] w (Ret fun v w'=>v=(Iv r)∧Hp Z ρ (L) w'):=by
 refine enter (N:=19) Tryz.func66 O O [(0,vp0),(1,(.bool D))] O (bC ⟨O,O,tv⟩) fun a A=>?_
 unfold nP at G
 refine aG (aC ?_)
 refine S A 1 O fun a A=>aA (aG ?_)
 refine aG (aC ?_)
 refine S A 1 O fun a A=>V A C O (dB O A O (aH.len hp0 zZ)) fun a A=>S A 1 O fun a A=>aA ?_
 obtain⟨b1,J,G⟩:=bnd G
 refine dQ (fun a w=>∃s:Unit,b1= .brk s∧(Env 19 [] a∧Hp Z ρ (L) w)) ?_ ?_
 ·refine fK J (fun s a w=>Env 19 [(0,vp0),(1,(.bool D)),(7,(Iv (I.length:Int))),(8,(Iv s))] a∧Hp Z ρ (L) w) ?_ ?_
  ·exact⟨A.cut ⟨O,O,O,O,tv⟩,C⟩
  rintro aT st a w ⟨A,C⟩ B
  unfold jJ at B
  refine aG (aC ?_)
  refine S A 1 O fun a A=>aA (aG ?_)
  refine dJ A O (fun F=>?_) (fun F=>?_)
  ·replace B:=(it F).symm.trans B
   refine bD (aG ?_)
   refine dS (aG ?_)
   refine aC (S A 2 O fun a A=>?_)
   refine aA (aG ?_)
   refine aC (S A 3 O fun a A=>?_)
   obtain⟨H,M,B⟩:=bnd B
   obtain⟨b2,b2o,b2c,b2r,b2k,b2f⟩:=aH.at hp0 zZ M
   obtain rfl:b2c=Enc.enc H:=b2k
   have b2f:AtP ρ b2 b2o [(.bool H)]:=b2f
   refine V A C O (aP O A O O b2r) fun a A=>V A C O (aK O A O (fun w Q=>bF aC5 (b2f.c 0 O w Q))) fun a A=>V A C O (v:=(.bool (D==H))) (ex_beql bty4 O A O O) fun a A=>aA ?_
   have A:=A.cut (E':=[(0,vp0),(1,(.bool D)),(5,(Iv aT)),(7,(Iv (I.length:Int))),(8,(Iv aT)),(16,(.bool (D==H)))]) ⟨O,O,O,O,O,O,tv⟩
   refine dJ A O (fun E=>?_) (fun E=>?_)
   ·replace B:=(it E).symm.trans B
    refine aG (aC ?_)
    refine S A 2 O fun a A=>aA (dF ?_)
    refine⟨_,(oj B).symm,fun hb=>?_⟩
    subst hb
    obtain rfl:=oj G
    exact iK A O O ⟨_,O,O,C⟩
   replace B:=(ie E).symm.trans B
   refine bD (aC ?_)
   obtain⟨x2,K,B⟩:=bnd B
   refine V A C O (bI O A O O (aO K)) fun a A=>S A 1 O fun a A=>aA ?_
   exact⟨_,(oj B).symm,A.cut ⟨O,O,O,O,tv⟩,C⟩
  replace B:=(ie F).symm.trans B
  refine eU ?_
  refine⟨_,(oj B).symm,fun hbb=>?_⟩
  exact⟨_,hbb.symm,A.cut trivial,C⟩
 rintro a w ⟨b1s,rfl,A,C⟩
 dsimp only at G
 refine aG (aC ?_)
 refine S A 1 O fun a A=>aA (dF ?_)
 obtain rfl:=oj G
 exact iK A O O ⟨_,O,O,C⟩
theorem zW {Z:World} {ρ:PH} {L:List bP} {w:World} (E:(List Bool)) (vp0:Value) (hp0:aH ρ vp0 E) (C:Bool) (B:Hp Z ρ (L) w) (r:Bool) (D:jV E C=some r):
  Calls Tryz.prog 46 #[vp0,(.bool C)] w (Ret fun v w'=>v=(.bool r)∧Hp Z ρ (L) w'):=by
 refine enter (N:=9) Tryz.func46 O O [(0,vp0),(1,(.bool C))] O (bC ⟨O,O,tv⟩) fun a A=>?_
 unfold jV at D
 refine aG (aC ?_)
 refine S A 1 O fun a A=>aA (aG ?_)
 refine aC (S A 2 O fun a A=>?_)
 obtain⟨G,F,D⟩:=bnd D
 refine Cl A O O ent66 (P9 E vp0 hp0 C B G F) ⟨O,O,tv⟩ fun v a w H A=>?_
 obtain⟨rfl,B⟩:=H
 have B:=r0 B
 refine S A 2 O fun a A=>aA (dF ?_)
 obtain rfl:=oj D
 exact iK A O O ⟨_,O,O,B⟩
theorem uF {Z:World} {ρ:PH} {L:List bP} {w:World} (I:Node) (aI:Value) (bG:aH ρ aI I.kids) (H:Node) (aN:Value) (bT:aH ρ aN H.kids) (p2:(List Opn)) (vp2:Value) (hp2:aH ρ vp2 p2) (B:Hp Z ρ (L) w) (r:Bool) (hm:mG I H p2=some r):
  Calls Tryz.prog 17 #[(.agg #[(Iv I.kind),(.string I.text),(Iv I.at_),(Iv I.fin),aI]),(.agg #[(Iv H.kind),(.string H.text),(Iv H.at_),(Iv H.fin),aN]),vp2] w (Ret fun v w'=>v=(.bool r)∧Hp Z ρ (L) w'):=by
 refine enter (N:=174) Tryz.func17 O O [(0,(.agg #[(Iv I.kind),(.string I.text),(Iv I.at_),(Iv I.fin),aI])),(1,(.agg #[(Iv H.kind),(.string H.text),(Iv H.at_),(Iv H.fin),aN])),(2,vp2)] O (bC ⟨O,O,O,tv⟩) fun a A=>?_
 unfold mG at hm
 refine aG (aC ?_)
 refine jD (wk0 O) O O A B O (v:=(.agg #[(Iv I.kind),(.string I.text),(Iv I.at_),(Iv I.fin),aI])) O ?_
 intro a w b1 A B
 have B:=r1 B
 refine jD (wk0 O) O O A B O (v:=(.agg #[(Iv H.kind),(.string H.text),(Iv H.at_),(Iv H.fin),aN])) O ?_
 intro a w b2 A B
 have B:=r2 B
 refine S A 1 O fun a A=>aA (aG ?_)
 obtain⟨m,ex1,hm⟩:=bnd hm
 obtain⟨x2,ex2,hm⟩:=bnd hm
 have B:=B.drew
 refine iC ([([],At0 Z ρ),([],At1 Z ρ (Pt b2 (.cells #[(Iv H.kind),(.string H.text),(Iv H.at_),(Iv H.fin),aN] 24 (0,0)))),([],At1 Z ρ (Pt b1 (.cells #[(Iv I.kind),(.string I.text),(Iv I.at_),(Iv I.fin),aI] 24 (0,0))))]:Facts) (fun a w=>∃ρy1:PH,∃y4:Nat,∃y3:Nat,∃yv1:Value,∃yv2:Value,∃yv3:Value,∃yv4:Value,∃yv5:Value,∃yv6:Value,ρ.le ρy1∧aH ρy1 yv1 x2.nodes∧aH ρy1 yv2 x2.sizes∧aH ρy1 yv3 x2.parent∧aH ρy1 yv4 m.nodes∧aH ρy1 yv5 m.sizes∧aH ρy1 yv6 m.parent∧Env 174 [(2,vp2),(7,(Pv y3 0)),(8,(Pv y4 0))] a∧Hp Z ρy1 (Pt y4 (.cells #[yv1,yv2,yv3] 75 (0,0))::Pt y3 (.cells #[yv4,yv5,yv6] 75 (0,0))::Pt b2 (.cells #[(Iv H.kind),(.string H.text),(Iv H.at_),(Iv H.fin),aN] 24 (0,0))::Pt b1 (.cells #[(Iv I.kind),(.string I.text),(Iv I.at_),(Iv I.fin),aI] 24 (0,0))::L) w) kr ⟨fun _=>⟨_,B⟩,fun _=>⟨_,(B.get 0 O)⟩,fun _=>⟨_,(B.get 1 O)⟩,tv⟩ (fun X=>?_) ?_
 ·
  generalize w.drew=w at X B⊢
  refine T 0 2 A X O O O kr (fun _=>aK O A O (fun w x=>aV (cs:=[(Iv I.kind),(.string I.text),(Iv I.at_),(Iv I.fin),aI]) dC (Hp.cN 0 O 0 _ (aS O) w x))) fun a A X=>T 2 1 A X O O O kr (fun _=>aK O A O (fun w x=>aV (cs:=[(Iv H.kind),(.string H.text),(Iv H.at_),(Iv H.fin),aN]) dC (Hp.cN 0 O 0 _ (aS O) w x))) fun a A X=>?_
  refine dY [1,4,5] kr O ?_
  refine uE.2 ⟨?_,uE.2 ⟨?_,uE.2 ⟨?_,fun _ h=>absurd h (by simp)⟩⟩⟩
  ·
   refine bW O ?_
   refine Cl A O O kE (bH I aI bG B m ex1) ⟨O,tv⟩ fun v a w p A=>?_
   obtain⟨ρ3,G6,G7,yU,C,rfl,qP,qQ,pI,B⟩:=p
   have B:=r2 B
   refine aA (aB ⟨fun _=>⟨_,(B.less C)⟩,fun _=>⟨_,((B.get 0 O).less C)⟩,fun _=>⟨_,((B.get 1 O).less C)⟩,tv⟩ fun X=>?_)
   refine dY [3,4,5] kr O ?_
   refine uE.2 ⟨?_,uE.2 ⟨?_,uE.2 ⟨?_,fun _ h=>absurd h (by simp)⟩⟩⟩
   ·
    refine bW O ?_
    refine Cl A O O kE (bH H aN (aH.mono bT C) B x2 ex2) ⟨O,tv⟩ fun v a w p A=>?_
    obtain⟨ρ4,nH,nI,lH,F,rfl,gW,gX,fQ,B⟩:=p
    have B:=r2 B
    refine aA (aB ⟨fun _=>⟨_,((B.less F).less C)⟩,fun _=>⟨_,(((B.get 0 O).less F).less C)⟩,fun _=>⟨_,(((B.get 1 O).less F).less C)⟩,tv⟩ fun X=>?_)
    refine dY [4,5] kr O ?_
    refine uE.2 ⟨?_,uE.2 ⟨?_,fun _ h=>absurd h (by simp)⟩⟩
    ·
     refine bW O ?_
     refine dM (wk0 O) O O A B O [N0,N0,N0] (fun w=>by simp[Instr.alloc,go_sem]<;>rfl) ?_
     intro a w b5 A B
     have B:=r3 B
     refine aA (aB ⟨fun _=>⟨_,((B.less F).less C)⟩,fun _=>⟨_,(((B.get 1 O).less F).less C)⟩,fun _=>⟨_,(((B.get 2 O).less F).less C)⟩,tv⟩ fun X=>?_)
     refine W1 5 kr O ?_
     refine dM (wk0 O) O O A B O [N0,N0,N0] (fun w=>by simp[Instr.alloc,go_sem]<;>rfl) ?_
     intro a w b6 A B
     have B:=r4 B
     refine aA (aB ⟨fun _=>⟨_,((B.less F).less C)⟩,fun _=>⟨_,(((B.get 2 O).less F).less C)⟩,fun _=>⟨_,(((B.get 3 O).less F).less C)⟩,tv⟩ fun X=>?_)
     refine W1 6 kr O ?_
     refine aX (wk0 O) O A B O O O 1 O dD.size_ O (aQ ⟨(aH.one (aH.mono qP F)),(aH.one (aH.mono qQ F)),(aH.one (aH.mono pI F)),tv⟩) [G6,G7,yU] O ?_
     intro w B
     have B:=r4 B
     refine aA (aB ⟨fun _=>⟨_,((B.less F).less C)⟩,fun _=>⟨_,(((B.get 2 O).less F).less C)⟩,fun _=>⟨_,(((B.get 3 O).less F).less C)⟩,tv⟩ fun X=>?_)
     refine W1 7 kr O ?_
     refine aX (wk0 O) O A B O O O 0 O dD.size_ O (aQ ⟨(aH.one gW),(aH.one gX),(aH.one fQ),tv⟩) [nH,nI,lH] O ?_
     intro w B
     have B:=r4 B
     refine aA (aB ⟨fun _=>⟨_,((B.less F).less C)⟩,fun _=>⟨_,(((B.get 2 O).less F).less C)⟩,fun _=>⟨_,(((B.get 3 O).less F).less C)⟩,tv⟩ fun X=>?_)
     exact aZ kr ⟨ρ4,_,_,_,_,_,_,_,_,(PH.le.tr C F),gW,gX,fQ,(aH.mono qP F),(aH.mono qQ F),(aH.mono pI F),A.cut ⟨O,O,O,tv⟩,B⟩
    refine bW O ?_
    refine dM (wk0 O) O O A B O [N0,N0,N0] (fun w=>by simp[Instr.alloc,go_sem]<;>rfl) ?_
    intro a w b7 A B
    have B:=r3 B
    refine aA (aB ⟨fun _=>⟨_,((B.less F).less C)⟩,fun _=>⟨_,(((B.get 1 O).less F).less C)⟩,fun _=>⟨_,(((B.get 2 O).less F).less C)⟩,tv⟩ fun X=>?_)
    refine W1 4 kr O ?_
    refine dM (wk0 O) O O A B O [N0,N0,N0] (fun w=>by simp[Instr.alloc,go_sem]<;>rfl) ?_
    intro a w b8 A B
    have B:=r4 B
    refine aA (aB ⟨fun _=>⟨_,((B.less F).less C)⟩,fun _=>⟨_,(((B.get 2 O).less F).less C)⟩,fun _=>⟨_,(((B.get 3 O).less F).less C)⟩,tv⟩ fun X=>?_)
    refine W1 6 kr O ?_
    refine aX (wk0 O) O A B O O O 0 O dD.size_ O (aQ ⟨(aH.one (aH.mono qP F)),(aH.one (aH.mono qQ F)),(aH.one (aH.mono pI F)),tv⟩) [G6,G7,yU] O ?_
    intro w B
    have B:=r4 B
    refine aA (aB ⟨fun _=>⟨_,((B.less F).less C)⟩,fun _=>⟨_,(((B.get 2 O).less F).less C)⟩,fun _=>⟨_,(((B.get 3 O).less F).less C)⟩,tv⟩ fun X=>?_)
    refine W1 7 kr O ?_
    refine aX (wk0 O) O A B O O O 1 O dD.size_ O (aQ ⟨(aH.one gW),(aH.one gX),(aH.one fQ),tv⟩) [nH,nI,lH] O ?_
    intro w B
    have B:=r4 B
    refine aA (aB ⟨fun _=>⟨_,((B.less F).less C)⟩,fun _=>⟨_,(((B.get 2 O).less F).less C)⟩,fun _=>⟨_,(((B.get 3 O).less F).less C)⟩,tv⟩ fun X=>?_)
    exact aZ kr ⟨ρ4,_,_,_,_,_,_,_,_,(PH.le.tr C F),gW,gX,fQ,(aH.mono qP F),(aH.mono qQ F),(aH.mono pI F),A.cut ⟨O,O,O,tv⟩,((((B.get 3 O).get 3 O).get 2 O).get 3 O)⟩
   ·
    refine bW O ?_
    refine dM (wk0 O) O O A B O [N0,N0,N0] (fun w=>by simp[Instr.alloc,go_sem]<;>rfl) ?_
    intro a w b9 A B
    have B:=r3 B
    refine aA (aB ⟨fun _=>⟨_,(B.less C)⟩,fun _=>⟨_,((B.get 1 O).less C)⟩,fun _=>⟨_,((B.get 2 O).less C)⟩,tv⟩ fun X=>?_)
    refine dY [3,5] kr O ?_
    refine uE.2 ⟨?_,uE.2 ⟨?_,fun _ h=>absurd h (by simp)⟩⟩
    ·
     refine bW O ?_
     refine Cl A O O kE (bH H aN (aH.mono bT C) B x2 ex2) ⟨O,tv⟩ fun v a w p A=>?_
     obtain⟨ρ5,sO,sQ,qE,c,rfl,nR,nS,lS,B⟩:=p
     have B:=r3 B
     refine aA (aB ⟨fun _=>⟨_,((B.less c).less C)⟩,fun _=>⟨_,(((B.get 1 O).less c).less C)⟩,fun _=>⟨_,(((B.get 2 O).less c).less C)⟩,tv⟩ fun X=>?_)
     refine W1 5 kr O ?_
     refine dM (wk0 O) O O A B O [N0,N0,N0] (fun w=>by simp[Instr.alloc,go_sem]<;>rfl) ?_
     intro a w b10 A B
     have B:=r4 B
     refine aA (aB ⟨fun _=>⟨_,((B.less c).less C)⟩,fun _=>⟨_,(((B.get 2 O).less c).less C)⟩,fun _=>⟨_,(((B.get 3 O).less c).less C)⟩,tv⟩ fun X=>?_)
     refine W1 6 kr O ?_
     refine aX (wk0 O) O A B O O O 1 O dD.size_ O (aQ ⟨(aH.one (aH.mono qP c)),(aH.one (aH.mono qQ c)),(aH.one (aH.mono pI c)),tv⟩) [G6,G7,yU] O ?_
     intro w B
     have B:=r4 B
     refine aA (aB ⟨fun _=>⟨_,((B.less c).less C)⟩,fun _=>⟨_,(((B.get 2 O).less c).less C)⟩,fun _=>⟨_,(((B.get 3 O).less c).less C)⟩,tv⟩ fun X=>?_)
     refine W1 7 kr O ?_
     refine aX (wk0 O) O A B O O O 0 O dD.size_ O (aQ ⟨(aH.one nR),(aH.one nS),(aH.one lS),tv⟩) [sO,sQ,qE] O ?_
     intro w B
     have B:=r4 B
     refine aA (aB ⟨fun _=>⟨_,((B.less c).less C)⟩,fun _=>⟨_,(((B.get 2 O).less c).less C)⟩,fun _=>⟨_,(((B.get 3 O).less c).less C)⟩,tv⟩ fun X=>?_)
     exact aZ kr ⟨ρ5,_,_,_,_,_,_,_,_,(PH.le.tr C c),nR,nS,lS,(aH.mono qP c),(aH.mono qQ c),(aH.mono pI c),A.cut ⟨O,O,O,tv⟩,B⟩
    refine bW O ?_
    refine dM (wk0 O) O O A B O [N0,N0,N0] (fun w=>by simp[Instr.alloc,go_sem]<;>rfl) ?_
    intro a w b11 A B
    have B:=r4 B
    refine aA (aB ⟨fun _=>⟨_,(B.less C)⟩,fun _=>⟨_,((B.get 2 O).less C)⟩,fun _=>⟨_,((B.get 3 O).less C)⟩,tv⟩ fun X=>?_)
    refine W1 3 kr O ?_
    refine Cl A O O kE (bH H aN (aH.mono bT C) B x2 ex2) ⟨O,tv⟩ fun v a w p A=>?_
    obtain⟨ρ6,wB,wC,tZ,i,rfl,rX,rY,qA,B⟩:=p
    have B:=r4 B
    refine aA (aB ⟨fun _=>⟨_,((B.less i).less C)⟩,fun _=>⟨_,(((B.get 2 O).less i).less C)⟩,fun _=>⟨_,(((B.get 3 O).less i).less C)⟩,tv⟩ fun X=>?_)
    refine W1 6 kr O ?_
    refine aX (wk0 O) O A B O O O 1 O dD.size_ O (aQ ⟨(aH.one (aH.mono qP i)),(aH.one (aH.mono qQ i)),(aH.one (aH.mono pI i)),tv⟩) [G6,G7,yU] O ?_
    intro w B
    have B:=r4 B
    refine aA (aB ⟨fun _=>⟨_,((B.less i).less C)⟩,fun _=>⟨_,(((B.get 2 O).less i).less C)⟩,fun _=>⟨_,(((B.get 3 O).less i).less C)⟩,tv⟩ fun X=>?_)
    refine W1 7 kr O ?_
    refine aX (wk0 O) O A B O O O 0 O dD.size_ O (aQ ⟨(aH.one rX),(aH.one rY),(aH.one qA),tv⟩) [wB,wC,tZ] O ?_
    intro w B
    have B:=r4 B
    refine aA (aB ⟨fun _=>⟨_,((B.less i).less C)⟩,fun _=>⟨_,(((B.get 2 O).less i).less C)⟩,fun _=>⟨_,(((B.get 3 O).less i).less C)⟩,tv⟩ fun X=>?_)
    exact aZ kr ⟨ρ6,_,_,_,_,_,_,_,_,(PH.le.tr C i),rX,rY,qA,(aH.mono qP i),(aH.mono qQ i),(aH.mono pI i),A.cut ⟨O,O,O,tv⟩,B⟩
   refine bW O ?_
   refine dM (wk0 O) O O A B O [N0,N0,N0] (fun w=>by simp[Instr.alloc,go_sem]<;>rfl) ?_
   intro a w b12 A B
   have B:=r3 B
   refine aA (aB ⟨fun _=>⟨_,(B.less C)⟩,fun _=>⟨_,((B.get 1 O).less C)⟩,fun _=>⟨_,((B.get 2 O).less C)⟩,tv⟩ fun X=>?_)
   refine dY [3,4] kr O ?_
   refine uE.2 ⟨?_,uE.2 ⟨?_,fun _ h=>absurd h (by simp)⟩⟩
   ·
    refine bW O ?_
    refine Cl A O O kE (bH H aN (aH.mono bT C) B x2 ex2) ⟨O,tv⟩ fun v a w p A=>?_
    obtain⟨ρ7,X6,X7,O7,Y,rfl,wY,wZ,vP,B⟩:=p
    have B:=r3 B
    refine aA (aB ⟨fun _=>⟨_,((B.less Y).less C)⟩,fun _=>⟨_,(((B.get 1 O).less Y).less C)⟩,fun _=>⟨_,(((B.get 2 O).less Y).less C)⟩,tv⟩ fun X=>?_)
    refine W1 4 kr O ?_
    refine dM (wk0 O) O O A B O [N0,N0,N0] (fun w=>by simp[Instr.alloc,go_sem]<;>rfl) ?_
    intro a w b13 A B
    have B:=r4 B
    refine aA (aB ⟨fun _=>⟨_,((B.less Y).less C)⟩,fun _=>⟨_,(((B.get 2 O).less Y).less C)⟩,fun _=>⟨_,(((B.get 3 O).less Y).less C)⟩,tv⟩ fun X=>?_)
    refine W1 6 kr O ?_
    refine aX (wk0 O) O A B O O O 0 O dD.size_ O (aQ ⟨(aH.one (aH.mono qP Y)),(aH.one (aH.mono qQ Y)),(aH.one (aH.mono pI Y)),tv⟩) [G6,G7,yU] O ?_
    intro w B
    have B:=r4 B
    refine aA (aB ⟨fun _=>⟨_,((B.less Y).less C)⟩,fun _=>⟨_,(((B.get 2 O).less Y).less C)⟩,fun _=>⟨_,(((B.get 3 O).less Y).less C)⟩,tv⟩ fun X=>?_)
    refine W1 7 kr O ?_
    refine aX (wk0 O) O A B O O O 1 O dD.size_ O (aQ ⟨(aH.one wY),(aH.one wZ),(aH.one vP),tv⟩) [X6,X7,O7] O ?_
    intro w B
    have B:=r4 B
    refine aA (aB ⟨fun _=>⟨_,((B.less Y).less C)⟩,fun _=>⟨_,(((B.get 2 O).less Y).less C)⟩,fun _=>⟨_,(((B.get 3 O).less Y).less C)⟩,tv⟩ fun X=>?_)
    exact aZ kr ⟨ρ7,_,_,_,_,_,_,_,_,(PH.le.tr C Y),wY,wZ,vP,(aH.mono qP Y),(aH.mono qQ Y),(aH.mono pI Y),A.cut ⟨O,O,O,tv⟩,((((B.get 3 O).get 3 O).get 2 O).get 3 O)⟩
   refine bW O ?_
   refine dM (wk0 O) O O A B O [N0,N0,N0] (fun w=>by simp[Instr.alloc,go_sem]<;>rfl) ?_
   intro a w b14 A B
   have B:=r4 B
   refine aA (aB ⟨fun _=>⟨_,(B.less C)⟩,fun _=>⟨_,((B.get 2 O).less C)⟩,fun _=>⟨_,((B.get 3 O).less C)⟩,tv⟩ fun X=>?_)
   refine W1 3 kr O ?_
   refine Cl A O O kE (bH H aN (aH.mono bT C) B x2 ex2) ⟨O,tv⟩ fun v a w p A=>?_
   obtain⟨ρ8,X8,X9,O8,g,rfl,xA,xB,vS,B⟩:=p
   have B:=r4 B
   refine aA (aB ⟨fun _=>⟨_,((B.less g).less C)⟩,fun _=>⟨_,(((B.get 2 O).less g).less C)⟩,fun _=>⟨_,(((B.get 3 O).less g).less C)⟩,tv⟩ fun X=>?_)
   refine W1 6 kr O ?_
   refine aX (wk0 O) O A B O O O 0 O dD.size_ O (aQ ⟨(aH.one (aH.mono qP g)),(aH.one (aH.mono qQ g)),(aH.one (aH.mono pI g)),tv⟩) [G6,G7,yU] O ?_
   intro w B
   have B:=r4 B
   refine aA (aB ⟨fun _=>⟨_,((B.less g).less C)⟩,fun _=>⟨_,(((B.get 2 O).less g).less C)⟩,fun _=>⟨_,(((B.get 3 O).less g).less C)⟩,tv⟩ fun X=>?_)
   refine W1 7 kr O ?_
   refine aX (wk0 O) O A B O O O 1 O dD.size_ O (aQ ⟨(aH.one xA),(aH.one xB),(aH.one vS),tv⟩) [X8,X9,O8] O ?_
   intro w B
   have B:=r4 B
   refine aA (aB ⟨fun _=>⟨_,((B.less g).less C)⟩,fun _=>⟨_,(((B.get 2 O).less g).less C)⟩,fun _=>⟨_,(((B.get 3 O).less g).less C)⟩,tv⟩ fun X=>?_)
   exact aZ kr ⟨ρ8,_,_,_,_,_,_,_,_,(PH.le.tr C g),xA,xB,vS,(aH.mono qP g),(aH.mono qQ g),(aH.mono pI g),A.cut ⟨O,O,O,tv⟩,((((B.get 3 O).get 3 O).get 2 O).get 3 O)⟩
  ·
   refine bW O ?_
   refine dM (wk0 O) O O A B O [N0,N0,N0] (fun w=>by simp[Instr.alloc,go_sem]<;>rfl) ?_
   intro a w b15 A B
   have B:=r3 B
   refine aA (aB ⟨gp0 B,gp 1 B O,gp 2 B O,tv⟩ fun X=>?_)
   refine dY [1,5] kr O ?_
   refine uE.2 ⟨?_,uE.2 ⟨?_,fun _ h=>absurd h (by simp)⟩⟩
   ·
    refine bW O ?_
    refine Cl A O O kE (bH I aI bG B m ex1) ⟨O,tv⟩ fun v a w p A=>?_
    obtain⟨ρ9,G8,G9,yV,J,rfl,uH,uI,rH,B⟩:=p
    have B:=r3 B
    refine aA (aB ⟨fun _=>⟨_,(B.less J)⟩,fun _=>⟨_,((B.get 1 O).less J)⟩,fun _=>⟨_,((B.get 2 O).less J)⟩,tv⟩ fun X=>?_)
    refine dY [3,5] kr O ?_
    refine uE.2 ⟨?_,uE.2 ⟨?_,fun _ h=>absurd h (by simp)⟩⟩
    ·
     refine bW O ?_
     refine Cl A O O kE (bH H aN (aH.mono bT J) B x2 ex2) ⟨O,tv⟩ fun v a w p A=>?_
     obtain⟨ρ10,wP,wQ,vU,M,rfl,oW,oZ,nJ,B⟩:=p
     have B:=r3 B
     refine aA (aB ⟨fun _=>⟨_,((B.less M).less J)⟩,fun _=>⟨_,(((B.get 1 O).less M).less J)⟩,fun _=>⟨_,(((B.get 2 O).less M).less J)⟩,tv⟩ fun X=>?_)
     refine W1 5 kr O ?_
     refine dM (wk0 O) O O A B O [N0,N0,N0] (fun w=>by simp[Instr.alloc,go_sem]<;>rfl) ?_
     intro a w b16 A B
     have B:=r4 B
     refine aA (aB ⟨fun _=>⟨_,((B.less M).less J)⟩,fun _=>⟨_,(((B.get 2 O).less M).less J)⟩,fun _=>⟨_,(((B.get 3 O).less M).less J)⟩,tv⟩ fun X=>?_)
     refine W1 6 kr O ?_
     refine aX (wk0 O) O A B O O O 1 O dD.size_ O (aQ ⟨(aH.one (aH.mono uH M)),(aH.one (aH.mono uI M)),(aH.one (aH.mono rH M)),tv⟩) [G8,G9,yV] O ?_
     intro w B
     have B:=r4 B
     refine aA (aB ⟨fun _=>⟨_,((B.less M).less J)⟩,fun _=>⟨_,(((B.get 2 O).less M).less J)⟩,fun _=>⟨_,(((B.get 3 O).less M).less J)⟩,tv⟩ fun X=>?_)
     refine W1 7 kr O ?_
     refine aX (wk0 O) O A B O O O 0 O dD.size_ O (aQ ⟨(aH.one oW),(aH.one oZ),(aH.one nJ),tv⟩) [wP,wQ,vU] O ?_
     intro w B
     have B:=r4 B
     refine aA (aB ⟨fun _=>⟨_,((B.less M).less J)⟩,fun _=>⟨_,(((B.get 2 O).less M).less J)⟩,fun _=>⟨_,(((B.get 3 O).less M).less J)⟩,tv⟩ fun X=>?_)
     exact aZ kr ⟨ρ10,_,_,_,_,_,_,_,_,(PH.le.tr J M),oW,oZ,nJ,(aH.mono uH M),(aH.mono uI M),(aH.mono rH M),A.cut ⟨O,O,O,tv⟩,B⟩
    refine bW O ?_
    refine dM (wk0 O) O O A B O [N0,N0,N0] (fun w=>by simp[Instr.alloc,go_sem]<;>rfl) ?_
    intro a w b17 A B
    have B:=r4 B
    refine aA (aB ⟨fun _=>⟨_,(B.less J)⟩,fun _=>⟨_,((B.get 2 O).less J)⟩,fun _=>⟨_,((B.get 3 O).less J)⟩,tv⟩ fun X=>?_)
    refine W1 3 kr O ?_
    refine Cl A O O kE (bH H aN (aH.mono bT J) B x2 ex2) ⟨O,tv⟩ fun v a w p A=>?_
    obtain⟨ρ11,J9,L6,zM,W,rfl,uY,uZ,sV,B⟩:=p
    have B:=r4 B
    refine aA (aB ⟨fun _=>⟨_,((B.less W).less J)⟩,fun _=>⟨_,(((B.get 2 O).less W).less J)⟩,fun _=>⟨_,(((B.get 3 O).less W).less J)⟩,tv⟩ fun X=>?_)
    refine W1 6 kr O ?_
    refine aX (wk0 O) O A B O O O 1 O dD.size_ O (aQ ⟨(aH.one (aH.mono uH W)),(aH.one (aH.mono uI W)),(aH.one (aH.mono rH W)),tv⟩) [G8,G9,yV] O ?_
    intro w B
    have B:=r4 B
    refine aA (aB ⟨fun _=>⟨_,((B.less W).less J)⟩,fun _=>⟨_,(((B.get 2 O).less W).less J)⟩,fun _=>⟨_,(((B.get 3 O).less W).less J)⟩,tv⟩ fun X=>?_)
    refine W1 7 kr O ?_
    refine aX (wk0 O) O A B O O O 0 O dD.size_ O (aQ ⟨(aH.one uY),(aH.one uZ),(aH.one sV),tv⟩) [J9,L6,zM] O ?_
    intro w B
    have B:=r4 B
    refine aA (aB ⟨fun _=>⟨_,((B.less W).less J)⟩,fun _=>⟨_,(((B.get 2 O).less W).less J)⟩,fun _=>⟨_,(((B.get 3 O).less W).less J)⟩,tv⟩ fun X=>?_)
    exact aZ kr ⟨ρ11,_,_,_,_,_,_,_,_,(PH.le.tr J W),uY,uZ,sV,(aH.mono uH W),(aH.mono uI W),(aH.mono rH W),A.cut ⟨O,O,O,tv⟩,B⟩
   refine bW O ?_
   refine dM (wk0 O) O O A B O [N0,N0,N0] (fun w=>by simp[Instr.alloc,go_sem]<;>rfl) ?_
   intro a w b18 A B
   have B:=r4 B
   refine aA (aB ⟨gp0 B,gp 2 B O,gp 3 B O,tv⟩ fun X=>?_)
   refine W1 1 kr O ?_
   refine Cl A O O kE (bH I aI bG B m ex1) ⟨O,tv⟩ fun v a w p A=>?_
   obtain⟨ρ12,L8,L9,zN,f,rfl,vC,vF,sW,B⟩:=p
   have B:=r4 B
   refine aA (aB ⟨fun _=>⟨_,(B.less f)⟩,fun _=>⟨_,((B.get 2 O).less f)⟩,fun _=>⟨_,((B.get 3 O).less f)⟩,tv⟩ fun X=>?_)
   refine W1 3 kr O ?_
   refine Cl A O O kE (bH H aN (aH.mono bT f) B x2 ex2) ⟨O,tv⟩ fun v a w p A=>?_
   obtain⟨ρ13,N7,N8,zO,U,rfl,vG,vH,sZ,B⟩:=p
   have B:=r4 B
   refine aA (aB ⟨fun _=>⟨_,((B.less U).less f)⟩,fun _=>⟨_,(((B.get 2 O).less U).less f)⟩,fun _=>⟨_,(((B.get 3 O).less U).less f)⟩,tv⟩ fun X=>?_)
   refine W1 6 kr O ?_
   refine aX (wk0 O) O A B O O O 1 O dD.size_ O (aQ ⟨(aH.one (aH.mono vC U)),(aH.one (aH.mono vF U)),(aH.one (aH.mono sW U)),tv⟩) [L8,L9,zN] O ?_
   intro w B
   have B:=r4 B
   refine aA (aB ⟨fun _=>⟨_,((B.less U).less f)⟩,fun _=>⟨_,(((B.get 2 O).less U).less f)⟩,fun _=>⟨_,(((B.get 3 O).less U).less f)⟩,tv⟩ fun X=>?_)
   refine W1 7 kr O ?_
   refine aX (wk0 O) O A B O O O 0 O dD.size_ O (aQ ⟨(aH.one vG),(aH.one vH),(aH.one sZ),tv⟩) [N7,N8,zO] O ?_
   intro w B
   have B:=r4 B
   refine aA (aB ⟨fun _=>⟨_,((B.less U).less f)⟩,fun _=>⟨_,(((B.get 2 O).less U).less f)⟩,fun _=>⟨_,(((B.get 3 O).less U).less f)⟩,tv⟩ fun X=>?_)
   exact aZ kr ⟨ρ13,_,_,_,_,_,_,_,_,(PH.le.tr f U),vG,vH,sZ,(aH.mono vC U),(aH.mono vF U),(aH.mono sW U),A.cut ⟨O,O,O,tv⟩,B⟩
  refine bW O ?_
  refine dM (wk0 O) O O A B O [N0,N0,N0] (fun w=>by simp[Instr.alloc,go_sem]<;>rfl) ?_
  intro a w b19 A B
  have B:=r3 B
  refine aA (aB ⟨gp0 B,gp 1 B O,gp 2 B O,tv⟩ fun X=>?_)
  refine dY [1,4] kr O ?_
  refine uE.2 ⟨?_,uE.2 ⟨?_,fun _ h=>absurd h (by simp)⟩⟩
  ·
   refine bW O ?_
   refine Cl A O O kE (bH I aI bG B m ex1) ⟨O,tv⟩ fun v a w p A=>?_
   obtain⟨ρ14,yR,yS,xP,E,rfl,rF,rG,pX,B⟩:=p
   have B:=r3 B
   refine aA (aB ⟨fun _=>⟨_,(B.less E)⟩,fun _=>⟨_,((B.get 1 O).less E)⟩,fun _=>⟨_,((B.get 2 O).less E)⟩,tv⟩ fun X=>?_)
   refine dY [3,4] kr O ?_
   refine uE.2 ⟨?_,uE.2 ⟨?_,fun _ h=>absurd h (by simp)⟩⟩
   ·
    refine bW O ?_
    refine Cl A O O kE (bH H aN (aH.mono bT E) B x2 ex2) ⟨O,tv⟩ fun v a w p A=>?_
    obtain⟨ρ15,wR,wS,vV,K,rfl,pF,pG,nK,B⟩:=p
    have B:=r3 B
    refine aA (aB ⟨fun _=>⟨_,((B.less K).less E)⟩,fun _=>⟨_,(((B.get 1 O).less K).less E)⟩,fun _=>⟨_,(((B.get 2 O).less K).less E)⟩,tv⟩ fun X=>?_)
    refine W1 4 kr O ?_
    refine dM (wk0 O) O O A B O [N0,N0,N0] (fun w=>by simp[Instr.alloc,go_sem]<;>rfl) ?_
    intro a w b20 A B
    have B:=r4 B
    refine aA (aB ⟨fun _=>⟨_,((B.less K).less E)⟩,fun _=>⟨_,(((B.get 2 O).less K).less E)⟩,fun _=>⟨_,(((B.get 3 O).less K).less E)⟩,tv⟩ fun X=>?_)
    refine W1 6 kr O ?_
    refine aX (wk0 O) O A B O O O 0 O dD.size_ O (aQ ⟨(aH.one (aH.mono rF K)),(aH.one (aH.mono rG K)),(aH.one (aH.mono pX K)),tv⟩) [yR,yS,xP] O ?_
    intro w B
    have B:=r4 B
    refine aA (aB ⟨fun _=>⟨_,((B.less K).less E)⟩,fun _=>⟨_,(((B.get 2 O).less K).less E)⟩,fun _=>⟨_,(((B.get 3 O).less K).less E)⟩,tv⟩ fun X=>?_)
    refine W1 7 kr O ?_
    refine aX (wk0 O) O A B O O O 1 O dD.size_ O (aQ ⟨(aH.one pF),(aH.one pG),(aH.one nK),tv⟩) [wR,wS,vV] O ?_
    intro w B
    have B:=r4 B
    refine aA (aB ⟨fun _=>⟨_,((B.less K).less E)⟩,fun _=>⟨_,(((B.get 2 O).less K).less E)⟩,fun _=>⟨_,(((B.get 3 O).less K).less E)⟩,tv⟩ fun X=>?_)
    exact aZ kr ⟨ρ15,_,_,_,_,_,_,_,_,(PH.le.tr E K),pF,pG,nK,(aH.mono rF K),(aH.mono rG K),(aH.mono pX K),A.cut ⟨O,O,O,tv⟩,((((B.get 3 O).get 3 O).get 2 O).get 3 O)⟩
   refine bW O ?_
   refine dM (wk0 O) O O A B O [N0,N0,N0] (fun w=>by simp[Instr.alloc,go_sem]<;>rfl) ?_
   intro a w b21 A B
   have B:=r4 B
   refine aA (aB ⟨fun _=>⟨_,(B.less E)⟩,fun _=>⟨_,((B.get 2 O).less E)⟩,fun _=>⟨_,((B.get 3 O).less E)⟩,tv⟩ fun X=>?_)
   refine W1 3 kr O ?_
   refine Cl A O O kE (bH H aN (aH.mono bT E) B x2 ex2) ⟨O,tv⟩ fun v a w p A=>?_
   obtain⟨ρ16,N9,O0,zQ,R,rfl,vI,vJ,tC,B⟩:=p
   have B:=r4 B
   refine aA (aB ⟨fun _=>⟨_,((B.less R).less E)⟩,fun _=>⟨_,(((B.get 2 O).less R).less E)⟩,fun _=>⟨_,(((B.get 3 O).less R).less E)⟩,tv⟩ fun X=>?_)
   refine W1 6 kr O ?_
   refine aX (wk0 O) O A B O O O 0 O dD.size_ O (aQ ⟨(aH.one (aH.mono rF R)),(aH.one (aH.mono rG R)),(aH.one (aH.mono pX R)),tv⟩) [yR,yS,xP] O ?_
   intro w B
   have B:=r4 B
   refine aA (aB ⟨fun _=>⟨_,((B.less R).less E)⟩,fun _=>⟨_,(((B.get 2 O).less R).less E)⟩,fun _=>⟨_,(((B.get 3 O).less R).less E)⟩,tv⟩ fun X=>?_)
   refine W1 7 kr O ?_
   refine aX (wk0 O) O A B O O O 1 O dD.size_ O (aQ ⟨(aH.one vI),(aH.one vJ),(aH.one tC),tv⟩) [N9,O0,zQ] O ?_
   intro w B
   have B:=r4 B
   refine aA (aB ⟨fun _=>⟨_,((B.less R).less E)⟩,fun _=>⟨_,(((B.get 2 O).less R).less E)⟩,fun _=>⟨_,(((B.get 3 O).less R).less E)⟩,tv⟩ fun X=>?_)
   exact aZ kr ⟨ρ16,_,_,_,_,_,_,_,_,(PH.le.tr E R),vI,vJ,tC,(aH.mono rF R),(aH.mono rG R),(aH.mono pX R),A.cut ⟨O,O,O,tv⟩,((((B.get 3 O).get 3 O).get 2 O).get 3 O)⟩
  refine bW O ?_
  refine dM (wk0 O) O O A B O [N0,N0,N0] (fun w=>by simp[Instr.alloc,go_sem]<;>rfl) ?_
  intro a w b22 A B
  have B:=r4 B
  refine aA (aB ⟨gp0 B,gp 2 B O,gp 3 B O,tv⟩ fun X=>?_)
  refine W1 1 kr O ?_
  refine Cl A O O kE (bH I aI bG B m ex1) ⟨O,tv⟩ fun v a w p A=>?_
  obtain⟨ρ17,O1,O3,zS,d,rfl,vK,vM,tH,B⟩:=p
  have B:=r4 B
  refine aA (aB ⟨fun _=>⟨_,(B.less d)⟩,fun _=>⟨_,((B.get 2 O).less d)⟩,fun _=>⟨_,((B.get 3 O).less d)⟩,tv⟩ fun X=>?_)
  refine W1 3 kr O ?_
  refine Cl A O O kE (bH H aN (aH.mono bT d) B x2 ex2) ⟨O,tv⟩ fun v a w p A=>?_
  obtain⟨ρ18,O4,O5,zT,Q,rfl,vN,vO,tJ,B⟩:=p
  have B:=r4 B
  refine aA (aB ⟨fun _=>⟨_,((B.less Q).less d)⟩,fun _=>⟨_,(((B.get 2 O).less Q).less d)⟩,fun _=>⟨_,(((B.get 3 O).less Q).less d)⟩,tv⟩ fun X=>?_)
  refine W1 6 kr O ?_
  refine aX (wk0 O) O A B O O O 0 O dD.size_ O (aQ ⟨(aH.one (aH.mono vK Q)),(aH.one (aH.mono vM Q)),(aH.one (aH.mono tH Q)),tv⟩) [O1,O3,zS] O ?_
  intro w B
  have B:=r4 B
  refine aA (aB ⟨fun _=>⟨_,((B.less Q).less d)⟩,fun _=>⟨_,(((B.get 2 O).less Q).less d)⟩,fun _=>⟨_,(((B.get 3 O).less Q).less d)⟩,tv⟩ fun X=>?_)
  refine W1 7 kr O ?_
  refine aX (wk0 O) O A B O O O 1 O dD.size_ O (aQ ⟨(aH.one vN),(aH.one vO),(aH.one tJ),tv⟩) [O4,O5,zT] O ?_
  intro w B
  have B:=r4 B
  refine aA (aB ⟨fun _=>⟨_,((B.less Q).less d)⟩,fun _=>⟨_,(((B.get 2 O).less Q).less d)⟩,fun _=>⟨_,(((B.get 3 O).less Q).less d)⟩,tv⟩ fun X=>?_)
  exact aZ kr ⟨ρ18,_,_,_,_,_,_,_,_,(PH.le.tr d Q),vN,vO,tJ,(aH.mono vK Q),(aH.mono vM Q),(aH.mono tH Q),A.cut ⟨O,O,O,tv⟩,((((B.get 3 O).get 3 O).get 2 O).get 3 O)⟩
 rintro a w ⟨ρy1,y4,y3,yv1,yv2,yv3,yv4,yv5,yv6,hley1,yh1,yh2,yh3,yh4,yh5,yh6,A,B⟩
 refine aG (aG ?_)
 refine aC (S A 1 O fun a A=>?_)
 refine V A B O (dB O A O (aH.len (aH.mono hp2 hley1) aJ)) fun a A=>V A B O (xf A kW O O) fun a A=>V A B O (xl A jR 1 O O O O) fun a A=>V A B O (dB O A O (aH.len yh4 kK)) fun a A=>S A 1 O fun a A=>aA ?_
 refine dJ A O (fun hc1=>?_) (fun hc1=>?_)
 ·replace hm:=(it hc1).symm.trans hm
  refine aG (aC ?_)
  refine S A 1 O fun a A=>aA (dF ?_)
  obtain rfl:=oj hm
  exact iK A O O ⟨_,O,O,((((((((B.get 3 O).drop).get 2 O).drop).get 1 O).drop).drop).less hley1)⟩
 replace hm:=(ie hc1).symm.trans hm
 refine bD (aG ?_)
 refine aC (V A B O (xf A kW O O) fun a A=>?_)
 refine V A B O (xl A jR 0 O O O O) fun a A=>V A B O (dB O A O (aH.len yh1 kK)) fun a A=>?_
 obtain⟨x3,ex3,hm⟩:=bnd hm
 refine s_make (wk0 O) O O A B O (El:=4) (bytes:=1) kr (false:Bool) kr kr O O ex3 ?_
 intro v1 a w A B
 have B:=r5 B
 refine S A 1 O fun a A=>aA (aG ?_)
 refine aC (S A 1 O fun a A=>?_)
 refine aA (aG ?_)
 refine aC (S A 1 O fun a A=>?_)
 refine aA (aG ?_)
 refine aG (aC ?_)
 refine S A 1 O fun a A=>V A B O (dB O A O (aH.len (aH.mono hp2 hley1) aJ)) fun a A=>S A 1 O fun a A=>aA ?_
 have B:=B.emp (aF.nil (α:=Opn) 46)
 have B:=r6 B
 obtain⟨b23,hc2,hm⟩:=bnd hm
 refine dQ (fun a w=>∃s:((List Opn)×(List Bool)),b23= .brk s∧(∃(w14:Value) (w5:Value),Env 174 [(7,(Pv y3 0)),(8,(Pv y4 0)),(9,w5),(10,w14)] a∧Hp Z ρy1 (aF 46 w14 s.1::aF 4 w5 s.2::Pt y4 (.cells #[yv1,yv2,yv3] 75 (0,0))::Pt y3 (.cells #[yv4,yv5,yv6] 75 (0,0))::Pt b2 (.cells #[(Iv H.kind),(.string H.text),(Iv H.at_),(Iv H.fin),aN] 24 (0,0))::Pt b1 (.cells #[(Iv I.kind),(.string I.text),(Iv I.at_),(Iv I.fin),aI] 24 (0,0))::L) w)) ?_ ?_
 ·refine fK hc2 (fun s a w=>∃(w14:Value) (w5:Value),Env 174 [(7,(Pv y3 0)),(8,(Pv y4 0)),(9,w5),(10,w14),(11,(Iv s.1)),(32,vp2),(33,(Iv (p2.length:Int))),(34,(Iv s.2.1))] a∧Hp Z ρy1 (aF 46 w14 s.2.2.1::aF 4 w5 s.2.2.2::Pt y4 (.cells #[yv1,yv2,yv3] 75 (0,0))::Pt y3 (.cells #[yv4,yv5,yv6] 75 (0,0))::Pt b2 (.cells #[(Iv H.kind),(.string H.text),(Iv H.at_),(Iv H.fin),aN] 24 (0,0))::Pt b1 (.cells #[(Iv I.kind),(.string I.text),(Iv I.at_),(Iv I.fin),aI] 24 (0,0))::L) w) ?_ ?_
  ·exact⟨_,_,A.cut ⟨O,O,O,O,O,O,O,O,tv⟩,B⟩
  rintro⟨aT,aU,fV,jA⟩ st a w ⟨w14,w5,A,B⟩ q
  dsimp only at A B q
  unfold qW at q
  refine aG (aC ?_)
  refine S A 1 O fun a A=>aA (aG ?_)
  refine dJ A O (fun hc3=>?_) (fun hc3=>?_)
  ·replace q:=(it hc3).symm.trans q
   refine bD (aG ?_)
   obtain⟨j1,hj1,q⟩:=bnd q
   refine dQ (fun a w=>∃s:(Int×(List Opn)×(List Bool)),j1= .brk s∧(∃(w14:Value) (w5:Value),Env 174 [(7,(Pv y3 0)),(8,(Pv y4 0)),(9,w5),(10,w14),(11,(Iv s.1)),(32,vp2),(33,(Iv (p2.length:Int))),(34,(Iv aU))] a∧Hp Z ρy1 (aF 46 w14 s.2.1::aF 4 w5 s.2.2::Pt y4 (.cells #[yv1,yv2,yv3] 75 (0,0))::Pt y3 (.cells #[yv4,yv5,yv6] 75 (0,0))::Pt b2 (.cells #[(Iv H.kind),(.string H.text),(Iv H.at_),(Iv H.fin),aN] 24 (0,0))::Pt b1 (.cells #[(Iv I.kind),(.string I.text),(Iv I.at_),(Iv I.fin),aI] 24 (0,0))::L) w)) ?_ ?_
   ·
    refine aG (aC ?_)
    refine S A 1 O fun a A=>?_
    obtain⟨D,ex4,hj1⟩:=bnd hj1
    obtain⟨b24,b24o,b24c,b24r,b24k,b24f⟩:=aH.at (aH.mono hp2 hley1) aJ ex4
    obtain rfl:b24c=Enc.enc D:=b24k
    have b24f:AtP ρy1 b24 b24o [(Iv D.a),(Iv D.b)]:=b24f
    refine V A B O (aP O A O O b24r) fun a A=>V A B O (aK O A O (fun w x=>aV (cs:=[(Iv D.a),(Iv D.b)]) fO (fun j u hj=>cell_of x.le (b24f j u hj)))) fun a A=>?_
    refine dM (wk0 O) O O A B O [(Iv 0),(Iv 0)] (fun w=>by simp[Instr.alloc,go_sem]<;>rfl) ?_
    intro a w b25 A B
    have B:=r7 B
    refine S A 1 O fun a A=>?_
    refine aX (wk0 O) O A B O O O 0 O fO.size_ O (aQ ⟨O,O,tv⟩) [(Iv D.a),(Iv D.b)] O ?_
    intro w B
    have B:=r7 B
    refine aA ?_
    have A:=A.cut (E':=[(7,(Pv y3 0)),(8,(Pv y4 0)),(9,w5),(10,w14),(11,(Iv aT)),(12,(Iv aU)),(13,(Pv b25 0)),(32,vp2),(33,(Iv (p2.length:Int))),(34,(Iv aU))]) ⟨O,O,O,O,O,O,O,O,O,O,tv⟩
    refine aG (aG ?_)
    refine aC (S A 1 O fun a A=>?_)
    refine V A B O (xf A kW O O) fun a A=>V A B O (xl A jR 4 O O O O) fun a A=>V A B O (dB O A O (aH.len yh4 kK)) fun a A=>S A 1 O fun a A=>V A B O (xf A eQ O O) fun a A=>V A B O (xl A aY 0 O O O O) fun a A=>S A 1 O fun a A=>V A B O (v:=(.bool (!((decide (aU<(m.nodes.length:Int)))==(decide (0≤D.a)))))) (ex_bneq bty4 O A O O) fun a A=>S A 1 O fun a A=>?_
    refine jH [_,_,_,_,_,_,_,_,_,_] (fun a w=>Env 174 [(58,(.bool ((!((decide (aU<(m.nodes.length:Int)))==(decide (0≤D.a))))||((decide (0≤D.a))&&(!decide (D.a=aU)))))),(7,(Pv y3 0)),(8,(Pv y4 0)),(9,w5),(10,w14),(11,(Iv aT)),(13,(Pv b25 0)),(32,vp2),(33,(Iv (p2.length:Int))),(34,(Iv aU))] a∧Hp Z ρy1 (Pt b25 (.cells #[(Iv D.a),(Iv D.b)] 46 (0,0))::aF 46 w14 fV::aF 4 w5 jA::Pt y4 (.cells #[yv1,yv2,yv3] 75 (0,0))::Pt y3 (.cells #[yv4,yv5,yv6] 75 (0,0))::Pt b2 (.cells #[(Iv H.kind),(.string H.text),(Iv H.at_),(Iv H.fin),aN] 24 (0,0))::Pt b1 (.cells #[(Iv I.kind),(.string I.text),(Iv I.at_),(Iv I.fin),aI] 24 (0,0))::L) w) ?_ ?_
    ·rcases uW (!((decide (aU<(m.nodes.length:Int)))==(decide (0≤D.a)))) with o|o
     ·
      refine Gk A o O fun a A=>Gk A o O fun a A=>Gk A o O fun a A=>Gk A o O fun a A=>?_
      refine oL (wk3 A O O O) O O A ?_
      intro a A
      refine oL (wk3 A O O O) O O A ?_
      intro a A
      refine oL (wk3 A O O O) O O A ?_
      intro a A
      refine oL (wk3 A O O O) O O A ?_
      intro a A
      refine Gk A o O fun a A=>pk1 A o O O O O fun a A=>?_
      have A:=A.eqv (v':=(.bool ((!((decide (aU<(m.nodes.length:Int)))==(decide (0≤D.a))))||((decide (0≤D.a))&&(!decide (D.a=aU)))))) (by rw[o];rfl)
      exact aA ⟨A.cut ⟨O,O,O,O,O,O,O,O,O,O,tv⟩,B⟩
     refine G A B o O (xf A eQ O O) fun a A=>G A B o O (xl A aY 0 O O O O) fun a A=>Gs A o O O fun a A=>Gs A o O O fun a A=>?_
     refine jH [_,_,_,_,_] (fun a w=>Env 174 [(57,(.bool ((decide (0≤D.a))&&(!decide (D.a=aU))))),(7,(Pv y3 0)),(8,(Pv y4 0)),(9,w5),(10,w14),(11,(Iv aT)),(13,(Pv b25 0)),(32,vp2),(33,(Iv (p2.length:Int))),(34,(Iv aU)),(48,(.bool (!((decide (aU<(m.nodes.length:Int)))==(decide (0≤D.a)))))),(49,(Pv b25 0)),(50,(Iv D.a)),(51,(.bool (decide (0≤D.a)))),(52,(.bool (decide (0≤D.a))))] a∧Hp Z ρy1 (Pt b25 (.cells #[(Iv D.a),(Iv D.b)] 46 (0,0))::aF 46 w14 fV::aF 4 w5 jA::Pt y4 (.cells #[yv1,yv2,yv3] 75 (0,0))::Pt y3 (.cells #[yv4,yv5,yv6] 75 (0,0))::Pt b2 (.cells #[(Iv H.kind),(.string H.text),(Iv H.at_),(Iv H.fin),aN] 24 (0,0))::Pt b1 (.cells #[(Iv I.kind),(.string I.text),(Iv I.at_),(Iv I.fin),aI] 24 (0,0))::L) w) ?_ ?_
     ·rcases uW (decide (0≤D.a)) with z|z
      ·
       refine G A B z O (xf A eQ O O) fun a A=>G A B z O (xl A aY 0 O O O O) fun a A=>Gs A z O O fun a A=>Gs A z O O fun a A=>G A B o O (jG O A O z O) fun a A=>?_
       have A:=A.eqv (v':=(.bool ((decide (0≤D.a))&&(!decide (D.a=aU))))) (by rw[z];rfl)
       exact aA ⟨A.cut ⟨O,O,O,O,O,O,O,O,O,O,O,O,O,O,O,tv⟩,B⟩
      refine Gk A z O fun a A=>Gk A z O fun a A=>Gk A z O fun a A=>Gk A z O fun a A=>G A B o O (iR O A O z O) fun a A=>?_
      have A:=A.eqv (v':=(.bool ((decide (0≤D.a))&&(!decide (D.a=aU))))) (by rw[z];rfl)
      exact aA ⟨A.cut ⟨O,O,O,O,O,O,O,O,O,O,O,O,O,O,O,tv⟩,B⟩
     rintro a w ⟨A,B⟩
     refine pk0 A o O O O O fun a A=>?_
     have A:=A.eqv (v':=(.bool ((!((decide (aU<(m.nodes.length:Int)))==(decide (0≤D.a))))||((decide (0≤D.a))&&(!decide (D.a=aU)))))) (by rw[o];rfl)
     exact aA ⟨A.cut ⟨O,O,O,O,O,O,O,O,O,O,tv⟩,B⟩
    rintro a w ⟨A,B⟩
    refine S A 1 O fun a A=>?_
    refine jH [_,_,_,_,_,_,_,_,_] (fun a w=>Env 174 [(68,(.bool (((!((decide (aU<(m.nodes.length:Int)))==(decide (0≤D.a))))||((decide (0≤D.a))&&(!decide (D.a=aU))))||((decide (D.a<0))&&(!decide (D.a=(-1))))))),(7,(Pv y3 0)),(8,(Pv y4 0)),(9,w5),(10,w14),(11,(Iv aT)),(13,(Pv b25 0)),(32,vp2),(33,(Iv (p2.length:Int))),(34,(Iv aU))] a∧Hp Z ρy1 (Pt b25 (.cells #[(Iv D.a),(Iv D.b)] 46 (0,0))::aF 46 w14 fV::aF 4 w5 jA::Pt y4 (.cells #[yv1,yv2,yv3] 75 (0,0))::Pt y3 (.cells #[yv4,yv5,yv6] 75 (0,0))::Pt b2 (.cells #[(Iv H.kind),(.string H.text),(Iv H.at_),(Iv H.fin),aN] 24 (0,0))::Pt b1 (.cells #[(Iv I.kind),(.string I.text),(Iv I.at_),(Iv I.fin),aI] 24 (0,0))::L) w) ?_ ?_
    ·rcases uW ((!((decide (aU<(m.nodes.length:Int)))==(decide (0≤D.a))))||((decide (0≤D.a))&&(!decide (D.a=aU)))) with n|n
     ·
      refine Gk A n O fun a A=>Gk A n O fun a A=>Gk A n O fun a A=>Gk A n O fun a A=>?_
      refine oL (wk3 A O O O) O O A ?_
      intro a A
      refine oL (wk3 A O O O) O O A ?_
      intro a A
      refine oL (wk3 A O O O) O O A ?_
      intro a A
      refine Gk A n O fun a A=>pk1 A n O O O O fun a A=>?_
      have A:=A.eqv (v':=(.bool (((!((decide (aU<(m.nodes.length:Int)))==(decide (0≤D.a))))||((decide (0≤D.a))&&(!decide (D.a=aU))))||((decide (D.a<0))&&(!decide (D.a=(-1))))))) (by rw[n];rfl)
      exact aA ⟨A.cut ⟨O,O,O,O,O,O,O,O,O,O,tv⟩,B⟩
     refine G A B n O (xf A eQ O O) fun a A=>G A B n O (xl A aY 0 O O O O) fun a A=>Gs A n O O fun a A=>Gs A n O O fun a A=>?_
     refine jH [_,_,_,_] (fun a w=>Env 174 [(67,(.bool ((decide (D.a<0))&&(!decide (D.a=(-1)))))),(7,(Pv y3 0)),(8,(Pv y4 0)),(9,w5),(10,w14),(11,(Iv aT)),(13,(Pv b25 0)),(32,vp2),(33,(Iv (p2.length:Int))),(34,(Iv aU)),(59,(.bool ((!((decide (aU<(m.nodes.length:Int)))==(decide (0≤D.a))))||((decide (0≤D.a))&&(!decide (D.a=aU)))))),(60,(Pv b25 0)),(61,(Iv D.a)),(62,(.bool (decide (D.a<0)))),(63,(.bool (decide (D.a<0))))] a∧Hp Z ρy1 (Pt b25 (.cells #[(Iv D.a),(Iv D.b)] 46 (0,0))::aF 46 w14 fV::aF 4 w5 jA::Pt y4 (.cells #[yv1,yv2,yv3] 75 (0,0))::Pt y3 (.cells #[yv4,yv5,yv6] 75 (0,0))::Pt b2 (.cells #[(Iv H.kind),(.string H.text),(Iv H.at_),(Iv H.fin),aN] 24 (0,0))::Pt b1 (.cells #[(Iv I.kind),(.string I.text),(Iv I.at_),(Iv I.fin),aI] 24 (0,0))::L) w) ?_ ?_
     ·rcases uW (decide (D.a<0)) with hc7|hc7
      ·
       refine G A B hc7 O (xf A eQ O O) fun a A=>G A B hc7 O (xl A aY 0 O O O O) fun a A=>Gs A hc7 O O fun a A=>G A B n O (jG O A O hc7 O) fun a A=>?_
       have A:=A.eqv (v':=(.bool ((decide (D.a<0))&&(!decide (D.a=(-1)))))) (by rw[hc7];rfl)
       exact aA ⟨A.cut ⟨O,O,O,O,O,O,O,O,O,O,O,O,O,O,O,tv⟩,B⟩
      refine Gk A hc7 O fun a A=>Gk A hc7 O fun a A=>Gk A hc7 O fun a A=>G A B n O (iR O A O hc7 O) fun a A=>?_
      have A:=A.eqv (v':=(.bool ((decide (D.a<0))&&(!decide (D.a=(-1)))))) (by rw[hc7];rfl)
      exact aA ⟨A.cut ⟨O,O,O,O,O,O,O,O,O,O,O,O,O,O,O,tv⟩,B⟩
     rintro a w ⟨A,B⟩
     refine pk0 A n O O O O fun a A=>?_
     have A:=A.eqv (v':=(.bool (((!((decide (aU<(m.nodes.length:Int)))==(decide (0≤D.a))))||((decide (0≤D.a))&&(!decide (D.a=aU))))||((decide (D.a<0))&&(!decide (D.a=(-1))))))) (by rw[n];rfl)
     exact aA ⟨A.cut ⟨O,O,O,O,O,O,O,O,O,O,tv⟩,B⟩
    rintro a w ⟨A,B⟩
    refine S A 1 O fun a A=>?_
    refine jH [_,_,_,_] (fun a w=>Env 174 [(73,(.bool ((((!((decide (aU<(m.nodes.length:Int)))==(decide (0≤D.a))))||((decide (0≤D.a))&&(!decide (D.a=aU))))||((decide (D.a<0))&&(!decide (D.a=(-1)))))||(decide (D.b<(-1)))))),(7,(Pv y3 0)),(8,(Pv y4 0)),(9,w5),(10,w14),(11,(Iv aT)),(13,(Pv b25 0)),(32,vp2),(33,(Iv (p2.length:Int))),(34,(Iv aU))] a∧Hp Z ρy1 (Pt b25 (.cells #[(Iv D.a),(Iv D.b)] 46 (0,0))::aF 46 w14 fV::aF 4 w5 jA::Pt y4 (.cells #[yv1,yv2,yv3] 75 (0,0))::Pt y3 (.cells #[yv4,yv5,yv6] 75 (0,0))::Pt b2 (.cells #[(Iv H.kind),(.string H.text),(Iv H.at_),(Iv H.fin),aN] 24 (0,0))::Pt b1 (.cells #[(Iv I.kind),(.string I.text),(Iv I.at_),(Iv I.fin),aI] 24 (0,0))::L) w) ?_ ?_
    ·rcases uW (((!((decide (aU<(m.nodes.length:Int)))==(decide (0≤D.a))))||((decide (0≤D.a))&&(!decide (D.a=aU))))||((decide (D.a<0))&&(!decide (D.a=(-1))))) with hc8|hc8
     ·
      refine Gk A hc8 O fun a A=>Gk A hc8 O fun a A=>Gk A hc8 O fun a A=>pk1 A hc8 O O O O fun a A=>?_
      have A:=A.eqv (v':=(.bool ((((!((decide (aU<(m.nodes.length:Int)))==(decide (0≤D.a))))||((decide (0≤D.a))&&(!decide (D.a=aU))))||((decide (D.a<0))&&(!decide (D.a=(-1)))))||(decide (D.b<(-1)))))) (by rw[hc8];rfl)
      exact aA ⟨A.cut ⟨O,O,O,O,O,O,O,O,O,O,tv⟩,B⟩
     refine G A B hc8 O (xf A eP O O) fun a A=>G A B hc8 O (xl A aY 0 O O O O) fun a A=>Gs A hc8 O O fun a A=>pk0 A hc8 O O O O fun a A=>?_
     have A:=A.eqv (v':=(.bool ((((!((decide (aU<(m.nodes.length:Int)))==(decide (0≤D.a))))||((decide (0≤D.a))&&(!decide (D.a=aU))))||((decide (D.a<0))&&(!decide (D.a=(-1)))))||(decide (D.b<(-1)))))) (by rw[hc8];rfl)
     exact aA ⟨A.cut ⟨O,O,O,O,O,O,O,O,O,O,tv⟩,B⟩
    rintro a w ⟨A,B⟩
    refine S A 1 O fun a A=>?_
    refine jH [_,_,_,_,_,_] (fun a w=>Env 174 [(80,(.bool (((((!((decide (aU<(m.nodes.length:Int)))==(decide (0≤D.a))))||((decide (0≤D.a))&&(!decide (D.a=aU))))||((decide (D.a<0))&&(!decide (D.a=(-1)))))||(decide (D.b<(-1))))||(decide ((jA.length:Int)≤D.b))))),(7,(Pv y3 0)),(8,(Pv y4 0)),(9,w5),(10,w14),(11,(Iv aT)),(13,(Pv b25 0)),(32,vp2),(33,(Iv (p2.length:Int))),(34,(Iv aU))] a∧Hp Z ρy1 (Pt b25 (.cells #[(Iv D.a),(Iv D.b)] 46 (0,0))::aF 46 w14 fV::aF 4 w5 jA::Pt y4 (.cells #[yv1,yv2,yv3] 75 (0,0))::Pt y3 (.cells #[yv4,yv5,yv6] 75 (0,0))::Pt b2 (.cells #[(Iv H.kind),(.string H.text),(Iv H.at_),(Iv H.fin),aN] 24 (0,0))::Pt b1 (.cells #[(Iv I.kind),(.string I.text),(Iv I.at_),(Iv I.fin),aI] 24 (0,0))::L) w) ?_ ?_
    ·rcases uW ((((!((decide (aU<(m.nodes.length:Int)))==(decide (0≤D.a))))||((decide (0≤D.a))&&(!decide (D.a=aU))))||((decide (D.a<0))&&(!decide (D.a=(-1)))))||(decide (D.b<(-1)))) with t|t
     ·
      refine Gk A t O fun a A=>Gk A t O fun a A=>Gk A t O fun a A=>Gk A t O fun a A=>Gk A t O fun a A=>pk1 A t O O O O fun a A=>?_
      have A:=A.eqv (v':=(.bool (((((!((decide (aU<(m.nodes.length:Int)))==(decide (0≤D.a))))||((decide (0≤D.a))&&(!decide (D.a=aU))))||((decide (D.a<0))&&(!decide (D.a=(-1)))))||(decide (D.b<(-1))))||(decide ((jA.length:Int)≤D.b))))) (by rw[t];rfl)
      exact aA ⟨A.cut ⟨O,O,O,O,O,O,O,O,O,O,tv⟩,B⟩
     refine G A B t O (xf A eP O O) fun a A=>G A B t O (xl A aY 0 O O O O) fun a A=>Gs A t O O fun a A=>G A B t O (dB O A O (aF.len B 2 O zZ)) fun a A=>Gs A t O O fun a A=>pk0 A t O O O O fun a A=>?_
     have A:=A.eqv (v':=(.bool (((((!((decide (aU<(m.nodes.length:Int)))==(decide (0≤D.a))))||((decide (0≤D.a))&&(!decide (D.a=aU))))||((decide (D.a<0))&&(!decide (D.a=(-1)))))||(decide (D.b<(-1))))||(decide ((jA.length:Int)≤D.b))))) (by rw[t];rfl)
     exact aA ⟨A.cut ⟨O,O,O,O,O,O,O,O,O,O,tv⟩,B⟩
    rintro a w ⟨A,B⟩
    refine S A 1 O fun a A=>?_
    refine jH [_,_,_,_,_,_,_,_,_,_] (fun a w=>Env 174 [(91,(.bool ((((((!((decide (aU<(m.nodes.length:Int)))==(decide (0≤D.a))))||((decide (0≤D.a))&&(!decide (D.a=aU))))||((decide (D.a<0))&&(!decide (D.a=(-1)))))||(decide (D.b<(-1))))||(decide ((jA.length:Int)≤D.b)))||((decide (D.a<0))&&(decide (D.b≤aT)))))),(7,(Pv y3 0)),(8,(Pv y4 0)),(9,w5),(10,w14),(11,(Iv aT)),(13,(Pv b25 0)),(32,vp2),(33,(Iv (p2.length:Int))),(34,(Iv aU))] a∧Hp Z ρy1 (Pt b25 (.cells #[(Iv D.a),(Iv D.b)] 46 (0,0))::aF 46 w14 fV::aF 4 w5 jA::Pt y4 (.cells #[yv1,yv2,yv3] 75 (0,0))::Pt y3 (.cells #[yv4,yv5,yv6] 75 (0,0))::Pt b2 (.cells #[(Iv H.kind),(.string H.text),(Iv H.at_),(Iv H.fin),aN] 24 (0,0))::Pt b1 (.cells #[(Iv I.kind),(.string I.text),(Iv I.at_),(Iv I.fin),aI] 24 (0,0))::L) w) ?_ ?_
    ·rcases uW (((((!((decide (aU<(m.nodes.length:Int)))==(decide (0≤D.a))))||((decide (0≤D.a))&&(!decide (D.a=aU))))||((decide (D.a<0))&&(!decide (D.a=(-1)))))||(decide (D.b<(-1))))||(decide ((jA.length:Int)≤D.b))) with hc10|hc10
     ·
      refine Gk A hc10 O fun a A=>Gk A hc10 O fun a A=>Gk A hc10 O fun a A=>Gk A hc10 O fun a A=>?_
      refine oL (wk3 A O O O) O O A ?_
      intro a A
      refine oL (wk3 A O O O) O O A ?_
      intro a A
      refine oL (wk3 A O O O) O O A ?_
      intro a A
      refine oL (wk3 A O O O) O O A ?_
      intro a A
      refine Gk A hc10 O fun a A=>pk1 A hc10 O O O O fun a A=>?_
      have A:=A.eqv (v':=(.bool ((((((!((decide (aU<(m.nodes.length:Int)))==(decide (0≤D.a))))||((decide (0≤D.a))&&(!decide (D.a=aU))))||((decide (D.a<0))&&(!decide (D.a=(-1)))))||(decide (D.b<(-1))))||(decide ((jA.length:Int)≤D.b)))||((decide (D.a<0))&&(decide (D.b≤aT)))))) (by rw[hc10];rfl)
      exact aA ⟨A.cut ⟨O,O,O,O,O,O,O,O,O,O,tv⟩,B⟩
     refine G A B hc10 O (xf A eQ O O) fun a A=>G A B hc10 O (xl A aY 0 O O O O) fun a A=>Gs A hc10 O O fun a A=>Gs A hc10 O O fun a A=>?_
     refine jH [_,_,_,_,_] (fun a w=>Env 174 [(90,(.bool ((decide (D.a<0))&&(decide (D.b≤aT))))),(7,(Pv y3 0)),(8,(Pv y4 0)),(9,w5),(10,w14),(11,(Iv aT)),(13,(Pv b25 0)),(32,vp2),(33,(Iv (p2.length:Int))),(34,(Iv aU)),(81,(.bool (((((!((decide (aU<(m.nodes.length:Int)))==(decide (0≤D.a))))||((decide (0≤D.a))&&(!decide (D.a=aU))))||((decide (D.a<0))&&(!decide (D.a=(-1)))))||(decide (D.b<(-1))))||(decide ((jA.length:Int)≤D.b))))),(82,(Pv b25 0)),(83,(Iv D.a)),(84,(.bool (decide (D.a<0)))),(85,(.bool (decide (D.a<0))))] a∧Hp Z ρy1 (Pt b25 (.cells #[(Iv D.a),(Iv D.b)] 46 (0,0))::aF 46 w14 fV::aF 4 w5 jA::Pt y4 (.cells #[yv1,yv2,yv3] 75 (0,0))::Pt y3 (.cells #[yv4,yv5,yv6] 75 (0,0))::Pt b2 (.cells #[(Iv H.kind),(.string H.text),(Iv H.at_),(Iv H.fin),aN] 24 (0,0))::Pt b1 (.cells #[(Iv I.kind),(.string I.text),(Iv I.at_),(Iv I.fin),aI] 24 (0,0))::L) w) ?_ ?_
     ·rcases uW (decide (D.a<0)) with hc11|hc11
      ·
       refine G A B hc11 O (xf A eP O O) fun a A=>G A B hc11 O (xl A aY 0 O O O O) fun a A=>Gs A hc11 O O fun a A=>Gs A hc11 O O fun a A=>G A B hc10 O (jG O A O hc11 O) fun a A=>?_
       have A:=A.eqv (v':=(.bool ((decide (D.a<0))&&(decide (D.b≤aT))))) (by rw[hc11];rfl)
       exact aA ⟨A.cut ⟨O,O,O,O,O,O,O,O,O,O,O,O,O,O,O,tv⟩,B⟩
      refine Gk A hc11 O fun a A=>Gk A hc11 O fun a A=>Gk A hc11 O fun a A=>Gk A hc11 O fun a A=>G A B hc10 O (iR O A O hc11 O) fun a A=>?_
      have A:=A.eqv (v':=(.bool ((decide (D.a<0))&&(decide (D.b≤aT))))) (by rw[hc11];rfl)
      exact aA ⟨A.cut ⟨O,O,O,O,O,O,O,O,O,O,O,O,O,O,O,tv⟩,B⟩
     rintro a w ⟨A,B⟩
     refine pk0 A hc10 O O O O fun a A=>?_
     have A:=A.eqv (v':=(.bool ((((((!((decide (aU<(m.nodes.length:Int)))==(decide (0≤D.a))))||((decide (0≤D.a))&&(!decide (D.a=aU))))||((decide (D.a<0))&&(!decide (D.a=(-1)))))||(decide (D.b<(-1))))||(decide ((jA.length:Int)≤D.b)))||((decide (D.a<0))&&(decide (D.b≤aT)))))) (by rw[hc10];rfl)
     exact aA ⟨A.cut ⟨O,O,O,O,O,O,O,O,O,O,tv⟩,B⟩
    rintro a w ⟨A,B⟩
    refine aA ?_
    refine dJ A O (fun hc12=>?_) (fun hc12=>?_)
    ·replace hj1:=(it hc12).symm.trans hj1
     refine aG (aC ?_)
     refine S A 1 O fun a A=>aA (dF ?_)
     obtain rfl:=oj hj1
     refine⟨_,(oj q).symm,fun hb=>?_⟩
     subst hb
     obtain rfl:=oj hm
     exact iK A O O ⟨_,O,O,((((((((((((((B.get 6 O).drop).get 5 O).drop).get 4 O).drop).get 3 O).drop).get 2 O).drop).get 1 O).drop).drop).less hley1)⟩
    replace hj1:=(ie hc12).symm.trans hj1
    refine bD (aG ?_)
    refine aG (aC ?_)
    refine V A B O (xf A eQ O O) fun a A=>V A B O (xl A aY 0 O O O O) fun a A=>S A 1 O fun a A=>aA ?_
    obtain⟨j2,hj2,hj1⟩:=bnd hj1
    refine k_cut (fun a w=>Env 174 [(7,(Pv y3 0)),(8,(Pv y4 0)),(9,w5),(10,w14),(11,(Iv j2)),(13,(Pv b25 0)),(32,vp2),(33,(Iv (p2.length:Int))),(34,(Iv aU))] a∧Hp Z ρy1 (Pt b25 (.cells #[(Iv D.a),(Iv D.b)] 46 (0,0))::aF 46 w14 fV::aF 4 w5 jA::Pt y4 (.cells #[yv1,yv2,yv3] 75 (0,0))::Pt y3 (.cells #[yv4,yv5,yv6] 75 (0,0))::Pt b2 (.cells #[(Iv H.kind),(.string H.text),(Iv H.at_),(Iv H.fin),aN] 24 (0,0))::Pt b1 (.cells #[(Iv I.kind),(.string I.text),(Iv I.at_),(Iv I.fin),aI] 24 (0,0))::L) w) ?_ ?_
    ·
     refine dJ A O (fun hc13=>?_) (fun hc13=>?_)
     ·replace hj2:=(it hc13).symm.trans hj2
      refine aC (V A B O (xf A eP O O) fun a A=>?_)
      refine V A B O (xl A aY 0 O O O O) fun a A=>S A 1 O fun a A=>aA ?_
      obtain rfl:=oj hj2
      exact⟨A.cut ⟨O,O,O,O,O,O,O,O,O,tv⟩,B⟩
     replace hj2:=(ie hc13).symm.trans hj2
     refine bD ?_
     obtain rfl:=oj hj2
     exact⟨A.cut ⟨O,O,O,O,O,O,O,O,O,tv⟩,B⟩
    rintro a w ⟨A,B⟩
    refine aG (aG ?_)
    refine aC (V A B O (xf A eP O O) fun a A=>?_)
    refine V A B O (xl A aY 0 O O O O) fun a A=>S A 1 O fun a A=>aA ?_
    refine dJ A O (fun hc14=>?_) (fun hc14=>?_)
    ·replace hj1:=(it hc14).symm.trans hj1
     refine eU ?_
     obtain rfl:=oj hj1
     exact⟨_,O,_,_,A.cut ⟨O,O,O,O,O,O,O,O,tv⟩,(B.drop)⟩
    replace hj1:=(ie hc14).symm.trans hj1
    refine bD (aG ?_)
    refine aG (aC ?_)
    refine S A 1 O fun a A=>V A B O (xf A eP O O) fun a A=>V A B O (xl A aY 0 O O O O) fun a A=>?_
    obtain⟨x5,ex5,hj1⟩:=bnd hj1
    obtain⟨b26,b26o,b26r,b26v,b26f⟩:=aF.at B 2 O zZ ex5
    refine V A B O (aP O A O O b26r) fun a A=>V A B O (aK O A O (fun w x=>bF aC5 (b26f 0 _ O _ _ w (x.get 2 O)))) fun a A=>aA ?_
    have A:=A.cut (E':=[(7,(Pv y3 0)),(8,(Pv y4 0)),(9,w5),(10,w14),(11,(Iv j2)),(13,(Pv b25 0)),(32,vp2),(33,(Iv (p2.length:Int))),(34,(Iv aU)),(104,(.bool x5))]) ⟨O,O,O,O,O,O,O,O,O,O,tv⟩
    refine dJ A O (fun hc15=>?_) (fun hc15=>?_)
    ·replace hj1:=(it hc15).symm.trans hj1
     refine aG (aC ?_)
     refine S A 1 O fun a A=>aA (dF ?_)
     obtain rfl:=oj hj1
     refine⟨_,(oj q).symm,fun hb=>?_⟩
     subst hb
     obtain rfl:=oj hm
     exact iK A O O ⟨_,O,O,((((((((((((((B.get 6 O).drop).get 5 O).drop).get 4 O).drop).get 3 O).drop).get 2 O).drop).get 1 O).drop).drop).less hley1)⟩
    replace hj1:=(ie hc15).symm.trans hj1
    refine bD (aG ?_)
    refine aC (S A 1 O fun a A=>?_)
    refine V A B O (xf A eP O O) fun a A=>V A B O (xl A aY 0 O O O O) fun a A=>?_
    obtain⟨x6,ex6,hj1⟩:=bnd hj1
    obtain⟨b27,b27o,b27r,b27v,b27f⟩:=aF.at B 2 O zZ ex6
    refine V A B O (aP O A O O b27r) fun a A=>?_
    refine Z9 (wk0 O) O A B O O O 2 O ex6 b27v 0 (e':=true) aC5.size_ O O O ⟨O,O⟩ ?_
    intro w B
    have B:=r7 B
    refine aA (aG ?_)
    refine aC (V A B O (xf A eQ O O) fun a A=>?_)
    refine V A B O (xl A aY 0 O O O O) fun a A=>S A 1 O fun a A=>aA ?_
    refine dJ A O (fun hc16=>?_) (fun hc16=>?_)
    ·replace hj1:=(it hc16).symm.trans hj1
     refine aC (S A 1 O fun a A=>?_)
     refine V A B O (aK O A O (fun w x=>aV (cs:=[(Iv D.a),(Iv D.b)]) fO (Hp.cN 0 O 0 _ (aS O) w x))) fun a A=>?_
     refine dR (wk0 O) O O A B O [(0,(.agg #[(Iv D.a),(Iv D.b)]))] ⟨⟨O,O⟩,tv⟩ [(Iv D.a),(Iv D.b)] 46 (fun w=>by simp[Instr.buildSlice,Instr.fill,Value.cells,go_sem]) ?_
     intro a w b28 A B
     have B:=r8 B
     obtain⟨x7,ex7,hj1⟩:=bnd hj1
     refine dL (wk0 O) O O A B O aJ O O 2 O O (l2:=[D]) O (fun j u hj=>by have:=Hp.cN 0 O 0 _ (aS O) w B j u hj;simpa using this) ex7 ?_
     intro v2 a w A B
     have B:=r8 B
     refine S A 1 O fun a A=>aA ?_
     obtain rfl:=oj hj1
     exact⟨_,O,_,_,A.cut ⟨O,O,O,O,O,O,O,O,tv⟩,(((B.get 1 O).drop).drop)⟩
    replace hj1:=(ie hc16).symm.trans hj1
    refine bD ?_
    obtain rfl:=oj hj1
    exact⟨_,O,_,_,A.cut ⟨O,O,O,O,O,O,O,O,tv⟩,(B.drop)⟩
   rintro a w ⟨j1s,rfl,w14,w5,A,B⟩
   dsimp only at q
   refine aC ?_
   obtain⟨x8,ex8,q⟩:=bnd q
   refine V A B O (bI O A O O (aO ex8)) fun a A=>S A 1 O fun a A=>aA ?_
   have A:=A.cut (E':=[(7,(Pv y3 0)),(8,(Pv y4 0)),(9,w5),(10,w14),(11,(Iv j1s.1)),(32,vp2),(33,(Iv (p2.length:Int))),(34,(Iv x8))]) ⟨O,O,O,O,O,O,O,O,tv⟩
   exact⟨_,(oj q).symm,_,_,A.cut ⟨O,O,O,O,O,O,O,O,tv⟩,B⟩
  replace q:=(ie hc3).symm.trans q
  refine eU ?_
  refine⟨_,(oj q).symm,fun hbb=>?_⟩
  exact⟨_,hbb.symm,_,_,A.cut ⟨O,O,O,O,tv⟩,B⟩
 rintro a w ⟨b23s,rfl,w14,w5,A,B⟩
 dsimp only at hm
 refine aG (aG ?_)
 refine aC (S A 1 O fun a A=>?_)
 refine V A B O (dB O A O (aF.len B 0 O aJ)) fun a A=>S A 1 O fun a A=>aA ?_
 obtain⟨b29,hc17,hm⟩:=bnd hm
 refine dQ (fun a w=>∃s:Unit,b29= .brk s∧(Env 174 [(9,w5)] a∧Hp Z ρy1 (aF 46 w14 b23s.1::aF 4 w5 b23s.2::Pt y4 (.cells #[yv1,yv2,yv3] 75 (0,0))::Pt y3 (.cells #[yv4,yv5,yv6] 75 (0,0))::Pt b2 (.cells #[(Iv H.kind),(.string H.text),(Iv H.at_),(Iv H.fin),aN] 24 (0,0))::Pt b1 (.cells #[(Iv I.kind),(.string I.text),(Iv I.at_),(Iv I.fin),aI] 24 (0,0))::L) w)) ?_ ?_
 ·refine fK hc17 (fun s a w=>Env 174 [(7,(Pv y3 0)),(8,(Pv y4 0)),(9,w5),(10,w14),(117,w14),(118,(Iv (b23s.1.length:Int))),(119,(Iv s))] a∧Hp Z ρy1 (aF 46 w14 b23s.1::aF 4 w5 b23s.2::Pt y4 (.cells #[yv1,yv2,yv3] 75 (0,0))::Pt y3 (.cells #[yv4,yv5,yv6] 75 (0,0))::Pt b2 (.cells #[(Iv H.kind),(.string H.text),(Iv H.at_),(Iv H.fin),aN] 24 (0,0))::Pt b1 (.cells #[(Iv I.kind),(.string I.text),(Iv I.at_),(Iv I.fin),aI] 24 (0,0))::L) w) ?_ ?_
  ·exact⟨A.cut ⟨O,O,O,O,O,O,O,tv⟩,B⟩
  rintro bK st a w ⟨A,B⟩ l
  unfold mO at l
  refine aG (aC ?_)
  refine S A 1 O fun a A=>aA (aG ?_)
  refine dJ A O (fun hc18=>?_) (fun hc18=>?_)
  ·replace l:=(it hc18).symm.trans l
   refine bD (aG ?_)
   refine dS (aG ?_)
   refine aC (S A 1 O fun a A=>?_)
   obtain⟨x9,ex9,l⟩:=bnd l
   obtain⟨b30,b30o,b30r,b30v,b30f⟩:=aF.at B 0 O aJ ex9
   refine V A B O (aP O A O O b30r) fun a A=>V A B O (aK O A O (fun w x=>aV (cs:=[(Iv x9.a),(Iv x9.b)]) fO (fun j u hj=>b30f j u hj _ _ w (x.get 0 O)))) fun a A=>?_
   refine dM (wk0 O) O O A B O [(Iv 0),(Iv 0)] (fun w=>by simp[Instr.alloc,go_sem]<;>rfl) ?_
   intro a w b31 A B
   have B:=r7 B
   refine S A 1 O fun a A=>?_
   refine aX (wk0 O) O A B O O O 0 O fO.size_ O (aQ ⟨O,O,tv⟩) [(Iv x9.a),(Iv x9.b)] O ?_
   intro w B
   have B:=r7 B
   refine aA (aG ?_)
   refine aC (S A 2 O fun a A=>?_)
   obtain⟨x10,ex10,l⟩:=bnd l
   obtain⟨v3,v3r,v3f⟩:=aF.viewF B 1 O aJ none (some (.i64,bK)) O O ex10
   refine V A B O (v:=v3) (fM O A O none (some (.i64,bK)) (by exact trivial) (by exact O) v3r) fun a A=>V A B O (dB O A O (ViewF.len v3f B 1 O aJ)) fun a A=>S A 1 O fun a A=>aA ?_
   have A:=A.cut (E':=[(7,(Pv y3 0)),(8,(Pv y4 0)),(9,w5),(10,w14),(15,(Pv b31 0)),(117,w14),(118,(Iv (b23s.1.length:Int))),(119,(Iv bK)),(126,v3),(127,(Iv (x10.length:Int))),(128,(Iv 0))]) ⟨O,O,O,O,O,O,O,O,O,O,O,tv⟩
   obtain⟨b32,hc19,l⟩:=bnd l
   refine dQ (fun a w=>∃s:Unit,b32= .brk s∧(Env 174 [(7,(Pv y3 0)),(8,(Pv y4 0)),(9,w5),(10,w14),(117,w14),(118,(Iv (b23s.1.length:Int))),(119,(Iv bK))] a∧Hp Z ρy1 (Pt b31 (.cells #[(Iv x9.a),(Iv x9.b)] 46 (0,0))::aF 46 w14 b23s.1::aF 4 w5 b23s.2::Pt y4 (.cells #[yv1,yv2,yv3] 75 (0,0))::Pt y3 (.cells #[yv4,yv5,yv6] 75 (0,0))::Pt b2 (.cells #[(Iv H.kind),(.string H.text),(Iv H.at_),(Iv H.fin),aN] 24 (0,0))::Pt b1 (.cells #[(Iv I.kind),(.string I.text),(Iv I.at_),(Iv I.fin),aI] 24 (0,0))::L) w)) ?_ ?_
   ·refine fK hc19 (fun s a w=>Env 174 [(7,(Pv y3 0)),(8,(Pv y4 0)),(9,w5),(10,w14),(15,(Pv b31 0)),(117,w14),(118,(Iv (b23s.1.length:Int))),(119,(Iv bK)),(126,v3),(127,(Iv (x10.length:Int))),(128,(Iv s))] a∧Hp Z ρy1 (Pt b31 (.cells #[(Iv x9.a),(Iv x9.b)] 46 (0,0))::aF 46 w14 b23s.1::aF 4 w5 b23s.2::Pt y4 (.cells #[yv1,yv2,yv3] 75 (0,0))::Pt y3 (.cells #[yv4,yv5,yv6] 75 (0,0))::Pt b2 (.cells #[(Iv H.kind),(.string H.text),(Iv H.at_),(Iv H.fin),aN] 24 (0,0))::Pt b1 (.cells #[(Iv I.kind),(.string I.text),(Iv I.at_),(Iv I.fin),aI] 24 (0,0))::L) w) ?_ ?_
    ·exact⟨A.cut ⟨O,O,O,O,O,O,O,O,O,O,O,tv⟩,B⟩
    rintro fP st a w ⟨A,B⟩ k
    unfold qX at k
    refine aG (aC ?_)
    refine S A 1 O fun a A=>aA (aG ?_)
    refine dJ A O (fun hc20=>?_) (fun hc20=>?_)
    ·replace k:=(it hc20).symm.trans k
     refine bD (aG ?_)
     refine dS (aG ?_)
     refine aC ?_
     obtain⟨y,ex11,k⟩:=bnd k
     obtain⟨b33,b33o,b33r,b33f⟩:=ViewF.at v3f B 1 O aJ ex11
     refine V A B O (aP O A O O b33r) fun a A=>V A B O (aK O A O (fun w x=>aV (cs:=[(Iv y.a),(Iv y.b)]) fO (fun j u hj=>b33f j u hj _ _ w (x.get 1 O)))) fun a A=>?_
     refine dM (wk0 O) O O A B O [(Iv 0),(Iv 0)] (fun w=>by simp[Instr.alloc,go_sem]<;>rfl) ?_
     intro a w b34 A B
     have B:=r8 B
     refine aX (wk0 O) O A B O O O 0 O fO.size_ O (aQ ⟨O,O,tv⟩) [(Iv y.a),(Iv y.b)] O ?_
     intro w B
     have B:=r8 B
     refine aA (aG ?_)
     refine kJ kr kr B ?_
     refine Vq A O (xf A eP O O) fun a A=>Vq A O (xl A aY 0 O O O O) fun a A=>Vq A O (xf A eP O O) fun a A=>Vq A O (xl A aY 1 O O O O) fun a A=>Sq A 2 O fun a A=>?_
     obtain⟨m1,hg1,k⟩:=bnd k
     refine q_cut [_,_,_,_,_,_,_,_] (fun a=>Env 174 [(145,(.bool m1)),(7,(Pv y3 0)),(8,(Pv y4 0)),(9,w5),(10,w14),(15,(Pv b31 0)),(17,(Pv b34 0)),(117,w14),(118,(Iv (b23s.1.length:Int))),(119,(Iv bK)),(126,v3),(127,(Iv (x10.length:Int))),(128,(Iv fP))] a) ?_ ?_
     ·rcases uW (decide (x9.b<y.b)) with hc21|hc21
      ·
       replace hg1:=(it hc21).symm.trans hg1
       refine Gq A hc21 O (aK O A O (fun w x=>aV (cs:=[yv1,yv2,yv3]) dD (Hp.cN 4 O 0 _ (aS O) w x))) fun a A=>Gq A hc21 O (xf A eP O O) fun a A=>Gq A hc21 O (xl A aY 1 O O O O) fun a A=>Gq A hc21 O (xf A eP O O) fun a A=>Gq A hc21 O (xl A aY 0 O O O O) fun a A=>?_
       obtain⟨x12,ex12,hg1⟩:=bnd hg1
       refine J7 (wk1 A O O O hc21) O O A O [(.agg #[yv1,yv2,yv3]),(Iv x9.b),(Iv y.b)] ⟨O,O,O,tv⟩ ent45 (v:=(.bool x12)) (fun w x=>Calls.mono (kV x2 yv1 yh1 yv2 yh2 yv3 yh3 x9.b y.b x x12 ex12) fun e w' ⟨v,he,hv,hh⟩=>⟨by rw[he,hv],hh⟩) ?_
       intro a A
       refine Gq A hc21 O (ex_not O A O) fun a A=>Vq A O (v:=(.bool (!x12))) (jG O A O hc21 O) fun a A=>?_
       obtain rfl:=oj hg1
       exact jY (A.cut ⟨O,O,O,O,O,O,O,O,O,O,O,O,O,tv⟩)
      replace hg1:=(ie hc21).symm.trans hg1
      refine Gkq A hc21 O fun a A=>Gkq A hc21 O fun a A=>Gkq A hc21 O fun a A=>Gkq A hc21 O fun a A=>Gkq A hc21 O fun a A=>Gkq A hc21 O fun a A=>Gkq A hc21 O fun a A=>?_
      refine Vq A O (v:=(.bool false)) (iR O A O hc21 O) fun a A=>?_
      obtain rfl:=oj hg1
      exact jY (A.cut ⟨O,O,O,O,O,O,O,O,O,O,O,O,O,tv⟩)
     intro a A
     refine Sq A 1 O fun a A=>?_
     obtain⟨m2,hg2,k⟩:=bnd k
     refine q_cut [_,_,_,_,_,_,_,_,_,_,_,_,_,_] (fun a=>Env 174 [(160,(.bool m2)),(7,(Pv y3 0)),(8,(Pv y4 0)),(9,w5),(10,w14),(15,(Pv b31 0)),(17,(Pv b34 0)),(117,w14),(118,(Iv (b23s.1.length:Int))),(119,(Iv bK)),(126,v3),(127,(Iv (x10.length:Int))),(128,(Iv fP))] a) ?_ ?_
     ·rcases uW m1 with hc22|hc22
      ·
       replace hg2:=(it hc22).symm.trans hg2
       refine Gkq A hc22 O fun a A=>Gkq A hc22 O fun a A=>Gkq A hc22 O fun a A=>Gkq A hc22 O fun a A=>Gkq A hc22 O fun a A=>Gkq A hc22 O fun a A=>Gkq A hc22 O fun a A=>Gkq A hc22 O fun a A=>Gkq A hc22 O fun a A=>Gkq A hc22 O fun a A=>Gkq A hc22 O fun a A=>Gkq A hc22 O fun a A=>Gkq A hc22 O fun a A=>?_
       refine Vq A O (v:=(.bool true)) (jG O A O hc22 O) fun a A=>?_
       obtain rfl:=oj hg2
       exact jY (A.cut ⟨O,O,O,O,O,O,O,O,O,O,O,O,O,tv⟩)
      replace hg2:=(ie hc22).symm.trans hg2
      refine Gq A hc22 O (aK O A O (fun w x=>aV (cs:=[yv4,yv5,yv6]) dD (Hp.cN 5 O 0 _ (aS O) w x))) fun a A=>Gq A hc22 O (xf A eQ O O) fun a A=>Gq A hc22 O (xl A aY 0 O O O O) fun a A=>Gq A hc22 O (xf A eQ O O) fun a A=>Gq A hc22 O (xl A aY 1 O O O O) fun a A=>?_
      obtain⟨x13,ex13,hg2⟩:=bnd hg2
      refine J7 (wk1 A O O O hc22) O O A O [(.agg #[yv4,yv5,yv6]),(Iv y.a),(Iv x9.a)] ⟨O,O,O,tv⟩ ent45 (v:=(.bool x13)) (fun w x=>Calls.mono (kV m yv4 yh4 yv5 yh5 yv6 yh6 y.a x9.a x x13 ex13) fun e w' ⟨v,he,hv,hh⟩=>⟨by rw[he,hv],hh⟩) ?_
      intro a A
      refine Gq A hc22 O (aK O A O (fun w x=>aV (cs:=[yv1,yv2,yv3]) dD (Hp.cN 4 O 0 _ (aS O) w x))) fun a A=>Gq A hc22 O (xf A eP O O) fun a A=>Gq A hc22 O (xl A aY 0 O O O O) fun a A=>Gq A hc22 O (xf A eP O O) fun a A=>Gq A hc22 O (xl A aY 1 O O O O) fun a A=>?_
      obtain⟨x14,ex14,hg2⟩:=bnd hg2
      refine J7 (wk1 A O O O hc22) O O A O [(.agg #[yv1,yv2,yv3]),(Iv y.b),(Iv x9.b)] ⟨O,O,O,tv⟩ ent45 (v:=(.bool x14)) (fun w x=>Calls.mono (kV x2 yv1 yh1 yv2 yh2 yv3 yh3 y.b x9.b x x14 ex14) fun e w' ⟨v,he,hv,hh⟩=>⟨by rw[he,hv],hh⟩) ?_
      intro a A
      refine Gq A hc22 O (v:=(.bool (!(x13==x14)))) (ex_bneq bty4 O A O O) fun a A=>Vq A O (v:=(.bool (!(x13==x14)))) (iR O A O hc22 O) fun a A=>?_
      obtain rfl:=oj hg2
      exact jY (A.cut ⟨O,O,O,O,O,O,O,O,O,O,O,O,O,tv⟩)
     intro a A
     refine Sq A 1 O fun a A=>?_
     obtain⟨m3,hg3,k⟩:=bnd k
     refine q_cut [_,_,_,_,_,_,_] (fun a=>Env 174 [(168,(.bool m3)),(7,(Pv y3 0)),(8,(Pv y4 0)),(9,w5),(10,w14),(15,(Pv b31 0)),(117,w14),(118,(Iv (b23s.1.length:Int))),(119,(Iv bK)),(126,v3),(127,(Iv (x10.length:Int))),(128,(Iv fP))] a) ?_ ?_
     ·rcases uW m2 with hc23|hc23
      ·
       replace hg3:=(it hc23).symm.trans hg3
       refine Gkq A hc23 O fun a A=>Gkq A hc23 O fun a A=>Gkq A hc23 O fun a A=>Gkq A hc23 O fun a A=>Gkq A hc23 O fun a A=>Gkq A hc23 O fun a A=>?_
       refine Vq A O (v:=(.bool true)) (jG O A O hc23 O) fun a A=>?_
       obtain rfl:=oj hg3
       exact jY (A.cut ⟨O,O,O,O,O,O,O,O,O,O,O,O,tv⟩)
      replace hg3:=(ie hc23).symm.trans hg3
      refine Gq A hc23 O (aK O A O (fun w x=>aV (cs:=[yv1,yv2,yv3]) dD (Hp.cN 4 O 0 _ (aS O) w x))) fun a A=>Gq A hc23 O (xf A eP O O) fun a A=>Gq A hc23 O (xl A aY 1 O O O O) fun a A=>Gq A hc23 O (xf A eP O O) fun a A=>Gq A hc23 O (xl A aY 0 O O O O) fun a A=>?_
      obtain⟨x15,ex15,hg3⟩:=bnd hg3
      refine J7 (wk1 A O O O hc23) O O A O [(.agg #[yv1,yv2,yv3]),(Iv x9.b),(Iv y.b)] ⟨O,O,O,tv⟩ ent45 (v:=(.bool x15)) (fun w x=>Calls.mono (kV x2 yv1 yh1 yv2 yh2 yv3 yh3 x9.b y.b x x15 ex15) fun e w' ⟨v,he,hv,hh⟩=>⟨by rw[he,hv],hh⟩) ?_
      intro a A
      refine Vq A O (v:=(.bool x15)) (iR O A O hc23 O) fun a A=>?_
      obtain rfl:=oj hg3
      exact jY (A.cut ⟨O,O,O,O,O,O,O,O,O,O,O,O,tv⟩)
     intro a A
     refine jY fun w B=>?_
     have B:=r8 B
     refine dJ A O (fun hc24=>?_) (fun hc24=>?_)
     ·replace k:=(it hc24).symm.trans k
      refine aG (aC ?_)
      refine S A 1 O fun a A=>aA (dF ?_)
      refine⟨_,(oj k).symm,fun hb=>?_⟩
      subst hb
      refine⟨_,(oj l).symm,fun hb=>?_⟩
      subst hb
      obtain rfl:=oj hm
      exact iK A O O ⟨_,O,O,((((((((((((((((B.get 7 O).drop).get 6 O).drop).get 5 O).drop).get 4 O).drop).get 3 O).drop).get 2 O).drop).get 1 O).drop).drop).less hley1)⟩
     replace k:=(ie hc24).symm.trans k
     refine bD (aC ?_)
     obtain⟨x16,ex16,k⟩:=bnd k
     refine V A B O (bI O A O O (aO ex16)) fun a A=>S A 1 O fun a A=>aA ?_
     exact⟨_,(oj k).symm,A.cut ⟨O,O,O,O,O,O,O,O,O,O,O,tv⟩,(B.drop)⟩
    replace k:=(ie hc20).symm.trans k
    refine eU ?_
    refine⟨_,(oj k).symm,fun hbb=>?_⟩
    exact⟨_,hbb.symm,A.cut ⟨O,O,O,O,O,O,O,tv⟩,B⟩
   rintro a w ⟨b32s,rfl,A,B⟩
   dsimp only at l
   refine aC ?_
   obtain⟨x17,ex17,l⟩:=bnd l
   refine V A B O (bI O A O O (aO ex17)) fun a A=>S A 1 O fun a A=>aA ?_
   exact⟨_,(oj l).symm,A.cut ⟨O,O,O,O,O,O,O,tv⟩,(B.drop)⟩
  replace l:=(ie hc18).symm.trans l
  refine eU ?_
  refine⟨_,(oj l).symm,fun hbb=>?_⟩
  exact⟨_,hbb.symm,A.cut ⟨O,tv⟩,B⟩
 rintro a w ⟨b29s,rfl,A,B⟩
 dsimp only at hm
 refine aG (aC ?_)
 refine S A 1 O fun a A=>?_
 obtain⟨k1,k1a,k1d,k1h⟩:=(B.get 1 O).lend
 obtain⟨x18,ex18,hm⟩:=bnd hm
 refine Cl A O O ent46 (zW b23s.2 w5 (aF.ro k1d k1a) false k1h x18 ex18) ⟨O,O,tv⟩ fun v a w p A=>?_
 obtain⟨rfl,B⟩:=p
 have B:=Hp.back k1a k1d B
 have B:=r6 B
 refine S A 2 O fun a A=>aA (dF ?_)
 obtain rfl:=oj hm
 exact iK A O O ⟨_,O,O,((((((((((((B.get 5 O).drop).get 4 O).drop).get 3 O).drop).get 2 O).drop).get 1 O).drop).drop).less hley1)⟩
theorem D8 {Z:World} {ρ:PH} {L:List bP} {w:World} (i:Node) (aI:Value) (bG:aH ρ aI i.kids) (c:Node) (aN:Value) (bT:aH ρ aN c.kids) (p2:(List Opn)) (vp2:Value) (hp2:aH ρ vp2 p2) (A:Hp Z ρ (L) w) (r:(Int×Int)) (p:qV i c p2=some r):
  Calls Tryz.prog 15 #[(.agg #[(Iv i.kind),(.string i.text),(Iv i.at_),(Iv i.fin),aI]),(.agg #[(Iv c.kind),(.string c.text),(Iv c.at_),(Iv c.fin),aN]),vp2] w (Ret fun v w'=>v= .tuple #[(Iv r.1),(Iv r.2)]∧Hp Z ρ (L) w'):=by
 refine enter (N:=56) Tryz.func15 O O [(0,(.agg #[(Iv i.kind),(.string i.text),(Iv i.at_),(Iv i.fin),aI])),(1,(.agg #[(Iv c.kind),(.string c.text),(Iv c.at_),(Iv c.fin),aN])),(2,vp2)] O (bC ⟨O,O,O,tv⟩) fun a B=>?_
 unfold qV at p
 refine aG (aC ?_)
 refine jD (wk0 O) O O B A O (v:=(.agg #[(Iv i.kind),(.string i.text),(Iv i.at_),(Iv i.fin),aI])) O ?_
 intro a w b1 B A
 have A:=r1 A
 refine jD (wk0 O) O O B A O (v:=(.agg #[(Iv c.kind),(.string c.text),(Iv c.at_),(Iv c.fin),aN])) O ?_
 intro a w b2 B A
 have A:=r2 A
 refine S B 2 O fun a B=>aA (aG ?_)
 refine aG (aC ?_)
 refine V B A O (aK O B O (fun w o=>aV (cs:=[(Iv i.kind),(.string i.text),(Iv i.at_),(Iv i.fin),aI]) dC (Hp.cN 1 O 0 _ (aS O) w o))) fun a B=>V B A O (aK O B O (fun w o=>aV (cs:=[(Iv c.kind),(.string c.text),(Iv c.at_),(Iv c.fin),aN]) dC (Hp.cN 0 O 0 _ (aS O) w o))) fun a B=>S B 1 O fun a B=>?_
 obtain⟨x1,ex1,p⟩:=bnd p
 refine Cl B O O ent17 (uF i aI bG c aN bT p2 vp2 hp2 A x1 ex1) ⟨O,O,O,tv⟩ fun v a w k B=>?_
 obtain⟨rfl,A⟩:=k
 have A:=r2 A
 refine S B 1 O fun a B=>aA ?_
 refine dJ B O (fun hc1=>?_) (fun hc1=>?_)
 ·replace p:=(it hc1).symm.trans p
  refine aG (aC ?_)
  refine S B 2 O fun a B=>aA (dF ?_)
  obtain rfl:=oj p
  exact yQ B O O O ⟨_,O,O,(((A.get 1 O).drop).drop)⟩
 replace p:=(ie hc1).symm.trans p
 refine bD (aG ?_)
 obtain⟨z,y,p⟩:=bnd p
 obtain⟨q,m,p⟩:=bnd p
 have A:=A.drew
 refine iC ([([],At0 Z ρ),([],At1 Z ρ (Pt b2 (.cells #[(Iv c.kind),(.string c.text),(Iv c.at_),(Iv c.fin),aN] 24 (0,0)))),([],At1 Z ρ (Pt b1 (.cells #[(Iv i.kind),(.string i.text),(Iv i.at_),(Iv i.fin),aI] 24 (0,0))))]:Facts) (fun a w=>∃ρy1:PH,∃y4:Nat,∃y3:Nat,∃yv1:Value,∃yv2:Value,∃yv3:Value,∃yv4:Value,∃yv5:Value,∃yv6:Value,ρ.le ρy1∧aH ρy1 yv1 q.nodes∧aH ρy1 yv2 q.sizes∧aH ρy1 yv3 q.parent∧aH ρy1 yv4 z.nodes∧aH ρy1 yv5 z.sizes∧aH ρy1 yv6 z.parent∧Env 56 [(2,vp2),(8,(Pv y3 0)),(9,(Pv y4 0)),(10,(Iv 0))] a∧Hp Z ρy1 (Pt y4 (.cells #[yv1,yv2,yv3] 75 (0,0))::Pt y3 (.cells #[yv4,yv5,yv6] 75 (0,0))::Pt b2 (.cells #[(Iv c.kind),(.string c.text),(Iv c.at_),(Iv c.fin),aN] 24 (0,0))::Pt b1 (.cells #[(Iv i.kind),(.string i.text),(Iv i.at_),(Iv i.fin),aI] 24 (0,0))::L) w) kr ⟨fun _=>⟨_,A⟩,fun _=>⟨_,(A.get 0 O)⟩,fun _=>⟨_,(A.get 1 O)⟩,tv⟩ (fun G=>?_) ?_
 ·
  generalize w.drew=w at G A⊢
  refine T 0 2 B G O O O kr (fun _=>aK O B O (fun w o=>aV (cs:=[(Iv i.kind),(.string i.text),(Iv i.at_),(Iv i.fin),aI]) dC (Hp.cN 0 O 0 _ (aS O) w o))) fun a B G=>T 2 1 B G O O O kr (fun _=>aK O B O (fun w o=>aV (cs:=[(Iv c.kind),(.string c.text),(Iv c.at_),(Iv c.fin),aN]) dC (Hp.cN 0 O 0 _ (aS O) w o))) fun a B G=>?_
  refine dY [1,4,5] kr O ?_
  refine uE.2 ⟨?_,uE.2 ⟨?_,uE.2 ⟨?_,fun _ h=>absurd h (by simp)⟩⟩⟩
  ·
   refine bW O ?_
   refine Cl B O O kE (bH i aI bG A z y) ⟨O,tv⟩ fun v a w k B=>?_
   obtain⟨ρ3,nH,nI,lH,C,rfl,gW,gX,fQ,A⟩:=k
   have A:=r2 A
   refine aA (aB ⟨fun _=>⟨_,(A.less C)⟩,fun _=>⟨_,((A.get 0 O).less C)⟩,fun _=>⟨_,((A.get 1 O).less C)⟩,tv⟩ fun G=>?_)
   refine dY [3,4,5] kr O ?_
   refine uE.2 ⟨?_,uE.2 ⟨?_,uE.2 ⟨?_,fun _ h=>absurd h (by simp)⟩⟩⟩
   ·
    refine bW O ?_
    refine Cl B O O kE (bH c aN (aH.mono bT C) A q m) ⟨O,tv⟩ fun v a w k B=>?_
    obtain⟨ρ4,sO,sQ,qE,E,rfl,nR,nS,lS,A⟩:=k
    have A:=r2 A
    refine aA (aB ⟨fun _=>⟨_,((A.less E).less C)⟩,fun _=>⟨_,(((A.get 0 O).less E).less C)⟩,fun _=>⟨_,(((A.get 1 O).less E).less C)⟩,tv⟩ fun G=>?_)
    refine dY [4,5] kr O ?_
    refine uE.2 ⟨?_,uE.2 ⟨?_,fun _ h=>absurd h (by simp)⟩⟩
    ·
     refine bW O ?_
     refine dM (wk0 O) O O B A O [N0,N0,N0] (fun w=>by simp[Instr.alloc,go_sem]<;>rfl) ?_
     intro a w b5 B A
     have A:=r3 A
     refine aA (aB ⟨fun _=>⟨_,((A.less E).less C)⟩,fun _=>⟨_,(((A.get 1 O).less E).less C)⟩,fun _=>⟨_,(((A.get 2 O).less E).less C)⟩,tv⟩ fun G=>?_)
     refine W1 5 kr O ?_
     refine dM (wk0 O) O O B A O [N0,N0,N0] (fun w=>by simp[Instr.alloc,go_sem]<;>rfl) ?_
     intro a w b6 B A
     have A:=r4 A
     refine aA (aB ⟨fun _=>⟨_,((A.less E).less C)⟩,fun _=>⟨_,(((A.get 2 O).less E).less C)⟩,fun _=>⟨_,(((A.get 3 O).less E).less C)⟩,tv⟩ fun G=>?_)
     refine W1 6 kr O ?_
     refine aX (wk0 O) O B A O O O 1 O dD.size_ O (aQ ⟨(aH.one (aH.mono gW E)),(aH.one (aH.mono gX E)),(aH.one (aH.mono fQ E)),tv⟩) [nH,nI,lH] O ?_
     intro w A
     have A:=r4 A
     refine aA (aB ⟨fun _=>⟨_,((A.less E).less C)⟩,fun _=>⟨_,(((A.get 2 O).less E).less C)⟩,fun _=>⟨_,(((A.get 3 O).less E).less C)⟩,tv⟩ fun G=>?_)
     refine W1 7 kr O ?_
     refine aX (wk0 O) O B A O O O 0 O dD.size_ O (aQ ⟨(aH.one nR),(aH.one nS),(aH.one lS),tv⟩) [sO,sQ,qE] O ?_
     intro w A
     have A:=r4 A
     refine aA (aB ⟨fun _=>⟨_,((A.less E).less C)⟩,fun _=>⟨_,(((A.get 2 O).less E).less C)⟩,fun _=>⟨_,(((A.get 3 O).less E).less C)⟩,tv⟩ fun G=>?_)
     refine Ts [8] B G O O kr fun a B G=>?_
     exact aZ kr ⟨ρ4,_,_,_,_,_,_,_,_,(PH.le.tr C E),nR,nS,lS,(aH.mono gW E),(aH.mono gX E),(aH.mono fQ E),B.cut ⟨O,O,O,O,tv⟩,A⟩
    refine bW O ?_
    refine dM (wk0 O) O O B A O [N0,N0,N0] (fun w=>by simp[Instr.alloc,go_sem]<;>rfl) ?_
    intro a w b7 B A
    have A:=r3 A
    refine aA (aB ⟨fun _=>⟨_,((A.less E).less C)⟩,fun _=>⟨_,(((A.get 1 O).less E).less C)⟩,fun _=>⟨_,(((A.get 2 O).less E).less C)⟩,tv⟩ fun G=>?_)
    refine W1 4 kr O ?_
    refine dM (wk0 O) O O B A O [N0,N0,N0] (fun w=>by simp[Instr.alloc,go_sem]<;>rfl) ?_
    intro a w b8 B A
    have A:=r4 A
    refine aA (aB ⟨fun _=>⟨_,((A.less E).less C)⟩,fun _=>⟨_,(((A.get 2 O).less E).less C)⟩,fun _=>⟨_,(((A.get 3 O).less E).less C)⟩,tv⟩ fun G=>?_)
    refine W1 6 kr O ?_
    refine aX (wk0 O) O B A O O O 0 O dD.size_ O (aQ ⟨(aH.one (aH.mono gW E)),(aH.one (aH.mono gX E)),(aH.one (aH.mono fQ E)),tv⟩) [nH,nI,lH] O ?_
    intro w A
    have A:=r4 A
    refine aA (aB ⟨fun _=>⟨_,((A.less E).less C)⟩,fun _=>⟨_,(((A.get 2 O).less E).less C)⟩,fun _=>⟨_,(((A.get 3 O).less E).less C)⟩,tv⟩ fun G=>?_)
    refine W1 7 kr O ?_
    refine aX (wk0 O) O B A O O O 1 O dD.size_ O (aQ ⟨(aH.one nR),(aH.one nS),(aH.one lS),tv⟩) [sO,sQ,qE] O ?_
    intro w A
    have A:=r4 A
    refine aA (aB ⟨fun _=>⟨_,((A.less E).less C)⟩,fun _=>⟨_,(((A.get 2 O).less E).less C)⟩,fun _=>⟨_,(((A.get 3 O).less E).less C)⟩,tv⟩ fun G=>?_)
    refine Ts [8] B G O O kr fun a B G=>?_
    exact aZ kr ⟨ρ4,_,_,_,_,_,_,_,_,(PH.le.tr C E),nR,nS,lS,(aH.mono gW E),(aH.mono gX E),(aH.mono fQ E),B.cut ⟨O,O,O,O,tv⟩,((((A.get 3 O).get 3 O).get 2 O).get 3 O)⟩
   ·
    refine bW O ?_
    refine dM (wk0 O) O O B A O [N0,N0,N0] (fun w=>by simp[Instr.alloc,go_sem]<;>rfl) ?_
    intro a w b9 B A
    have A:=r3 A
    refine aA (aB ⟨fun _=>⟨_,(A.less C)⟩,fun _=>⟨_,((A.get 1 O).less C)⟩,fun _=>⟨_,((A.get 2 O).less C)⟩,tv⟩ fun G=>?_)
    refine dY [3,5] kr O ?_
    refine uE.2 ⟨?_,uE.2 ⟨?_,fun _ h=>absurd h (by simp)⟩⟩
    ·
     refine bW O ?_
     refine Cl B O O kE (bH c aN (aH.mono bT C) A q m) ⟨O,tv⟩ fun v a w k B=>?_
     obtain⟨ρ5,wB,wC,tZ,W,rfl,rX,rY,qA,A⟩:=k
     have A:=r3 A
     refine aA (aB ⟨fun _=>⟨_,((A.less W).less C)⟩,fun _=>⟨_,(((A.get 1 O).less W).less C)⟩,fun _=>⟨_,(((A.get 2 O).less W).less C)⟩,tv⟩ fun G=>?_)
     refine W1 5 kr O ?_
     refine dM (wk0 O) O O B A O [N0,N0,N0] (fun w=>by simp[Instr.alloc,go_sem]<;>rfl) ?_
     intro a w b10 B A
     have A:=r4 A
     refine aA (aB ⟨fun _=>⟨_,((A.less W).less C)⟩,fun _=>⟨_,(((A.get 2 O).less W).less C)⟩,fun _=>⟨_,(((A.get 3 O).less W).less C)⟩,tv⟩ fun G=>?_)
     refine W1 6 kr O ?_
     refine aX (wk0 O) O B A O O O 1 O dD.size_ O (aQ ⟨(aH.one (aH.mono gW W)),(aH.one (aH.mono gX W)),(aH.one (aH.mono fQ W)),tv⟩) [nH,nI,lH] O ?_
     intro w A
     have A:=r4 A
     refine aA (aB ⟨fun _=>⟨_,((A.less W).less C)⟩,fun _=>⟨_,(((A.get 2 O).less W).less C)⟩,fun _=>⟨_,(((A.get 3 O).less W).less C)⟩,tv⟩ fun G=>?_)
     refine W1 7 kr O ?_
     refine aX (wk0 O) O B A O O O 0 O dD.size_ O (aQ ⟨(aH.one rX),(aH.one rY),(aH.one qA),tv⟩) [wB,wC,tZ] O ?_
     intro w A
     have A:=r4 A
     refine aA (aB ⟨fun _=>⟨_,((A.less W).less C)⟩,fun _=>⟨_,(((A.get 2 O).less W).less C)⟩,fun _=>⟨_,(((A.get 3 O).less W).less C)⟩,tv⟩ fun G=>?_)
     refine Ts [8] B G O O kr fun a B G=>?_
     exact aZ kr ⟨ρ5,_,_,_,_,_,_,_,_,(PH.le.tr C W),rX,rY,qA,(aH.mono gW W),(aH.mono gX W),(aH.mono fQ W),B.cut ⟨O,O,O,O,tv⟩,A⟩
    refine bW O ?_
    refine dM (wk0 O) O O B A O [N0,N0,N0] (fun w=>by simp[Instr.alloc,go_sem]<;>rfl) ?_
    intro a w b11 B A
    have A:=r4 A
    refine aA (aB ⟨fun _=>⟨_,(A.less C)⟩,fun _=>⟨_,((A.get 2 O).less C)⟩,fun _=>⟨_,((A.get 3 O).less C)⟩,tv⟩ fun G=>?_)
    refine W1 3 kr O ?_
    refine Cl B O O kE (bH c aN (aH.mono bT C) A q m) ⟨O,tv⟩ fun v a w k B=>?_
    obtain⟨ρ6,X6,X7,O7,f,rfl,wY,wZ,vP,A⟩:=k
    have A:=r4 A
    refine aA (aB ⟨fun _=>⟨_,((A.less f).less C)⟩,fun _=>⟨_,(((A.get 2 O).less f).less C)⟩,fun _=>⟨_,(((A.get 3 O).less f).less C)⟩,tv⟩ fun G=>?_)
    refine W1 6 kr O ?_
    refine aX (wk0 O) O B A O O O 1 O dD.size_ O (aQ ⟨(aH.one (aH.mono gW f)),(aH.one (aH.mono gX f)),(aH.one (aH.mono fQ f)),tv⟩) [nH,nI,lH] O ?_
    intro w A
    have A:=r4 A
    refine aA (aB ⟨fun _=>⟨_,((A.less f).less C)⟩,fun _=>⟨_,(((A.get 2 O).less f).less C)⟩,fun _=>⟨_,(((A.get 3 O).less f).less C)⟩,tv⟩ fun G=>?_)
    refine W1 7 kr O ?_
    refine aX (wk0 O) O B A O O O 0 O dD.size_ O (aQ ⟨(aH.one wY),(aH.one wZ),(aH.one vP),tv⟩) [X6,X7,O7] O ?_
    intro w A
    have A:=r4 A
    refine aA (aB ⟨fun _=>⟨_,((A.less f).less C)⟩,fun _=>⟨_,(((A.get 2 O).less f).less C)⟩,fun _=>⟨_,(((A.get 3 O).less f).less C)⟩,tv⟩ fun G=>?_)
    refine Ts [8] B G O O kr fun a B G=>?_
    exact aZ kr ⟨ρ6,_,_,_,_,_,_,_,_,(PH.le.tr C f),wY,wZ,vP,(aH.mono gW f),(aH.mono gX f),(aH.mono fQ f),B.cut ⟨O,O,O,O,tv⟩,A⟩
   refine bW O ?_
   refine dM (wk0 O) O O B A O [N0,N0,N0] (fun w=>by simp[Instr.alloc,go_sem]<;>rfl) ?_
   intro a w b12 B A
   have A:=r3 A
   refine aA (aB ⟨fun _=>⟨_,(A.less C)⟩,fun _=>⟨_,((A.get 1 O).less C)⟩,fun _=>⟨_,((A.get 2 O).less C)⟩,tv⟩ fun G=>?_)
   refine dY [3,4] kr O ?_
   refine uE.2 ⟨?_,uE.2 ⟨?_,fun _ h=>absurd h (by simp)⟩⟩
   ·
    refine bW O ?_
    refine Cl B O O kE (bH c aN (aH.mono bT C) A q m) ⟨O,tv⟩ fun v a w k B=>?_
    obtain⟨ρ7,X8,X9,O8,U,rfl,xA,xB,vS,A⟩:=k
    have A:=r3 A
    refine aA (aB ⟨fun _=>⟨_,((A.less U).less C)⟩,fun _=>⟨_,(((A.get 1 O).less U).less C)⟩,fun _=>⟨_,(((A.get 2 O).less U).less C)⟩,tv⟩ fun G=>?_)
    refine W1 4 kr O ?_
    refine dM (wk0 O) O O B A O [N0,N0,N0] (fun w=>by simp[Instr.alloc,go_sem]<;>rfl) ?_
    intro a w b13 B A
    have A:=r4 A
    refine aA (aB ⟨fun _=>⟨_,((A.less U).less C)⟩,fun _=>⟨_,(((A.get 2 O).less U).less C)⟩,fun _=>⟨_,(((A.get 3 O).less U).less C)⟩,tv⟩ fun G=>?_)
    refine W1 6 kr O ?_
    refine aX (wk0 O) O B A O O O 0 O dD.size_ O (aQ ⟨(aH.one (aH.mono gW U)),(aH.one (aH.mono gX U)),(aH.one (aH.mono fQ U)),tv⟩) [nH,nI,lH] O ?_
    intro w A
    have A:=r4 A
    refine aA (aB ⟨fun _=>⟨_,((A.less U).less C)⟩,fun _=>⟨_,(((A.get 2 O).less U).less C)⟩,fun _=>⟨_,(((A.get 3 O).less U).less C)⟩,tv⟩ fun G=>?_)
    refine W1 7 kr O ?_
    refine aX (wk0 O) O B A O O O 1 O dD.size_ O (aQ ⟨(aH.one xA),(aH.one xB),(aH.one vS),tv⟩) [X8,X9,O8] O ?_
    intro w A
    have A:=r4 A
    refine aA (aB ⟨fun _=>⟨_,((A.less U).less C)⟩,fun _=>⟨_,(((A.get 2 O).less U).less C)⟩,fun _=>⟨_,(((A.get 3 O).less U).less C)⟩,tv⟩ fun G=>?_)
    refine Ts [8] B G O O kr fun a B G=>?_
    exact aZ kr ⟨ρ7,_,_,_,_,_,_,_,_,(PH.le.tr C U),xA,xB,vS,(aH.mono gW U),(aH.mono gX U),(aH.mono fQ U),B.cut ⟨O,O,O,O,tv⟩,((((A.get 3 O).get 3 O).get 2 O).get 3 O)⟩
   refine bW O ?_
   refine dM (wk0 O) O O B A O [N0,N0,N0] (fun w=>by simp[Instr.alloc,go_sem]<;>rfl) ?_
   intro a w b14 B A
   have A:=r4 A
   refine aA (aB ⟨fun _=>⟨_,(A.less C)⟩,fun _=>⟨_,((A.get 2 O).less C)⟩,fun _=>⟨_,((A.get 3 O).less C)⟩,tv⟩ fun G=>?_)
   refine W1 3 kr O ?_
   refine Cl B O O kE (bH c aN (aH.mono bT C) A q m) ⟨O,tv⟩ fun v a w k B=>?_
   obtain⟨ρ8,G8,G9,yV,d,rfl,uH,uI,rH,A⟩:=k
   have A:=r4 A
   refine aA (aB ⟨fun _=>⟨_,((A.less d).less C)⟩,fun _=>⟨_,(((A.get 2 O).less d).less C)⟩,fun _=>⟨_,(((A.get 3 O).less d).less C)⟩,tv⟩ fun G=>?_)
   refine W1 6 kr O ?_
   refine aX (wk0 O) O B A O O O 0 O dD.size_ O (aQ ⟨(aH.one (aH.mono gW d)),(aH.one (aH.mono gX d)),(aH.one (aH.mono fQ d)),tv⟩) [nH,nI,lH] O ?_
   intro w A
   have A:=r4 A
   refine aA (aB ⟨fun _=>⟨_,((A.less d).less C)⟩,fun _=>⟨_,(((A.get 2 O).less d).less C)⟩,fun _=>⟨_,(((A.get 3 O).less d).less C)⟩,tv⟩ fun G=>?_)
   refine W1 7 kr O ?_
   refine aX (wk0 O) O B A O O O 1 O dD.size_ O (aQ ⟨(aH.one uH),(aH.one uI),(aH.one rH),tv⟩) [G8,G9,yV] O ?_
   intro w A
   have A:=r4 A
   refine aA (aB ⟨fun _=>⟨_,((A.less d).less C)⟩,fun _=>⟨_,(((A.get 2 O).less d).less C)⟩,fun _=>⟨_,(((A.get 3 O).less d).less C)⟩,tv⟩ fun G=>?_)
   refine Ts [8] B G O O kr fun a B G=>?_
   exact aZ kr ⟨ρ8,_,_,_,_,_,_,_,_,(PH.le.tr C d),uH,uI,rH,(aH.mono gW d),(aH.mono gX d),(aH.mono fQ d),B.cut ⟨O,O,O,O,tv⟩,((((A.get 3 O).get 3 O).get 2 O).get 3 O)⟩
  ·
   refine bW O ?_
   refine dM (wk0 O) O O B A O [N0,N0,N0] (fun w=>by simp[Instr.alloc,go_sem]<;>rfl) ?_
   intro a w b15 B A
   have A:=r3 A
   refine aA (aB ⟨gp0 A,gp 1 A O,gp 2 A O,tv⟩ fun G=>?_)
   refine dY [1,5] kr O ?_
   refine uE.2 ⟨?_,uE.2 ⟨?_,fun _ h=>absurd h (by simp)⟩⟩
   ·
    refine bW O ?_
    refine Cl B O O kE (bH i aI bG A z y) ⟨O,tv⟩ fun v a w k B=>?_
    obtain⟨ρ9,wP,wQ,vU,F,rfl,oW,oZ,nJ,A⟩:=k
    have A:=r3 A
    refine aA (aB ⟨fun _=>⟨_,(A.less F)⟩,fun _=>⟨_,((A.get 1 O).less F)⟩,fun _=>⟨_,((A.get 2 O).less F)⟩,tv⟩ fun G=>?_)
    refine dY [3,5] kr O ?_
    refine uE.2 ⟨?_,uE.2 ⟨?_,fun _ h=>absurd h (by simp)⟩⟩
    ·
     refine bW O ?_
     refine Cl B O O kE (bH c aN (aH.mono bT F) A q m) ⟨O,tv⟩ fun v a w k B=>?_
     obtain⟨ρ10,J9,L6,zM,I,rfl,uY,uZ,sV,A⟩:=k
     have A:=r3 A
     refine aA (aB ⟨fun _=>⟨_,((A.less I).less F)⟩,fun _=>⟨_,(((A.get 1 O).less I).less F)⟩,fun _=>⟨_,(((A.get 2 O).less I).less F)⟩,tv⟩ fun G=>?_)
     refine W1 5 kr O ?_
     refine dM (wk0 O) O O B A O [N0,N0,N0] (fun w=>by simp[Instr.alloc,go_sem]<;>rfl) ?_
     intro a w b16 B A
     have A:=r4 A
     refine aA (aB ⟨fun _=>⟨_,((A.less I).less F)⟩,fun _=>⟨_,(((A.get 2 O).less I).less F)⟩,fun _=>⟨_,(((A.get 3 O).less I).less F)⟩,tv⟩ fun G=>?_)
     refine W1 6 kr O ?_
     refine aX (wk0 O) O B A O O O 1 O dD.size_ O (aQ ⟨(aH.one (aH.mono oW I)),(aH.one (aH.mono oZ I)),(aH.one (aH.mono nJ I)),tv⟩) [wP,wQ,vU] O ?_
     intro w A
     have A:=r4 A
     refine aA (aB ⟨fun _=>⟨_,((A.less I).less F)⟩,fun _=>⟨_,(((A.get 2 O).less I).less F)⟩,fun _=>⟨_,(((A.get 3 O).less I).less F)⟩,tv⟩ fun G=>?_)
     refine W1 7 kr O ?_
     refine aX (wk0 O) O B A O O O 0 O dD.size_ O (aQ ⟨(aH.one uY),(aH.one uZ),(aH.one sV),tv⟩) [J9,L6,zM] O ?_
     intro w A
     have A:=r4 A
     refine aA (aB ⟨fun _=>⟨_,((A.less I).less F)⟩,fun _=>⟨_,(((A.get 2 O).less I).less F)⟩,fun _=>⟨_,(((A.get 3 O).less I).less F)⟩,tv⟩ fun G=>?_)
     refine Ts [8] B G O O kr fun a B G=>?_
     exact aZ kr ⟨ρ10,_,_,_,_,_,_,_,_,(PH.le.tr F I),uY,uZ,sV,(aH.mono oW I),(aH.mono oZ I),(aH.mono nJ I),B.cut ⟨O,O,O,O,tv⟩,A⟩
    refine bW O ?_
    refine dM (wk0 O) O O B A O [N0,N0,N0] (fun w=>by simp[Instr.alloc,go_sem]<;>rfl) ?_
    intro a w b17 B A
    have A:=r4 A
    refine aA (aB ⟨fun _=>⟨_,(A.less F)⟩,fun _=>⟨_,((A.get 2 O).less F)⟩,fun _=>⟨_,((A.get 3 O).less F)⟩,tv⟩ fun G=>?_)
    refine W1 3 kr O ?_
    refine Cl B O O kE (bH c aN (aH.mono bT F) A q m) ⟨O,tv⟩ fun v a w k B=>?_
    obtain⟨ρ11,L8,L9,zN,Q,rfl,vC,vF,sW,A⟩:=k
    have A:=r4 A
    refine aA (aB ⟨fun _=>⟨_,((A.less Q).less F)⟩,fun _=>⟨_,(((A.get 2 O).less Q).less F)⟩,fun _=>⟨_,(((A.get 3 O).less Q).less F)⟩,tv⟩ fun G=>?_)
    refine W1 6 kr O ?_
    refine aX (wk0 O) O B A O O O 1 O dD.size_ O (aQ ⟨(aH.one (aH.mono oW Q)),(aH.one (aH.mono oZ Q)),(aH.one (aH.mono nJ Q)),tv⟩) [wP,wQ,vU] O ?_
    intro w A
    have A:=r4 A
    refine aA (aB ⟨fun _=>⟨_,((A.less Q).less F)⟩,fun _=>⟨_,(((A.get 2 O).less Q).less F)⟩,fun _=>⟨_,(((A.get 3 O).less Q).less F)⟩,tv⟩ fun G=>?_)
    refine W1 7 kr O ?_
    refine aX (wk0 O) O B A O O O 0 O dD.size_ O (aQ ⟨(aH.one vC),(aH.one vF),(aH.one sW),tv⟩) [L8,L9,zN] O ?_
    intro w A
    have A:=r4 A
    refine aA (aB ⟨fun _=>⟨_,((A.less Q).less F)⟩,fun _=>⟨_,(((A.get 2 O).less Q).less F)⟩,fun _=>⟨_,(((A.get 3 O).less Q).less F)⟩,tv⟩ fun G=>?_)
    refine Ts [8] B G O O kr fun a B G=>?_
    exact aZ kr ⟨ρ11,_,_,_,_,_,_,_,_,(PH.le.tr F Q),vC,vF,sW,(aH.mono oW Q),(aH.mono oZ Q),(aH.mono nJ Q),B.cut ⟨O,O,O,O,tv⟩,A⟩
   refine bW O ?_
   refine dM (wk0 O) O O B A O [N0,N0,N0] (fun w=>by simp[Instr.alloc,go_sem]<;>rfl) ?_
   intro a w b18 B A
   have A:=r4 A
   refine aA (aB ⟨gp0 A,gp 2 A O,gp 3 A O,tv⟩ fun G=>?_)
   refine W1 1 kr O ?_
   refine Cl B O O kE (bH i aI bG A z y) ⟨O,tv⟩ fun v a w k B=>?_
   obtain⟨ρ12,N7,N8,zO,Y,rfl,vG,vH,sZ,A⟩:=k
   have A:=r4 A
   refine aA (aB ⟨fun _=>⟨_,(A.less Y)⟩,fun _=>⟨_,((A.get 2 O).less Y)⟩,fun _=>⟨_,((A.get 3 O).less Y)⟩,tv⟩ fun G=>?_)
   refine W1 3 kr O ?_
   refine Cl B O O kE (bH c aN (aH.mono bT Y) A q m) ⟨O,tv⟩ fun v a w k B=>?_
   obtain⟨ρ13,yR,yS,xP,M,rfl,rF,rG,pX,A⟩:=k
   have A:=r4 A
   refine aA (aB ⟨fun _=>⟨_,((A.less M).less Y)⟩,fun _=>⟨_,(((A.get 2 O).less M).less Y)⟩,fun _=>⟨_,(((A.get 3 O).less M).less Y)⟩,tv⟩ fun G=>?_)
   refine W1 6 kr O ?_
   refine aX (wk0 O) O B A O O O 1 O dD.size_ O (aQ ⟨(aH.one (aH.mono vG M)),(aH.one (aH.mono vH M)),(aH.one (aH.mono sZ M)),tv⟩) [N7,N8,zO] O ?_
   intro w A
   have A:=r4 A
   refine aA (aB ⟨fun _=>⟨_,((A.less M).less Y)⟩,fun _=>⟨_,(((A.get 2 O).less M).less Y)⟩,fun _=>⟨_,(((A.get 3 O).less M).less Y)⟩,tv⟩ fun G=>?_)
   refine W1 7 kr O ?_
   refine aX (wk0 O) O B A O O O 0 O dD.size_ O (aQ ⟨(aH.one rF),(aH.one rG),(aH.one pX),tv⟩) [yR,yS,xP] O ?_
   intro w A
   have A:=r4 A
   refine aA (aB ⟨fun _=>⟨_,((A.less M).less Y)⟩,fun _=>⟨_,(((A.get 2 O).less M).less Y)⟩,fun _=>⟨_,(((A.get 3 O).less M).less Y)⟩,tv⟩ fun G=>?_)
   refine Ts [8] B G O O kr fun a B G=>?_
   exact aZ kr ⟨ρ13,_,_,_,_,_,_,_,_,(PH.le.tr Y M),rF,rG,pX,(aH.mono vG M),(aH.mono vH M),(aH.mono sZ M),B.cut ⟨O,O,O,O,tv⟩,A⟩
  refine bW O ?_
  refine dM (wk0 O) O O B A O [N0,N0,N0] (fun w=>by simp[Instr.alloc,go_sem]<;>rfl) ?_
  intro a w b19 B A
  have A:=r3 A
  refine aA (aB ⟨gp0 A,gp 1 A O,gp 2 A O,tv⟩ fun G=>?_)
  refine dY [1,4] kr O ?_
  refine uE.2 ⟨?_,uE.2 ⟨?_,fun _ h=>absurd h (by simp)⟩⟩
  ·
   refine bW O ?_
   refine Cl B O O kE (bH i aI bG A z y) ⟨O,tv⟩ fun v a w k B=>?_
   obtain⟨ρ14,wR,wS,vV,D,rfl,pF,pG,nK,A⟩:=k
   have A:=r3 A
   refine aA (aB ⟨fun _=>⟨_,(A.less D)⟩,fun _=>⟨_,((A.get 1 O).less D)⟩,fun _=>⟨_,((A.get 2 O).less D)⟩,tv⟩ fun G=>?_)
   refine dY [3,4] kr O ?_
   refine uE.2 ⟨?_,uE.2 ⟨?_,fun _ h=>absurd h (by simp)⟩⟩
   ·
    refine bW O ?_
    refine Cl B O O kE (bH c aN (aH.mono bT D) A q m) ⟨O,tv⟩ fun v a w k B=>?_
    obtain⟨ρ15,N9,O0,zQ,H,rfl,vI,vJ,tC,A⟩:=k
    have A:=r3 A
    refine aA (aB ⟨fun _=>⟨_,((A.less H).less D)⟩,fun _=>⟨_,(((A.get 1 O).less H).less D)⟩,fun _=>⟨_,(((A.get 2 O).less H).less D)⟩,tv⟩ fun G=>?_)
    refine W1 4 kr O ?_
    refine dM (wk0 O) O O B A O [N0,N0,N0] (fun w=>by simp[Instr.alloc,go_sem]<;>rfl) ?_
    intro a w b20 B A
    have A:=r4 A
    refine aA (aB ⟨fun _=>⟨_,((A.less H).less D)⟩,fun _=>⟨_,(((A.get 2 O).less H).less D)⟩,fun _=>⟨_,(((A.get 3 O).less H).less D)⟩,tv⟩ fun G=>?_)
    refine W1 6 kr O ?_
    refine aX (wk0 O) O B A O O O 0 O dD.size_ O (aQ ⟨(aH.one (aH.mono pF H)),(aH.one (aH.mono pG H)),(aH.one (aH.mono nK H)),tv⟩) [wR,wS,vV] O ?_
    intro w A
    have A:=r4 A
    refine aA (aB ⟨fun _=>⟨_,((A.less H).less D)⟩,fun _=>⟨_,(((A.get 2 O).less H).less D)⟩,fun _=>⟨_,(((A.get 3 O).less H).less D)⟩,tv⟩ fun G=>?_)
    refine W1 7 kr O ?_
    refine aX (wk0 O) O B A O O O 1 O dD.size_ O (aQ ⟨(aH.one vI),(aH.one vJ),(aH.one tC),tv⟩) [N9,O0,zQ] O ?_
    intro w A
    have A:=r4 A
    refine aA (aB ⟨fun _=>⟨_,((A.less H).less D)⟩,fun _=>⟨_,(((A.get 2 O).less H).less D)⟩,fun _=>⟨_,(((A.get 3 O).less H).less D)⟩,tv⟩ fun G=>?_)
    refine Ts [8] B G O O kr fun a B G=>?_
    exact aZ kr ⟨ρ15,_,_,_,_,_,_,_,_,(PH.le.tr D H),vI,vJ,tC,(aH.mono pF H),(aH.mono pG H),(aH.mono nK H),B.cut ⟨O,O,O,O,tv⟩,((((A.get 3 O).get 3 O).get 2 O).get 3 O)⟩
   refine bW O ?_
   refine dM (wk0 O) O O B A O [N0,N0,N0] (fun w=>by simp[Instr.alloc,go_sem]<;>rfl) ?_
   intro a w b21 B A
   have A:=r4 A
   refine aA (aB ⟨fun _=>⟨_,(A.less D)⟩,fun _=>⟨_,((A.get 2 O).less D)⟩,fun _=>⟨_,((A.get 3 O).less D)⟩,tv⟩ fun G=>?_)
   refine W1 3 kr O ?_
   refine Cl B O O kE (bH c aN (aH.mono bT D) A q m) ⟨O,tv⟩ fun v a w k B=>?_
   obtain⟨ρ16,O1,O3,zS,K,rfl,vK,vM,tH,A⟩:=k
   have A:=r4 A
   refine aA (aB ⟨fun _=>⟨_,((A.less K).less D)⟩,fun _=>⟨_,(((A.get 2 O).less K).less D)⟩,fun _=>⟨_,(((A.get 3 O).less K).less D)⟩,tv⟩ fun G=>?_)
   refine W1 6 kr O ?_
   refine aX (wk0 O) O B A O O O 0 O dD.size_ O (aQ ⟨(aH.one (aH.mono pF K)),(aH.one (aH.mono pG K)),(aH.one (aH.mono nK K)),tv⟩) [wR,wS,vV] O ?_
   intro w A
   have A:=r4 A
   refine aA (aB ⟨fun _=>⟨_,((A.less K).less D)⟩,fun _=>⟨_,(((A.get 2 O).less K).less D)⟩,fun _=>⟨_,(((A.get 3 O).less K).less D)⟩,tv⟩ fun G=>?_)
   refine W1 7 kr O ?_
   refine aX (wk0 O) O B A O O O 1 O dD.size_ O (aQ ⟨(aH.one vK),(aH.one vM),(aH.one tH),tv⟩) [O1,O3,zS] O ?_
   intro w A
   have A:=r4 A
   refine aA (aB ⟨fun _=>⟨_,((A.less K).less D)⟩,fun _=>⟨_,(((A.get 2 O).less K).less D)⟩,fun _=>⟨_,(((A.get 3 O).less K).less D)⟩,tv⟩ fun G=>?_)
   refine Ts [8] B G O O kr fun a B G=>?_
   exact aZ kr ⟨ρ16,_,_,_,_,_,_,_,_,(PH.le.tr D K),vK,vM,tH,(aH.mono pF K),(aH.mono pG K),(aH.mono nK K),B.cut ⟨O,O,O,O,tv⟩,((((A.get 3 O).get 3 O).get 2 O).get 3 O)⟩
  refine bW O ?_
  refine dM (wk0 O) O O B A O [N0,N0,N0] (fun w=>by simp[Instr.alloc,go_sem]<;>rfl) ?_
  intro a w b22 B A
  have A:=r4 A
  refine aA (aB ⟨gp0 A,gp 2 A O,gp 3 A O,tv⟩ fun G=>?_)
  refine W1 1 kr O ?_
  refine Cl B O O kE (bH i aI bG A z y) ⟨O,tv⟩ fun v a w k B=>?_
  obtain⟨ρ17,O4,O5,zT,X,rfl,vN,vO,tJ,A⟩:=k
  have A:=r4 A
  refine aA (aB ⟨fun _=>⟨_,(A.less X)⟩,fun _=>⟨_,((A.get 2 O).less X)⟩,fun _=>⟨_,((A.get 3 O).less X)⟩,tv⟩ fun G=>?_)
  refine W1 3 kr O ?_
  refine Cl B O O kE (bH c aN (aH.mono bT X) A q m) ⟨O,tv⟩ fun v a w k B=>?_
  obtain⟨ρ18,aF0,aF1,aC8,J,rfl,I8,I9,zC,A⟩:=k
  have A:=r4 A
  refine aA (aB ⟨fun _=>⟨_,((A.less J).less X)⟩,fun _=>⟨_,(((A.get 2 O).less J).less X)⟩,fun _=>⟨_,(((A.get 3 O).less J).less X)⟩,tv⟩ fun G=>?_)
  refine W1 6 kr O ?_
  refine aX (wk0 O) O B A O O O 0 O dD.size_ O (aQ ⟨(aH.one (aH.mono vN J)),(aH.one (aH.mono vO J)),(aH.one (aH.mono tJ J)),tv⟩) [O4,O5,zT] O ?_
  intro w A
  have A:=r4 A
  refine aA (aB ⟨fun _=>⟨_,((A.less J).less X)⟩,fun _=>⟨_,(((A.get 2 O).less J).less X)⟩,fun _=>⟨_,(((A.get 3 O).less J).less X)⟩,tv⟩ fun G=>?_)
  refine W1 7 kr O ?_
  refine aX (wk0 O) O B A O O O 1 O dD.size_ O (aQ ⟨(aH.one I8),(aH.one I9),(aH.one zC),tv⟩) [aF0,aF1,aC8] O ?_
  intro w A
  have A:=r4 A
  refine aA (aB ⟨fun _=>⟨_,((A.less J).less X)⟩,fun _=>⟨_,(((A.get 2 O).less J).less X)⟩,fun _=>⟨_,(((A.get 3 O).less J).less X)⟩,tv⟩ fun G=>?_)
  refine Ts [8] B G O O kr fun a B G=>?_
  exact aZ kr ⟨ρ18,_,_,_,_,_,_,_,_,(PH.le.tr X J),I8,I9,zC,(aH.mono vN J),(aH.mono vO J),(aH.mono tJ J),B.cut ⟨O,O,O,O,tv⟩,((((A.get 3 O).get 3 O).get 2 O).get 3 O)⟩
 rintro a w ⟨ρy1,y4,y3,yv1,yv2,yv3,yv4,yv5,yv6,hley1,yh1,yh2,yh3,yh4,yh5,yh6,B,A⟩
 refine aG (aG ?_)
 refine aC (S B 1 O fun a B=>?_)
 refine V B A O (dB O B O (aH.len (aH.mono hp2 hley1) aJ)) fun a B=>S B 1 O fun a B=>aA ?_
 obtain⟨b23,hc2,p⟩:=bnd p
 refine dQ (fun a w=>Env 56 [(10,(Iv b23))] a∧Hp Z ρy1 (Pt y4 (.cells #[yv1,yv2,yv3] 75 (0,0))::Pt y3 (.cells #[yv4,yv5,yv6] 75 (0,0))::Pt b2 (.cells #[(Iv c.kind),(.string c.text),(Iv c.at_),(Iv c.fin),aN] 24 (0,0))::Pt b1 (.cells #[(Iv i.kind),(.string i.text),(Iv i.at_),(Iv i.fin),aI] 24 (0,0))::L) w) ?_ ?_
 ·refine fK hc2 (fun s a w=>Env 56 [(8,(Pv y3 0)),(9,(Pv y4 0)),(10,(Iv s.1)),(22,vp2),(23,(Iv (p2.length:Int))),(24,(Iv s.2))] a∧Hp Z ρy1 (Pt y4 (.cells #[yv1,yv2,yv3] 75 (0,0))::Pt y3 (.cells #[yv4,yv5,yv6] 75 (0,0))::Pt b2 (.cells #[(Iv c.kind),(.string c.text),(Iv c.at_),(Iv c.fin),aN] 24 (0,0))::Pt b1 (.cells #[(Iv i.kind),(.string i.text),(Iv i.at_),(Iv i.fin),aI] 24 (0,0))::L) w) ?_ ?_
  ·exact⟨B.cut ⟨O,O,O,O,O,O,tv⟩,A⟩
  rintro⟨aT,aU⟩ st a w ⟨B,A⟩ g
  dsimp only at B A g
  unfold rZ at g
  refine aG (aC ?_)
  refine S B 1 O fun a B=>aA (aG ?_)
  refine dJ B O (fun hc3=>?_) (fun hc3=>?_)
  ·replace g:=(it hc3).symm.trans g
   refine bD (aG ?_)
   refine dS (aG ?_)
   refine aC ?_
   obtain⟨n,ex4,g⟩:=bnd g
   obtain⟨b24,b24o,b24c,b24r,b24k,b24f⟩:=aH.at (aH.mono hp2 hley1) aJ ex4
   obtain rfl:b24c=Enc.enc n:=b24k
   have b24f:AtP ρy1 b24 b24o [(Iv n.a),(Iv n.b)]:=b24f
   refine V B A O (aP O B O O b24r) fun a B=>V B A O (aK O B O (fun w o=>aV (cs:=[(Iv n.a),(Iv n.b)]) fO (fun j u hj=>cell_of o.le (b24f j u hj)))) fun a B=>?_
   refine dM (wk0 O) O O B A O [(Iv 0),(Iv 0)] (fun w=>by simp[Instr.alloc,go_sem]<;>rfl) ?_
   intro a w b25 B A
   have A:=r5 A
   refine aX (wk0 O) O B A O O O 0 O fO.size_ O (aQ ⟨O,O,tv⟩) [(Iv n.a),(Iv n.b)] O ?_
   intro w A
   have A:=r5 A
   refine aA (aG ?_)
   refine kJ kr kr A ?_
   refine Vq B O (xf B eQ O O) fun a B=>Vq B O (xl B aY 0 O O O O) fun a B=>Sq B 2 O fun a B=>?_
   refine q_cut [_,_,_,_] (fun a=>Env 56 [(35,(.bool ((decide (n.a<0))||(decide (n.b<0))))),(8,(Pv y3 0)),(9,(Pv y4 0)),(10,(Iv aT)),(12,(Pv b25 0)),(22,vp2),(23,(Iv (p2.length:Int))),(24,(Iv aU))] a) ?_ ?_
   ·rcases uW (decide (n.a<0)) with l|l
    ·
     refine Gkq B l O fun a B=>Gkq B l O fun a B=>Gkq B l O fun a B=>?_
     refine Vq B O (v:=(.bool true)) (jG O B O l O) fun a B=>?_
     have B:=B.eqv (v':=(.bool ((decide (n.a<0))||(decide (n.b<0))))) (by rw[l];rfl)
     exact jY (B.cut ⟨O,O,O,O,O,O,O,O,tv⟩)
    refine Gq B l O (xf B eP O O) fun a B=>Gq B l O (xl B aY 0 O O O O) fun a B=>Gq B l O (ex_lss O B O O) fun a B=>Vq B O (v:=(.bool (decide (n.b<0)))) (iR O B O l O) fun a B=>?_
    have B:=B.eqv (v':=(.bool ((decide (n.a<0))||(decide (n.b<0))))) (by rw[l];rfl)
    exact jY (B.cut ⟨O,O,O,O,O,O,O,O,tv⟩)
   intro a B
   refine Sq B 1 O fun a B=>?_
   obtain⟨m1,hg1,g⟩:=bnd g
   refine q_cut [_,_,_,_,_,_,_,_,_,_,_,_,_,_,_] (fun a=>Env 56 [(51,(.bool m1)),(8,(Pv y3 0)),(9,(Pv y4 0)),(10,(Iv aT)),(22,vp2),(23,(Iv (p2.length:Int))),(24,(Iv aU))] a) ?_ ?_
   ·rcases uW ((decide (n.a<0))||(decide (n.b<0))) with R|R
    ·
     replace hg1:=(it R).symm.trans hg1
     refine Gkq B R O fun a B=>Gkq B R O fun a B=>Gkq B R O fun a B=>Gkq B R O fun a B=>Gkq B R O fun a B=>Gkq B R O fun a B=>Gkq B R O fun a B=>Gkq B R O fun a B=>Gkq B R O fun a B=>Gkq B R O fun a B=>Gkq B R O fun a B=>Gkq B R O fun a B=>Gkq B R O fun a B=>Gkq B R O fun a B=>?_
     refine Vq B O (v:=(.bool true)) (jG O B O R O) fun a B=>?_
     obtain rfl:=oj hg1
     exact jY (B.cut ⟨O,O,O,O,O,O,O,tv⟩)
    replace hg1:=(ie R).symm.trans hg1
    refine Gq B R O (xf B kW O O) fun a B=>Gq B R O (xl B jR 2 O O O O) fun a B=>Gq B R O (xf B eQ O O) fun a B=>Gq B R O (xl B aY 0 O O O O) fun a B=>?_
    obtain⟨x,ex5,hg1⟩:=bnd hg1
    obtain⟨b26,b26o,b26c,b26r,b26k,b26f⟩:=aH.at yh4 kK ex5
    obtain⟨aD8,rfl,hb26_kids⟩:=NodeAt.opens b26k
    have b26f:AtP ρy1 b26 b26o [(Iv x.kind),(.string x.text),(Iv x.at_),(Iv x.fin),aD8]:=b26f
    refine Gq B R O (aP O B O O b26r) fun a B=>Gq B R O (aK O B O (fun w o=>aV (cs:=[(Iv x.kind),(.string x.text),(Iv x.at_),(Iv x.fin),aD8]) dC (fun j u hj=>cell_of o.le (b26f j u hj)))) fun a B=>Gq B R O (xf B kW O O) fun a B=>Gq B R O (xl B jR 1 O O O O) fun a B=>Gq B R O (xf B eP O O) fun a B=>Gq B R O (xl B aY 0 O O O O) fun a B=>?_
    obtain⟨t,ex6,hg1⟩:=bnd hg1
    obtain⟨b27,b27o,b27c,b27r,b27k,b27f⟩:=aH.at yh1 kK ex6
    obtain⟨aD9,rfl,hb27_kids⟩:=NodeAt.opens b27k
    have b27f:AtP ρy1 b27 b27o [(Iv t.kind),(.string t.text),(Iv t.at_),(Iv t.fin),aD9]:=b27f
    refine Gq B R O (aP O B O O b27r) fun a B=>Gq B R O (aK O B O (fun w o=>aV (cs:=[(Iv t.kind),(.string t.text),(Iv t.at_),(Iv t.fin),aD9]) dC (fun j u hj=>cell_of o.le (b27f j u hj)))) fun a B=>?_
    obtain⟨x7,ex7,hg1⟩:=bnd hg1
    refine J7 (wk1 B O O O R) O O B O [(.agg #[(Iv x.kind),(.string x.text),(Iv x.at_),(Iv x.fin),aD8]),(.agg #[(Iv t.kind),(.string t.text),(Iv t.at_),(Iv t.fin),aD9])] ⟨O,O,tv⟩ ent41 (v:=(.bool x7)) (fun w o=>Calls.mono (xR x aD8 hb26_kids t aD9 hb27_kids o x7 ex7) fun e w' ⟨v,he,hv,hh⟩=>⟨by rw[he,hv],hh⟩) ?_
    intro a B
    refine Gq B R O (ex_not O B O) fun a B=>Vq B O (v:=(.bool (!x7))) (iR O B O R O) fun a B=>?_
    obtain rfl:=oj hg1
    exact jY (B.cut ⟨O,O,O,O,O,O,O,tv⟩)
   intro a B
   refine jY fun w A=>?_
   have A:=r5 A
   refine dJ B O (fun hc6=>?_) (fun hc6=>?_)
   ·replace g:=(it hc6).symm.trans g
    refine aC (S B 1 O fun a B=>?_)
    obtain⟨x8,ex8,g⟩:=bnd g
    refine V B A O (bI O B O O (aO ex8)) fun a B=>S B 1 O fun a B=>aA (aC ?_)
    obtain⟨x9,ex9,g⟩:=bnd g
    refine V B A O (bI O B O O (aO ex9)) fun a B=>S B 1 O fun a B=>aA ?_
    exact⟨_,(oj g).symm,B.cut ⟨O,O,O,O,O,O,tv⟩,(A.drop)⟩
   replace g:=(ie hc6).symm.trans g
   refine bD (aC ?_)
   obtain⟨x10,ex10,g⟩:=bnd g
   refine V B A O (bI O B O O (aO ex10)) fun a B=>S B 1 O fun a B=>aA ?_
   exact⟨_,(oj g).symm,B.cut ⟨O,O,O,O,O,O,tv⟩,(A.drop)⟩
  replace g:=(ie hc3).symm.trans g
  refine eU ?_
  refine⟨_,(oj g).symm,fun hbb=>?_⟩
  subst hbb
  exact⟨B.cut ⟨O,tv⟩,A⟩
 rintro a w ⟨B,A⟩
 refine aG (aC ?_)
 refine S B 3 O fun a B=>aA (dF ?_)
 obtain rfl:=oj p
 exact yQ B O O O ⟨_,O,O,((((((((A.get 3 O).drop).get 2 O).drop).get 1 O).drop).drop).less hley1)⟩
end Go.Proofs.YtopnldfjcciieaaGreat

/- The code goes as its model: assessor/assessorref38.nearest, assessor/assessorref38.Changes. (Printed by wip/sp/gen.py.) -/
import Derived.Test.YtopnldfjcciieaaGreatKFoT
import Derived.Test.YtopnldfjcciieaaGreatKFo4
import Derived.Test.YtopnldfjcciieaaGreatKFo5
import Derived.Test.YtopnldfjcciieaaGreatKFo24
set_option linter.unusedVariables false
set_option linter.unusedSimpArgs false
set_option maxRecDepth 100000
set_option maxHeartbeats 4000000
namespace Go.Proofs.YtopnldfjcciieaaGreat
open Go.RowKit
theorem Z7 {Z:World} {ρ:PH} {L:List bK} {w:World} (p0:(List Span)) (vp0:Value) (hp0:aH ρ vp0 p0) (p1:(List Bool)) (vp1:Value) (hp1:aH ρ vp1 p1) (p2:Int) (hp:Hp Z ρ (L) w) (r:Int) (hm:mJ p0 p1 p2=some r):
  Calls Tryz.prog 47 #[vp0,vp1,(Iv p2)] w (Ret fun v w'=>v=(Iv r)∧Hp Z ρ (L) w'):=by
 refine enter (N:=28) Tryz.func47 rfl rfl [(0,vp0),(1,vp1),(2,(Iv p2))] rfl (bC ⟨rfl,rfl,rfl,trivial⟩) fun a hE=>?_
 unfold mJ at hm
 refine aG (aA ?_)
 refine S hE 1 rfl fun a hE=>aB (aG ?_)
 refine aA (S hE 2 rfl fun a hE=>?_)
 obtain⟨x1,ex1,hm⟩:=bnd hm
 obtain⟨b1,b1o,b1c,b1r,b1k,b1f⟩:=aH.at hp0 iQ ex1
 obtain rfl:b1c=Enc.enc x1:=b1k
 have b1f:AtP ρ b1 b1o [(Iv x1.kind),(.string x1.text),(Iv x1.last),(Iv x1.parent)]:=b1f
 refine V hE hp rfl (aN rfl hE rfl rfl b1r) fun a hE=>V hE hp rfl (xf hE zM rfl rfl) fun a hE=>V hE hp rfl (aK rfl hE rfl (fun w hw=>aV aT (b1f.c 3 rfl w hw))) fun a hE=>S hE 1 rfl fun a hE=>aB (aG ?_)
 obtain⟨b2,hc1,hm⟩:=bnd hm
 refine dH (fun a w=>Env 28 [(7,(Iv b2))] a∧Hp Z ρ (L) w) ?_ ?_
 ·refine dZ hc1 (fun s a w=>Env 28 [(0,vp0),(1,vp1),(7,(Iv s))] a∧Hp Z ρ (L) w) ?_ ?_
  ·exact⟨hE.cut ⟨rfl,rfl,rfl,trivial⟩,hp⟩
  rintro aP st a w ⟨hE,hp⟩ hl1
  unfold gZ at hl1
  refine aG (aG ?_)
  refine aA (S hE 3 rfl fun a hE=>?_)
  obtain⟨m1,hg1,hl1⟩:=bnd hl1
  refine iL [_,_,_,_,_,_] (fun a w=>Env 28 [(21,(.bool m1)),(0,vp0),(1,vp1),(7,(Iv aP))] a∧Hp Z ρ (L) w) ?_ ?_
  ·rcases Bool.eq_false_or_eq_true (decide (0≤aP)) with hc2|hc2
   ·
    replace hg1:=(it hc2).symm.trans hg1
    refine Gs hE hc2 rfl rfl fun a hE=>Gs hE hc2 rfl rfl fun a hE=>?_
    obtain⟨x2,ex2,hg1⟩:=bnd hg1
    obtain⟨b3,b3o,b3c,b3r,b3k,b3f⟩:=aH.at hp1 rH ex2
    obtain rfl:b3c=Enc.enc x2:=b3k
    have b3f:AtP ρ b3 b3o [(.bool x2)]:=b3f
    refine G hE hp hc2 rfl (aN rfl hE rfl rfl b3r) fun a hE=>G hE hp hc2 rfl (aK rfl hE rfl (fun w hw=>aV vH (b3f.c 0 rfl w hw))) fun a hE=>Gs hE hc2 rfl rfl fun a hE=>pk1 hE hc2 rfl rfl rfl rfl fun a hE=>?_
    obtain rfl:=oj hg1
    exact aB ⟨hE.cut ⟨rfl,rfl,rfl,rfl,trivial⟩,hp⟩
   replace hg1:=(ie hc2).symm.trans hg1
   refine Gk hE hc2 rfl fun a hE=>Gk hE hc2 rfl fun a hE=>Gk hE hc2 rfl fun a hE=>Gk hE hc2 rfl fun a hE=>Gk hE hc2 rfl fun a hE=>pk0 hE hc2 rfl rfl rfl rfl fun a hE=>?_
   obtain rfl:=oj hg1
   exact aB ⟨hE.cut ⟨rfl,rfl,rfl,rfl,trivial⟩,hp⟩
  rintro a w ⟨hE,hp⟩
  refine aB ?_
  refine dE hE rfl (fun hc3=>?_) (fun hc3=>?_)
  ·replace hl1:=(it hc3).symm.trans hl1
   refine aZ (dM ?_)
   refine aA (S hE 2 rfl fun a hE=>?_)
   obtain⟨x3,ex3,hl1⟩:=bnd hl1
   obtain⟨b4,b4o,b4c,b4r,b4k,b4f⟩:=aH.at hp0 iQ ex3
   obtain rfl:b4c=Enc.enc x3:=b4k
   have b4f:AtP ρ b4 b4o [(Iv x3.kind),(.string x3.text),(Iv x3.last),(Iv x3.parent)]:=b4f
   refine V hE hp rfl (aN rfl hE rfl rfl b4r) fun a hE=>V hE hp rfl (xf hE zM rfl rfl) fun a hE=>V hE hp rfl (aK rfl hE rfl (fun w hw=>aV aT (b4f.c 3 rfl w hw))) fun a hE=>S hE 1 rfl fun a hE=>aB ?_
   exact⟨_,(oj hl1).symm,hE.cut ⟨rfl,rfl,rfl,trivial⟩,hp⟩
  replace hl1:=(ie hc3).symm.trans hl1
  refine dS ?_
  refine⟨_,(oj hl1).symm,fun hbb=>?_⟩
  subst hbb
  exact⟨hE.cut ⟨rfl,trivial⟩,hp⟩
 rintro a w ⟨hE,hp⟩
 refine aG (aA ?_)
 refine S hE 2 rfl fun a hE=>aB (bZ ?_)
 obtain rfl:=oj hm
 exact gJ hE rfl rfl ⟨_,rfl,rfl,hp⟩
theorem Z4 {Z:World} {ρ:PH} {L:List bK} {w:World} (p0:Node) (aI:Value) (bD:aH ρ aI p0.kids) (p1:Node) (aJ:Value) (bH:aH ρ aJ p1.kids) (p2:(List Opn)) (vp2:Value) (hp2:aH ρ vp2 p2) (hp:Hp Z ρ (L) w) (r:(List Chg)) (hm:mF p0 p1 p2=some r):
  Calls Tryz.prog 20 #[(.agg #[(Iv p0.kind),(.string p0.text),(Iv p0.at_),(Iv p0.fin),aI]),(.agg #[(Iv p1.kind),(.string p1.text),(Iv p1.at_),(Iv p1.fin),aJ]),vp2] w (Ret fun v w'=>∃(vr1:Value),v=vr1∧Hp Z ρ (aC 58 vr1 r::L) w'):=by
 refine enter (N:=214) Tryz.func20 rfl rfl [(0,(.agg #[(Iv p0.kind),(.string p0.text),(Iv p0.at_),(Iv p0.fin),aI])),(1,(.agg #[(Iv p1.kind),(.string p1.text),(Iv p1.at_),(Iv p1.fin),aJ])),(2,vp2)] rfl (bC ⟨rfl,rfl,rfl,trivial⟩) fun a hE=>?_
 unfold mF at hm
 refine aG (aA ?_)
 refine iI (wk0 rfl) rfl rfl hE hp rfl (v:=(.agg #[(Iv p0.kind),(.string p0.text),(Iv p0.at_),(Iv p0.fin),aI])) rfl ?_
 intro a w b1 hE hp
 have hp:=r1 hp
 refine iI (wk0 rfl) rfl rfl hE hp rfl (v:=(.agg #[(Iv p1.kind),(.string p1.text),(Iv p1.at_),(Iv p1.fin),aJ])) rfl ?_
 intro a w b2 hE hp
 have hp:=r2 hp
 refine S hE 1 rfl fun a hE=>aB (aG ?_)
 obtain⟨x1,ex1,hm⟩:=bnd hm
 obtain⟨x2,ex2,hm⟩:=bnd hm
 have hp:=hp.drew
 refine fG ([([],At0 Z ρ),([],At1 Z ρ (Pt b2 (.cells #[(Iv p1.kind),(.string p1.text),(Iv p1.at_),(Iv p1.fin),aJ] 24 (0,0)))),([],At1 Z ρ (Pt b1 (.cells #[(Iv p0.kind),(.string p0.text),(Iv p0.at_),(Iv p0.fin),aI] 24 (0,0))))]:Facts) (fun a w=>∃y5:Value,∃y4:Value,Env 214 [(2,vp2),(7,y4),(8,y5)] a∧Hp Z ρ (aC 70 y5 x2::aC 70 y4 x1::Pt b2 (.cells #[(Iv p1.kind),(.string p1.text),(Iv p1.at_),(Iv p1.fin),aJ] 24 (0,0))::Pt b1 (.cells #[(Iv p0.kind),(.string p0.text),(Iv p0.at_),(Iv p0.fin),aI] 24 (0,0))::L) w) (by kernel_rfl) ⟨fun _=>⟨_,hp⟩,fun _=>⟨_,(hp.get 0 rfl)⟩,fun _=>⟨_,(hp.get 1 rfl)⟩,trivial⟩ (fun hS=>?_) ?_
 ·
  generalize w.drew=w at hS hp⊢
  refine T 0 2 hE hS rfl rfl rfl (by kernel_rfl) (fun _=>aK rfl hE rfl (fun w hw=>aW (cs:=[(Iv p0.kind),(.string p0.text),(Iv p0.at_),(Iv p0.fin),aI]) bY (Hp.cN 0 rfl 0 _ (aS rfl) w hw))) fun a hE hS=>T 2 1 hE hS rfl rfl rfl (by kernel_rfl) (fun _=>aK rfl hE rfl (fun w hw=>aW (cs:=[(Iv p1.kind),(.string p1.text),(Iv p1.at_),(Iv p1.fin),aJ]) bY (Hp.cN 0 rfl 0 _ (aS rfl) w hw))) fun a hE hS=>?_
  refine W1 1 (by kernel_rfl) rfl ?_
  refine s_call (wk0 rfl) rfl rfl hE rfl [(.agg #[(Iv p0.kind),(.string p0.text),(Iv p0.at_),(Iv p0.fin),aI])] ⟨rfl,trivial⟩ ent37 (lQ p0 aI bD hp x1 ex1) Ret.ret ?_
  intro vr3 a w hR hE
  obtain⟨u,rfl,hp⟩:=Ret.of hR
  have hp:=r3 hp
  refine aB (aF ⟨gp0 hp,gp 1 hp rfl,gp 2 hp rfl,trivial⟩ fun hS=>?_)
  refine W1 3 (by kernel_rfl) rfl ?_
  refine s_call (wk0 rfl) rfl rfl hE rfl [(.agg #[(Iv p1.kind),(.string p1.text),(Iv p1.at_),(Iv p1.fin),aJ])] ⟨rfl,trivial⟩ ent37 (lQ p1 aJ bH hp x2 ex2) Ret.ret ?_
  intro vr4 a w hR hE
  obtain⟨u,rfl,hp⟩:=Ret.of hR
  have hp:=r4 hp
  refine aB (aF ⟨gp0 hp,gp 2 hp rfl,gp 3 hp rfl,trivial⟩ fun hS=>?_)
  refine Ts [4,5] hE hS rfl rfl (by kernel_rfl) fun a hE hS=>?_
  exact bP (by kernel_rfl) ⟨_,_,hE.cut ⟨rfl,rfl,rfl,trivial⟩,hp⟩
 rintro a w ⟨y5,y4,hE,hp⟩
 refine aG (aA ?_)
 refine fP (wk0 rfl) rfl rfl hE hp rfl [] trivial [] 58 (fun w=>by simp[Instr.buildSlice,Instr.fill,Value.cells,go_sem]) ?_
 intro a w b3 hE hp
 have hp:=r5 hp
 refine S hE 1 rfl fun a hE=>aB (aG ?_)
 refine aG (aA ?_)
 refine S hE 1 rfl fun a hE=>aB ?_
 have hp:=(hp.get 0 rfl).imp (qQ (l:=(([]:List Chg):List Chg)) (n:=0) rfl (by decide) rfl)
 have hp:=r5 hp
 obtain⟨b4,hc1,hm⟩:=bnd hm
 refine dH (fun a w=>∃(w6:Value),Env 214 [(2,vp2),(7,y4),(8,y5),(9,w6)] a∧Hp Z ρ (aC 58 w6 b4::aC 70 y5 x2::aC 70 y4 x1::Pt b2 (.cells #[(Iv p1.kind),(.string p1.text),(Iv p1.at_),(Iv p1.fin),aJ] 24 (0,0))::Pt b1 (.cells #[(Iv p0.kind),(.string p0.text),(Iv p0.at_),(Iv p0.fin),aI] 24 (0,0))::L) w) ?_ ?_
 ·refine dZ hc1 (fun s a w=>∃(w6:Value),Env 214 [(2,vp2),(7,y4),(8,y5),(9,w6),(10,(Iv s.1))] a∧Hp Z ρ (aC 58 w6 s.2::aC 70 y5 x2::aC 70 y4 x1::Pt b2 (.cells #[(Iv p1.kind),(.string p1.text),(Iv p1.at_),(Iv p1.fin),aJ] 24 (0,0))::Pt b1 (.cells #[(Iv p0.kind),(.string p0.text),(Iv p0.at_),(Iv p0.fin),aI] 24 (0,0))::L) w) ?_ ?_
  ·exact⟨_,hE.cut ⟨rfl,rfl,rfl,rfl,rfl,trivial⟩,hp⟩
  rintro⟨aP,aU⟩ st a w ⟨w6,hE,hp⟩ hl1
  dsimp only at hE hp hl1
  unfold mP at hl1
  refine aG (aG ?_)
  refine aA (S hE 2 rfl fun a hE=>?_)
  refine V hE hp rfl (bT rfl hE rfl (aC.len hp 2 rfl iQ)) fun a hE=>S hE 1 rfl fun a hE=>aB ?_
  refine dE hE rfl (fun hc2=>?_) (fun hc2=>?_)
  ·replace hl1:=(it hc2).symm.trans hl1
   refine aZ (aG ?_)
   refine dM (aG ?_)
   refine aA (S hE 2 rfl fun a hE=>?_)
   obtain⟨x3,ex3,hl1⟩:=bnd hl1
   obtain⟨b5,b5o,b5c,b5r,b5k,b5f⟩:=aH.at hp2 dW ex3
   obtain rfl:b5c=Enc.enc x3:=b5k
   have b5f:AtP ρ b5 b5o [(Iv x3.a),(Iv x3.b)]:=b5f
   refine V hE hp rfl (aN rfl hE rfl rfl b5r) fun a hE=>V hE hp rfl (xf hE dK rfl rfl) fun a hE=>V hE hp rfl (aK rfl hE rfl (fun w hw=>aV aT (b5f.c 1 rfl w hw))) fun a hE=>S hE 1 rfl fun a hE=>aB (aG ?_)
   refine jR (by kernel_rfl) (by kernel_rfl) hp ?_
   refine Sq hE 3 rfl fun a hE=>?_
   obtain⟨m1,hg1,hl1⟩:=bnd hl1
   refine Q9 [_,_,_,_,_,_,_,_,_,_,_,_,_,_,_,_,_,_,_,_,_,_,_,_,_] (fun a=>Env 214 [(62,(.bool m1)),(2,vp2),(7,y4),(8,y5),(9,w6),(10,(Iv aP)),(11,(Iv x3.b))] a) ?_ ?_
   ·rcases Bool.eq_false_or_eq_true (decide (0≤x3.b)) with hc3|hc3
    ·
     replace hg1:=(it hc3).symm.trans hg1
     refine Gq hE hc3 rfl (eH rfl hE rfl) fun a hE=>Gq hE hc3 rfl (eH rfl hE rfl) fun a hE=>?_
     obtain⟨x4,ex4,hg1⟩:=bnd hg1
     obtain⟨b6,b6o,b6r,b6v,b6f⟩:=aC.at hp 2 rfl iQ ex4
     refine Gq hE hc3 rfl (aN rfl hE rfl rfl b6r) fun a hE=>Gq hE hc3 rfl (xf hE J9 rfl rfl) fun a hE=>Gq hE hc3 rfl (aK rfl hE rfl (fun w hw=>aV aT (b6f 0 _ rfl _ _ w (hw.get 2 rfl)))) fun a hE=>Gq hE hc3 rfl (eH rfl hE rfl) fun a hE=>Gq hE hc3 rfl (eH rfl hE rfl) fun a hE=>?_
     obtain⟨x5,ex5,hg1⟩:=bnd hg1
     obtain⟨b7,b7o,b7r,b7v,b7f⟩:=aC.at hp 1 rfl iQ ex5
     refine Gq hE hc3 rfl (aN rfl hE rfl rfl b7r) fun a hE=>Gq hE hc3 rfl (xf hE J9 rfl rfl) fun a hE=>Gq hE hc3 rfl (aK rfl hE rfl (fun w hw=>aV aT (b7f 0 _ rfl _ _ w (hw.get 1 rfl)))) fun a hE=>Gq hE hc3 rfl (ex_neq rfl hE rfl rfl) fun a hE=>Gq hE hc3 rfl (eH rfl hE rfl) fun a hE=>?_
     obtain⟨m2,hg2,hg1⟩:=bnd hg1
     refine Q9 [_,_,_,_,_,_,_,_,_,_,_,_] (fun a=>Env 214 [(61,(.bool m2)),(2,vp2),(7,y4),(8,y5),(9,w6),(10,(Iv aP)),(11,(Iv x3.b)),(37,(.bool (decide (0≤x3.b)))),(38,y4),(39,(Iv aP)),(40,(Pv b6 b6o)),(41,(Pv b6 b6o)),(42,(Iv x4.kind)),(43,y5),(44,(Iv x3.b)),(45,(Pv b7 b7o)),(46,(Pv b7 b7o)),(47,(Iv x5.kind)),(48,(.bool (!decide (x4.kind=x5.kind)))),(49,(.bool (!decide (x4.kind=x5.kind))))] a) ?_ ?_
     ·rcases Bool.eq_false_or_eq_true (!decide (x4.kind=x5.kind)) with hc4|hc4
      ·
       replace hg2:=(it hc4).symm.trans hg2
       refine Gkq hE hc4 rfl fun a hE=>Gkq hE hc4 rfl fun a hE=>Gkq hE hc4 rfl fun a hE=>Gkq hE hc4 rfl fun a hE=>Gkq hE hc4 rfl fun a hE=>Gkq hE hc4 rfl fun a hE=>Gkq hE hc4 rfl fun a hE=>Gkq hE hc4 rfl fun a hE=>Gkq hE hc4 rfl fun a hE=>Gkq hE hc4 rfl fun a hE=>Gkq hE hc4 rfl fun a hE=>Gq hE hc3 rfl (v:=(.bool true)) (iD rfl hE rfl hc4 rfl) fun a hE=>?_
       obtain rfl:=oj hg2
       exact iM (hE.cut ⟨rfl,rfl,rfl,rfl,rfl,rfl,rfl,rfl,rfl,rfl,rfl,rfl,rfl,rfl,rfl,rfl,rfl,rfl,rfl,rfl,trivial⟩)
      replace hg2:=(ie hc4).symm.trans hg2
      refine Gq hE hc4 rfl (eH rfl hE rfl) fun a hE=>Gq hE hc4 rfl (eH rfl hE rfl) fun a hE=>?_
      obtain⟨x6,ex6,hg2⟩:=bnd hg2
      obtain⟨b8,b8o,b8r,b8v,b8f⟩:=aC.at hp 2 rfl iQ ex6
      refine Gq hE hc4 rfl (aN rfl hE rfl rfl b8r) fun a hE=>Gq hE hc4 rfl (xf hE L6 rfl rfl) fun a hE=>Gq hE hc4 rfl (aK rfl hE rfl (fun w hw=>aV xR (b8f 1 _ rfl _ _ w (hw.get 2 rfl)))) fun a hE=>Gq hE hc4 rfl (eH rfl hE rfl) fun a hE=>Gq hE hc4 rfl (eH rfl hE rfl) fun a hE=>?_
      obtain⟨x7,ex7,hg2⟩:=bnd hg2
      obtain⟨b9,b9o,b9r,b9v,b9f⟩:=aC.at hp 1 rfl iQ ex7
      refine Gq hE hc4 rfl (aN rfl hE rfl rfl b9r) fun a hE=>Gq hE hc4 rfl (xf hE L6 rfl rfl) fun a hE=>Gq hE hc4 rfl (aK rfl hE rfl (fun w hw=>aV xR (b9f 1 _ rfl _ _ w (hw.get 1 rfl)))) fun a hE=>Gq hE hc4 rfl (v:=(.bool (!decide (x6.text=x7.text)))) (ex_sneq rfl hE rfl rfl) fun a hE=>Gq hE hc3 rfl (v:=(.bool (!decide (x6.text=x7.text)))) (gQ rfl hE rfl hc4 rfl) fun a hE=>?_
      obtain rfl:=oj hg2
      exact iM (hE.cut ⟨rfl,rfl,rfl,rfl,rfl,rfl,rfl,rfl,rfl,rfl,rfl,rfl,rfl,rfl,rfl,rfl,rfl,rfl,rfl,rfl,trivial⟩)
     intro a hE
     refine Vq hE rfl (v:=(.bool m2)) (iD rfl hE rfl hc3 rfl) fun a hE=>?_
     obtain rfl:=oj hg1
     exact iM (hE.cut ⟨rfl,rfl,rfl,rfl,rfl,rfl,rfl,trivial⟩)
    replace hg1:=(ie hc3).symm.trans hg1
    refine Gkq hE hc3 rfl fun a hE=>Gkq hE hc3 rfl fun a hE=>Gkq hE hc3 rfl fun a hE=>Gkq hE hc3 rfl fun a hE=>Gkq hE hc3 rfl fun a hE=>Gkq hE hc3 rfl fun a hE=>Gkq hE hc3 rfl fun a hE=>Gkq hE hc3 rfl fun a hE=>Gkq hE hc3 rfl fun a hE=>Gkq hE hc3 rfl fun a hE=>Gkq hE hc3 rfl fun a hE=>Gkq hE hc3 rfl fun a hE=>?_
    refine q_skip (wk3 hE rfl rfl rfl) rfl rfl hE ?_
    intro a hE
    refine q_skip (wk3 hE rfl rfl rfl) rfl rfl hE ?_
    intro a hE
    refine q_skip (wk3 hE rfl rfl rfl) rfl rfl hE ?_
    intro a hE
    refine q_skip (wk3 hE rfl rfl rfl) rfl rfl hE ?_
    intro a hE
    refine q_skip (wk3 hE rfl rfl rfl) rfl rfl hE ?_
    intro a hE
    refine q_skip (wk3 hE rfl rfl rfl) rfl rfl hE ?_
    intro a hE
    refine q_skip (wk3 hE rfl rfl rfl) rfl rfl hE ?_
    intro a hE
    refine q_skip (wk3 hE rfl rfl rfl) rfl rfl hE ?_
    intro a hE
    refine q_skip (wk3 hE rfl rfl rfl) rfl rfl hE ?_
    intro a hE
    refine q_skip (wk3 hE rfl rfl rfl) rfl rfl hE ?_
    intro a hE
    refine q_skip (wk3 hE rfl rfl rfl) rfl rfl hE ?_
    intro a hE
    refine Gkq hE hc3 rfl fun a hE=>?_
    refine Vq hE rfl (v:=(.bool false)) (gQ rfl hE rfl hc3 rfl) fun a hE=>?_
    obtain rfl:=oj hg1
    exact iM (hE.cut ⟨rfl,rfl,rfl,rfl,rfl,rfl,rfl,trivial⟩)
   intro a hE
   refine iM fun w hp=>?_
   have hp:=r5 hp
   refine dE hE rfl (fun hc5=>?_) (fun hc5=>?_)
   ·replace hl1:=(it hc5).symm.trans hl1
    obtain⟨x8,ex8,hl1⟩:=bnd hl1
    obtain⟨x9,ex9,hl1⟩:=bnd hl1
    obtain⟨x10,ex10,hl1⟩:=bnd hl1
    have hp:=hp.drew
    refine fG ([([],At0 Z ρ),([],At1 Z ρ (aC 70 y5 x2))]:Facts) (fun a w=>∃y9:Nat,∃y6:Value,Env 214 [(2,vp2),(7,y4),(8,y5),(9,y6),(10,(Iv aP))] a∧Hp Z ρ (Pt y9 (.cells #[(Iv 0),(Iv aP),(Iv 0),(Iv 0),(Iv x8.kind),(.string x9.text)] 58 (0,0))::aC 58 y6 x10::aC 70 y5 x2::aC 70 y4 x1::Pt b2 (.cells #[(Iv p1.kind),(.string p1.text),(Iv p1.at_),(Iv p1.fin),aJ] 24 (0,0))::Pt b1 (.cells #[(Iv p0.kind),(.string p0.text),(Iv p0.at_),(Iv p0.fin),aI] 24 (0,0))::L) w) (by kernel_rfl) ⟨fun _=>⟨_,hp⟩,fun _=>⟨_,(hp.get 1 rfl)⟩,trivial⟩ (fun hS=>?_) ?_
    ·
     generalize w.drew=w at hS hp⊢
     refine Ts [0,1,2,3] hE hS rfl rfl (by kernel_rfl) fun a hE hS=>?_
     obtain⟨b13,b13o,b13r,b13v,b13f⟩:=aC.at hp 1 rfl iQ ex8
     refine T0 4 hE hS rfl rfl rfl (by kernel_rfl) (fun _=>aN rfl hE rfl rfl b13r) fun a hE hS=>T0 5 hE hS rfl rfl rfl (by kernel_rfl) (fun _=>xf hE J9 rfl rfl) fun a hE hS=>T 6 1 hE hS rfl rfl rfl (by kernel_rfl) (fun _=>aK rfl hE rfl (fun w hw=>aV aT (b13f 0 _ rfl _ _ w (hw.get 0 rfl)))) fun a hE hS=>Ts [7,8] hE hS rfl rfl (by kernel_rfl) fun a hE hS=>?_
     obtain⟨b14,b14o,b14r,b14v,b14f⟩:=aC.at hp 1 rfl iQ ex9
     refine T0 9 hE hS rfl rfl rfl (by kernel_rfl) (fun _=>aN rfl hE rfl rfl b14r) fun a hE hS=>T0 10 hE hS rfl rfl rfl (by kernel_rfl) (fun _=>xf hE L6 rfl rfl) fun a hE hS=>T 11 1 hE hS rfl rfl rfl (by kernel_rfl) (fun _=>aK rfl hE rfl (fun w hw=>aV xR (b14f 1 _ rfl _ _ w (hw.get 0 rfl)))) fun a hE hS=>T0 12 hE hS rfl rfl rfl (by kernel_rfl) (v:=(.agg #[(Iv 0),(Iv aP),(Iv 0),(Iv 0),(Iv x8.kind),(.string x9.text)])) (fun _=>lW rfl hE [(0,(Iv 0)),(1,(Iv aP)),(4,(Iv x8.kind)),(5,(.string x9.text))] (by exact⟨⟨rfl,rfl⟩,⟨rfl,rfl⟩,⟨rfl,rfl⟩,⟨rfl,rfl⟩,trivial⟩) (fun w=>by simp[Instr.build,Instr.fill,Value.cells,go_sem])) fun a hE hS=>?_
     refine W1 13 (by kernel_rfl) rfl ?_
     refine fP (wk0 rfl) rfl rfl hE hp rfl [(0,(.agg #[(Iv 0),(Iv aP),(Iv 0),(Iv 0),(Iv x8.kind),(.string x9.text)]))] ⟨⟨rfl,rfl⟩,trivial⟩ [(Iv 0),(Iv aP),(Iv 0),(Iv 0),(Iv x8.kind),(.string x9.text)] 58 (fun w=>by simp[Instr.buildSlice,Instr.fill,Value.cells,go_sem]) ?_
     intro a w b15 hE hp
     have hp:=r6 hp
     refine aB (aF ⟨gp0 hp,gp 2 hp rfl,trivial⟩ fun hS=>?_)
     refine W1 14 (by kernel_rfl) rfl ?_
     refine fU (wk0 rfl) rfl rfl hE hp rfl uQ rfl rfl 1 rfl rfl (l2:=[(Chg.mk 0 aP 0 0 x8.kind x9.text)]) rfl (fun j u hj=>by have:=Hp.cN 0 rfl 0 _ (aS rfl) w hp j u hj;simpa using this) ex10 ?_
     intro v2 a w hE hp
     have hp:=r6 hp
     refine aB (aF ⟨gp0 hp,gp 2 hp rfl,trivial⟩ fun hS=>?_)
     refine Ts [15] hE hS rfl rfl (by kernel_rfl) fun a hE hS=>?_
     exact bP (by kernel_rfl) ⟨_,_,hE.cut ⟨rfl,rfl,rfl,rfl,rfl,trivial⟩,hp⟩
    rintro a w ⟨y9,y6,hE,hp⟩
    refine aA (S hE 1 rfl fun a hE=>?_)
    obtain⟨x11,ex11,hl1⟩:=bnd hl1
    refine V hE hp rfl (bF rfl hE rfl rfl (aO ex11)) fun a hE=>S hE 1 rfl fun a hE=>aB ?_
    exact⟨_,(oj hl1).symm,_,hE.cut ⟨rfl,rfl,rfl,rfl,rfl,trivial⟩,(hp.drop)⟩
   replace hl1:=(ie hc5).symm.trans hl1
   refine aZ (aA ?_)
   refine S hE 1 rfl fun a hE=>?_
   obtain⟨x12,ex12,hl1⟩:=bnd hl1
   refine V hE hp rfl (bF rfl hE rfl rfl (aO ex12)) fun a hE=>S hE 1 rfl fun a hE=>aB ?_
   exact⟨_,(oj hl1).symm,_,hE.cut ⟨rfl,rfl,rfl,rfl,rfl,trivial⟩,hp⟩
  replace hl1:=(ie hc2).symm.trans hl1
  refine dS ?_
  refine⟨_,(oj hl1).symm,fun hbb=>?_⟩
  subst hbb
  exact⟨_,hE.cut ⟨rfl,rfl,rfl,rfl,trivial⟩,hp⟩
 rintro a w ⟨w6,hE,hp⟩
 refine aG (aG ?_)
 refine aA (S hE 1 rfl fun a hE=>?_)
 refine V hE hp rfl (bT rfl hE rfl (aC.len hp 2 rfl iQ)) fun a hE=>?_
 obtain⟨x13,ex13,hm⟩:=bnd hm
 refine V hE hp rfl (dQ rfl hE rfl rfl (aO ex13)) fun a hE=>S hE 1 rfl fun a hE=>aB ?_
 obtain⟨b16,hc6,hm⟩:=bnd hm
 refine dH (fun a w=>∃(w6:Value),Env 214 [(2,vp2),(7,y4),(8,y5),(9,w6)] a∧Hp Z ρ (aC 58 w6 b16::aC 70 y5 x2::aC 70 y4 x1::Pt b2 (.cells #[(Iv p1.kind),(.string p1.text),(Iv p1.at_),(Iv p1.fin),aJ] 24 (0,0))::Pt b1 (.cells #[(Iv p0.kind),(.string p0.text),(Iv p0.at_),(Iv p0.fin),aI] 24 (0,0))::L) w) ?_ ?_
 ·refine dZ hc6 (fun s a w=>∃(w6:Value),Env 214 [(2,vp2),(7,y4),(8,y5),(9,w6),(12,(Iv s.1))] a∧Hp Z ρ (aC 58 w6 s.2::aC 70 y5 x2::aC 70 y4 x1::Pt b2 (.cells #[(Iv p1.kind),(.string p1.text),(Iv p1.at_),(Iv p1.fin),aJ] 24 (0,0))::Pt b1 (.cells #[(Iv p0.kind),(.string p0.text),(Iv p0.at_),(Iv p0.fin),aI] 24 (0,0))::L) w) ?_ ?_
  ·exact⟨_,hE.cut ⟨rfl,rfl,rfl,rfl,rfl,trivial⟩,hp⟩
  rintro⟨bJ,dY⟩ st a w ⟨w6,hE,hp⟩ hl2
  dsimp only at hE hp hl2
  unfold mQ at hl2
  refine aG (aG ?_)
  refine aA (S hE 2 rfl fun a hE=>?_)
  refine aB ?_
  refine dE hE rfl (fun hc7=>?_) (fun hc7=>?_)
  ·replace hl2:=(it hc7).symm.trans hl2
   refine aZ (aG ?_)
   refine dM (aG ?_)
   refine aA (S hE 2 rfl fun a hE=>?_)
   obtain⟨x14,ex14,hl2⟩:=bnd hl2
   obtain⟨b17,b17o,b17c,b17r,b17k,b17f⟩:=aH.at hp2 dW ex14
   obtain rfl:b17c=Enc.enc x14:=b17k
   have b17f:AtP ρ b17 b17o [(Iv x14.a),(Iv x14.b)]:=b17f
   refine V hE hp rfl (aN rfl hE rfl rfl b17r) fun a hE=>V hE hp rfl (xf hE dK rfl rfl) fun a hE=>V hE hp rfl (aK rfl hE rfl (fun w hw=>aV aT (b17f.c 1 rfl w hw))) fun a hE=>S hE 1 rfl fun a hE=>aB ?_
   refine dE hE rfl (fun hc8=>?_) (fun hc8=>?_)
   ·replace hl2:=(it hc8).symm.trans hl2
    refine aA (S hE 2 rfl fun a hE=>?_)
    refine V hE hp rfl (v:=(.agg #[(Iv 1),(Iv bJ),(Iv 0),(Iv 0),(Iv 0),(.string ByteArray.empty)])) (lW rfl hE [(0,(Iv 1)),(1,(Iv bJ))] (by exact⟨⟨rfl,rfl⟩,⟨rfl,rfl⟩,trivial⟩) (fun w=>by simp[Instr.build,Instr.fill,Value.cells,go_sem]<;>rfl)) fun a hE=>?_
    refine fP (wk0 rfl) rfl rfl hE hp rfl [(0,(.agg #[(Iv 1),(Iv bJ),(Iv 0),(Iv 0),(Iv 0),(.string ByteArray.empty)]))] ⟨⟨rfl,rfl⟩,trivial⟩ [(Iv 1),(Iv bJ),(Iv 0),(Iv 0),(Iv 0),(.string ByteArray.empty)] 58 (fun w=>by simp[Instr.buildSlice,Instr.fill,Value.cells,go_sem]) ?_
    intro a w b18 hE hp
    have hp:=r6 hp
    obtain⟨x15,ex15,hl2⟩:=bnd hl2
    refine fU (wk0 rfl) rfl rfl hE hp rfl uQ rfl rfl 1 rfl rfl (l2:=[(Chg.mk 1 bJ 0 0 0 ByteArray.empty)]) rfl (fun j u hj=>by have:=Hp.cN 0 rfl 0 _ (aS rfl) w hp j u hj;simpa using this) ex15 ?_
    intro v3 a w hE hp
    have hp:=r6 hp
    refine S hE 1 rfl fun a hE=>aB ?_
    have hE:=hE.cut (E':=[(2,vp2),(7,y4),(8,y5),(9,v3),(12,(Iv bJ))]) ⟨rfl,rfl,rfl,rfl,rfl,trivial⟩
    refine aA (S hE 1 rfl fun a hE=>?_)
    obtain⟨x16,ex16,hl2⟩:=bnd hl2
    refine V hE hp rfl (dQ rfl hE rfl rfl (aO ex16)) fun a hE=>S hE 1 rfl fun a hE=>aB ?_
    exact⟨_,(oj hl2).symm,_,hE.cut ⟨rfl,rfl,rfl,rfl,rfl,trivial⟩,(hp.drop)⟩
   replace hl2:=(ie hc8).symm.trans hl2
   refine aZ (aA ?_)
   refine S hE 1 rfl fun a hE=>?_
   obtain⟨x17,ex17,hl2⟩:=bnd hl2
   refine V hE hp rfl (dQ rfl hE rfl rfl (aO ex17)) fun a hE=>S hE 1 rfl fun a hE=>aB ?_
   exact⟨_,(oj hl2).symm,_,hE.cut ⟨rfl,rfl,rfl,rfl,rfl,trivial⟩,hp⟩
  replace hl2:=(ie hc7).symm.trans hl2
  refine dS ?_
  refine⟨_,(oj hl2).symm,fun hbb=>?_⟩
  subst hbb
  exact⟨_,hE.cut ⟨rfl,rfl,rfl,rfl,trivial⟩,hp⟩
 rintro a w ⟨w6,hE,hp⟩
 refine aG (aA ?_)
 refine S hE 1 rfl fun a hE=>V hE hp rfl (bT rfl hE rfl (aC.len hp 1 rfl iQ)) fun a hE=>?_
 obtain⟨x18,ex18,hm⟩:=bnd hm
 refine aF4 (wk0 rfl) rfl rfl hE hp rfl (El:=4) (bytes:=1) (by kernel_rfl) (false:Bool) (by kernel_rfl) (by kernel_rfl) rfl rfl ex18 ?_
 intro v4 a w hE hp
 have hp:=r6 hp
 refine S hE 1 rfl fun a hE=>aB (aG ?_)
 refine aG (aA ?_)
 refine S hE 1 rfl fun a hE=>aB ?_
 obtain⟨b19,hc9,hm⟩:=bnd hm
 refine dH (fun a w=>∃(w12:Value),Env 214 [(8,y5),(9,w6),(13,w12)] a∧Hp Z ρ (aC 4 w12 b19::aC 58 w6 b16::aC 70 y5 x2::aC 70 y4 x1::Pt b2 (.cells #[(Iv p1.kind),(.string p1.text),(Iv p1.at_),(Iv p1.fin),aJ] 24 (0,0))::Pt b1 (.cells #[(Iv p0.kind),(.string p0.text),(Iv p0.at_),(Iv p0.fin),aI] 24 (0,0))::L) w) ?_ ?_
 ·refine dZ hc9 (fun s a w=>∃(w12:Value),Env 214 [(2,vp2),(7,y4),(8,y5),(9,w6),(13,w12),(14,(Iv s.1))] a∧Hp Z ρ (aC 4 w12 s.2::aC 58 w6 b16::aC 70 y5 x2::aC 70 y4 x1::Pt b2 (.cells #[(Iv p1.kind),(.string p1.text),(Iv p1.at_),(Iv p1.fin),aJ] 24 (0,0))::Pt b1 (.cells #[(Iv p0.kind),(.string p0.text),(Iv p0.at_),(Iv p0.fin),aI] 24 (0,0))::L) w) ?_ ?_
  ·exact⟨_,hE.cut ⟨rfl,rfl,rfl,rfl,rfl,rfl,trivial⟩,hp⟩
  rintro⟨eQ,uG⟩ st a w ⟨w12,hE,hp⟩ hl3
  dsimp only at hE hp hl3
  unfold jS at hl3
  refine aG (aG ?_)
  refine aA (S hE 2 rfl fun a hE=>?_)
  refine V hE hp rfl (bT rfl hE rfl (aC.len hp 3 rfl iQ)) fun a hE=>S hE 1 rfl fun a hE=>aB ?_
  refine dE hE rfl (fun hc10=>?_) (fun hc10=>?_)
  ·replace hl3:=(it hc10).symm.trans hl3
   refine aZ (aG ?_)
   refine dM (aG ?_)
   refine aA (S hE 2 rfl fun a hE=>?_)
   obtain⟨x19,ex19,hl3⟩:=bnd hl3
   obtain⟨b20,b20o,b20c,b20r,b20k,b20f⟩:=aH.at hp2 dW ex19
   obtain rfl:b20c=Enc.enc x19:=b20k
   have b20f:AtP ρ b20 b20o [(Iv x19.a),(Iv x19.b)]:=b20f
   refine V hE hp rfl (aN rfl hE rfl rfl b20r) fun a hE=>V hE hp rfl (xf hE dK rfl rfl) fun a hE=>V hE hp rfl (aK rfl hE rfl (fun w hw=>aV aT (b20f.c 1 rfl w hw))) fun a hE=>S hE 1 rfl fun a hE=>aB ?_
   have hE:=hE.cut (E':=[(2,vp2),(7,y4),(8,y5),(9,w6),(13,w12),(14,(Iv eQ)),(110,(.bool (decide (0≤x19.b))))]) ⟨rfl,rfl,rfl,rfl,rfl,rfl,rfl,trivial⟩
   refine dE hE rfl (fun hc11=>?_) (fun hc11=>?_)
   ·replace hl3:=(it hc11).symm.trans hl3
    refine aA (S hE 3 rfl fun a hE=>?_)
    obtain⟨x20,ex20,hl3⟩:=bnd hl3
    obtain⟨b21,b21o,b21c,b21r,b21k,b21f⟩:=aH.at hp2 dW ex20
    obtain rfl:b21c=Enc.enc x20:=b21k
    have b21f:AtP ρ b21 b21o [(Iv x20.a),(Iv x20.b)]:=b21f
    refine V hE hp rfl (aN rfl hE rfl rfl b21r) fun a hE=>V hE hp rfl (xf hE dK rfl rfl) fun a hE=>V hE hp rfl (aK rfl hE rfl (fun w hw=>aV aT (b21f.c 1 rfl w hw))) fun a hE=>?_
    obtain⟨x21,ex21,hl3⟩:=bnd hl3
    obtain⟨b22,b22o,b22r,b22v,b22f⟩:=aC.at hp 0 rfl rH ex21
    refine V hE hp rfl (aN rfl hE rfl rfl b22r) fun a hE=>?_
    refine zF (wk0 rfl) rfl hE hp rfl rfl rfl 0 rfl ex21 b22v 0 (e':=true) vH.size_ rfl rfl rfl ⟨rfl,rfl⟩ ?_
    intro w hp
    have hp:=r6 hp
    refine aB (aA ?_)
    refine S hE 1 rfl fun a hE=>?_
    obtain⟨x22,ex22,hl3⟩:=bnd hl3
    refine V hE hp rfl (bF rfl hE rfl rfl (aO ex22)) fun a hE=>S hE 1 rfl fun a hE=>aB ?_
    exact⟨_,(oj hl3).symm,_,hE.cut ⟨rfl,rfl,rfl,rfl,rfl,rfl,trivial⟩,hp⟩
   replace hl3:=(ie hc11).symm.trans hl3
   refine aZ (aA ?_)
   refine S hE 1 rfl fun a hE=>?_
   obtain⟨x23,ex23,hl3⟩:=bnd hl3
   refine V hE hp rfl (bF rfl hE rfl rfl (aO ex23)) fun a hE=>S hE 1 rfl fun a hE=>aB ?_
   exact⟨_,(oj hl3).symm,_,hE.cut ⟨rfl,rfl,rfl,rfl,rfl,rfl,trivial⟩,hp⟩
  replace hl3:=(ie hc10).symm.trans hl3
  refine dS ?_
  refine⟨_,(oj hl3).symm,fun hbb=>?_⟩
  subst hbb
  exact⟨_,hE.cut ⟨rfl,rfl,rfl,trivial⟩,hp⟩
 rintro a w ⟨w12,hE,hp⟩
 refine aG (aG ?_)
 refine aA (S hE 1 rfl fun a hE=>?_)
 refine aB ?_
 obtain⟨b23,hc12,hm⟩:=bnd hm
 refine dH (fun a w=>∃(w12:Value) (w6:Value),Env 214 [(9,w6)] a∧Hp Z ρ (aC 4 w12 b23.1::aC 58 w6 b23.2::aC 70 y5 x2::aC 70 y4 x1::Pt b2 (.cells #[(Iv p1.kind),(.string p1.text),(Iv p1.at_),(Iv p1.fin),aJ] 24 (0,0))::Pt b1 (.cells #[(Iv p0.kind),(.string p0.text),(Iv p0.at_),(Iv p0.fin),aI] 24 (0,0))::L) w) ?_ ?_
 ·refine dZ hc12 (fun s a w=>∃(w12:Value) (w6:Value),Env 214 [(8,y5),(9,w6),(13,w12),(15,(Iv s.1))] a∧Hp Z ρ (aC 4 w12 s.2.1::aC 58 w6 s.2.2::aC 70 y5 x2::aC 70 y4 x1::Pt b2 (.cells #[(Iv p1.kind),(.string p1.text),(Iv p1.at_),(Iv p1.fin),aJ] 24 (0,0))::Pt b1 (.cells #[(Iv p0.kind),(.string p0.text),(Iv p0.at_),(Iv p0.fin),aI] 24 (0,0))::L) w) ?_ ?_
  ·exact⟨_,_,hE.cut ⟨rfl,rfl,rfl,rfl,trivial⟩,hp⟩
  rintro⟨fJ,iY,xE⟩ st a w ⟨w12,w6,hE,hp⟩ hl4
  dsimp only at hE hp hl4
  unfold mV at hl4
  refine aG (aG ?_)
  refine aA (S hE 2 rfl fun a hE=>?_)
  refine V hE hp rfl (bT rfl hE rfl (aC.len hp 2 rfl iQ)) fun a hE=>S hE 1 rfl fun a hE=>aB ?_
  refine dE hE rfl (fun hc13=>?_) (fun hc13=>?_)
  ·replace hl4:=(it hc13).symm.trans hl4
   refine aZ (aG ?_)
   obtain⟨j1,hj1,hl4⟩:=bnd hl4
   refine dH (fun a w=>∃(w12:Value) (w6:Value),Env 214 [(8,y5),(9,w6),(13,w12),(15,(Iv fJ))] a∧Hp Z ρ (aC 4 w12 j1.1::aC 58 w6 j1.2::aC 70 y5 x2::aC 70 y4 x1::Pt b2 (.cells #[(Iv p1.kind),(.string p1.text),(Iv p1.at_),(Iv p1.fin),aJ] 24 (0,0))::Pt b1 (.cells #[(Iv p0.kind),(.string p0.text),(Iv p0.at_),(Iv p0.fin),aI] 24 (0,0))::L) w) ?_ ?_
   ·
    refine aG (aG ?_)
    refine aA (S hE 2 rfl fun a hE=>?_)
    obtain⟨x24,ex24,hj1⟩:=bnd hj1
    obtain⟨b24,b24o,b24r,b24v,b24f⟩:=aC.at hp 0 rfl rH ex24
    refine V hE hp rfl (aN rfl hE rfl rfl b24r) fun a hE=>V hE hp rfl (aK rfl hE rfl (fun w hw=>aV vH (b24f 0 _ rfl _ _ w (hw.get 0 rfl)))) fun a hE=>aB ?_
    refine dE hE rfl (fun hc14=>?_) (fun hc14=>?_)
    ·replace hj1:=(it hc14).symm.trans hj1
     refine dS ?_
     obtain rfl:=oj hj1
     exact⟨_,_,hE.cut ⟨rfl,rfl,rfl,rfl,trivial⟩,hp⟩
    replace hj1:=(ie hc14).symm.trans hj1
    refine aZ (aG ?_)
    obtain⟨x25,ex25,hj1⟩:=bnd hj1
    obtain⟨x26,ex26,hj1⟩:=bnd hj1
    obtain⟨x27,ex27,hj1⟩:=bnd hj1
    have hp:=hp.drew
    refine fG ([([],At0 Z ρ),([],At1 Z ρ (aC 70 y5 x2))]:Facts) (fun a w=>∃y19:Nat,Env 214 [(8,y5),(9,w6),(13,w12),(15,(Iv fJ)),(16,(Pv y19 0))] a∧Hp Z ρ (Pt y19 (.cells #[(Iv 2),(Iv x25.parent),(Iv 0),(Iv 0),(Iv x26.kind),(.string x27.text)] 58 (0,0))::aC 4 w12 iY::aC 58 w6 xE::aC 70 y5 x2::aC 70 y4 x1::Pt b2 (.cells #[(Iv p1.kind),(.string p1.text),(Iv p1.at_),(Iv p1.fin),aJ] 24 (0,0))::Pt b1 (.cells #[(Iv p0.kind),(.string p0.text),(Iv p0.at_),(Iv p0.fin),aI] 24 (0,0))::L) w) (by kernel_rfl) ⟨fun _=>⟨_,hp⟩,fun _=>⟨_,(hp.get 2 rfl)⟩,trivial⟩ (fun hS=>?_) ?_
    ·
     generalize w.drew=w at hS hp⊢
     refine Ts [0,1] hE hS rfl rfl (by kernel_rfl) fun a hE hS=>?_
     obtain⟨b29,b29o,b29r,b29v,b29f⟩:=aC.at hp 2 rfl iQ ex25
     refine T0 2 hE hS rfl rfl rfl (by kernel_rfl) (fun _=>aN rfl hE rfl rfl b29r) fun a hE hS=>T0 3 hE hS rfl rfl rfl (by kernel_rfl) (fun _=>xf hE zM rfl rfl) fun a hE hS=>T 4 1 hE hS rfl rfl rfl (by kernel_rfl) (fun _=>aK rfl hE rfl (fun w hw=>aV aT (b29f 3 _ rfl _ _ w (hw.get 0 rfl)))) fun a hE hS=>Ts [5,6] hE hS rfl rfl (by kernel_rfl) fun a hE hS=>?_
     obtain⟨b30,b30o,b30r,b30v,b30f⟩:=aC.at hp 2 rfl iQ ex26
     refine T0 7 hE hS rfl rfl rfl (by kernel_rfl) (fun _=>aN rfl hE rfl rfl b30r) fun a hE hS=>T0 8 hE hS rfl rfl rfl (by kernel_rfl) (fun _=>xf hE J9 rfl rfl) fun a hE hS=>T 9 1 hE hS rfl rfl rfl (by kernel_rfl) (fun _=>aK rfl hE rfl (fun w hw=>aV aT (b30f 0 _ rfl _ _ w (hw.get 0 rfl)))) fun a hE hS=>Ts [10,11] hE hS rfl rfl (by kernel_rfl) fun a hE hS=>?_
     obtain⟨b31,b31o,b31r,b31v,b31f⟩:=aC.at hp 2 rfl iQ ex27
     refine T0 12 hE hS rfl rfl rfl (by kernel_rfl) (fun _=>aN rfl hE rfl rfl b31r) fun a hE hS=>T0 13 hE hS rfl rfl rfl (by kernel_rfl) (fun _=>xf hE L6 rfl rfl) fun a hE hS=>T 14 1 hE hS rfl rfl rfl (by kernel_rfl) (fun _=>aK rfl hE rfl (fun w hw=>aV xR (b31f 1 _ rfl _ _ w (hw.get 0 rfl)))) fun a hE hS=>T0 15 hE hS rfl rfl rfl (by kernel_rfl) (v:=(.agg #[(Iv 2),(Iv x25.parent),(Iv 0),(Iv 0),(Iv x26.kind),(.string x27.text)])) (fun _=>lW rfl hE [(0,(Iv 2)),(1,(Iv x25.parent)),(4,(Iv x26.kind)),(5,(.string x27.text))] (by exact⟨⟨rfl,rfl⟩,⟨rfl,rfl⟩,⟨rfl,rfl⟩,⟨rfl,rfl⟩,trivial⟩) (fun w=>by simp[Instr.build,Instr.fill,Value.cells,go_sem])) fun a hE hS=>?_
     refine W1 16 (by kernel_rfl) rfl ?_
     refine dL (wk0 rfl) rfl rfl hE hp rfl [(Iv 0),(Iv 0),(Iv 0),(Iv 0),(Iv 0),(.string ByteArray.empty)] (fun w=>by simp[Instr.alloc,go_sem]<;>rfl) ?_
     intro a w b32 hE hp
     have hp:=r7 hp
     refine aB (aF ⟨gp0 hp,gp 3 hp rfl,trivial⟩ fun hS=>?_)
     refine W1 17 (by kernel_rfl) rfl ?_
     refine aX (wk0 rfl) rfl hE hp rfl rfl rfl 0 rfl xA.size_ rfl (aQ ⟨rfl,rfl,rfl,rfl,rfl,rfl,trivial⟩) [(Iv 2),(Iv x25.parent),(Iv 0),(Iv 0),(Iv x26.kind),(.string x27.text)] rfl ?_
     intro w hp
     have hp:=r7 hp
     refine aB (aF ⟨gp0 hp,gp 3 hp rfl,trivial⟩ fun hS=>?_)
     exact bP (by kernel_rfl) ⟨_,hE.cut ⟨rfl,rfl,rfl,rfl,rfl,trivial⟩,hp⟩
    rintro a w ⟨y19,hE,hp⟩
    refine aG (aA ?_)
    refine S hE 1 rfl fun a hE=>V hE hp rfl (bT rfl hE rfl (aC.len hp 3 rfl iQ)) fun a hE=>S hE 1 rfl fun a hE=>aB (aG ?_)
    refine aG (aA ?_)
    refine S hE 2 rfl fun a hE=>?_
    obtain⟨x28,ex28,hj1⟩:=bnd hj1
    obtain⟨b33,b33o,b33r,b33v,b33f⟩:=aC.at hp 3 rfl iQ ex28
    refine V hE hp rfl (aN rfl hE rfl rfl b33r) fun a hE=>V hE hp rfl (xf hE zM rfl rfl) fun a hE=>V hE hp rfl (aK rfl hE rfl (fun w hw=>aV aT (b33f 3 _ rfl _ _ w (hw.get 3 rfl)))) fun a hE=>S hE 1 rfl fun a hE=>aB ?_
    obtain⟨j2,hj2,hj1⟩:=bnd hj1
    refine k_cut (fun a w=>Env 214 [(8,y5),(9,w6),(13,w12),(15,(Iv fJ)),(16,(Pv y19 0)),(17,(Iv j2))] a∧Hp Z ρ (Pt y19 (.cells #[(Iv 2),(Iv x25.parent),(Iv 0),(Iv 0),(Iv x26.kind),(.string x27.text)] 58 (0,0))::aC 4 w12 iY::aC 58 w6 xE::aC 70 y5 x2::aC 70 y4 x1::Pt b2 (.cells #[(Iv p1.kind),(.string p1.text),(Iv p1.at_),(Iv p1.fin),aJ] 24 (0,0))::Pt b1 (.cells #[(Iv p0.kind),(.string p0.text),(Iv p0.at_),(Iv p0.fin),aI] 24 (0,0))::L) w) ?_ ?_
    ·
     refine dE hE rfl (fun hc15=>?_) (fun hc15=>?_)
     ·replace hj2:=(it hc15).symm.trans hj2
      refine aA (S hE 3 rfl fun a hE=>?_)
      obtain⟨x29,ex29,hj2⟩:=bnd hj2
      obtain⟨b34,b34o,b34r,b34v,b34f⟩:=aC.at hp 3 rfl iQ ex29
      refine V hE hp rfl (aN rfl hE rfl rfl b34r) fun a hE=>V hE hp rfl (xf hE zM rfl rfl) fun a hE=>V hE hp rfl (aK rfl hE rfl (fun w hw=>aV aT (b34f 3 _ rfl _ _ w (hw.get 3 rfl)))) fun a hE=>?_
      obtain⟨x30,ex30,hj2⟩:=bnd hj2
      obtain⟨b35,b35o,b35r,b35v,b35f⟩:=aC.at hp 3 rfl iQ ex30
      refine V hE hp rfl (aN rfl hE rfl rfl b35r) fun a hE=>V hE hp rfl (xf hE aA6 rfl rfl) fun a hE=>V hE hp rfl (aK rfl hE rfl (fun w hw=>aV aT (b35f 2 _ rfl _ _ w (hw.get 3 rfl)))) fun a hE=>S hE 1 rfl fun a hE=>aB ?_
      have hE:=hE.cut (E':=[(8,y5),(9,w6),(13,w12),(15,(Iv fJ)),(16,(Pv y19 0)),(17,(Iv x30.last))]) ⟨rfl,rfl,rfl,rfl,rfl,rfl,trivial⟩
      obtain rfl:=oj hj2
      exact⟨hE.cut ⟨rfl,rfl,rfl,rfl,rfl,rfl,trivial⟩,hp⟩
     replace hj2:=(ie hc15).symm.trans hj2
     refine aZ ?_
     obtain rfl:=oj hj2
     exact⟨hE.cut ⟨rfl,rfl,rfl,rfl,rfl,rfl,trivial⟩,hp⟩
    rintro a w ⟨hE,hp⟩
    refine aG (aG ?_)
    refine aA (S hE 2 rfl fun a hE=>?_)
    obtain⟨x31,ex31,hj1⟩:=bnd hj1
    obtain⟨b36,b36o,b36r,b36v,b36f⟩:=aC.at hp 3 rfl iQ ex31
    refine V hE hp rfl (aN rfl hE rfl rfl b36r) fun a hE=>V hE hp rfl (xf hE zM rfl rfl) fun a hE=>V hE hp rfl (aK rfl hE rfl (fun w hw=>aV aT (b36f 3 _ rfl _ _ w (hw.get 3 rfl)))) fun a hE=>?_
    obtain⟨x32,ex32,hj1⟩:=bnd hj1
    refine V hE hp rfl (bF rfl hE rfl rfl (aO ex32)) fun a hE=>S hE 1 rfl fun a hE=>aB ?_
    obtain⟨b37,hc16,hj1⟩:=bnd hj1
    refine dH (fun a w=>Env 214 [(8,y5),(9,w6),(13,w12),(15,(Iv fJ)),(16,(Pv y19 0))] a∧Hp Z ρ (Pt y19 (.cells #[(Iv 2),(Iv x25.parent),(Iv b37.1),(Iv b37.2),(Iv x26.kind),(.string x27.text)] 58 (0,0))::aC 4 w12 iY::aC 58 w6 xE::aC 70 y5 x2::aC 70 y4 x1::Pt b2 (.cells #[(Iv p1.kind),(.string p1.text),(Iv p1.at_),(Iv p1.fin),aJ] 24 (0,0))::Pt b1 (.cells #[(Iv p0.kind),(.string p0.text),(Iv p0.at_),(Iv p0.fin),aI] 24 (0,0))::L) w) ?_ ?_
    ·refine dZ hc16 (fun s a w=>Env 214 [(8,y5),(9,w6),(13,w12),(15,(Iv fJ)),(16,(Pv y19 0)),(17,(Iv j2)),(18,(Iv s.1))] a∧Hp Z ρ (Pt y19 (.cells #[(Iv 2),(Iv x25.parent),(Iv s.2.1),(Iv s.2.2),(Iv x26.kind),(.string x27.text)] 58 (0,0))::aC 4 w12 iY::aC 58 w6 xE::aC 70 y5 x2::aC 70 y4 x1::Pt b2 (.cells #[(Iv p1.kind),(.string p1.text),(Iv p1.at_),(Iv p1.fin),aJ] 24 (0,0))::Pt b1 (.cells #[(Iv p0.kind),(.string p0.text),(Iv p0.at_),(Iv p0.fin),aI] 24 (0,0))::L) w) ?_ ?_
     ·exact⟨hE.cut ⟨rfl,rfl,rfl,rfl,rfl,rfl,rfl,trivial⟩,hp⟩
     rintro⟨xG,Q7,lp5_2⟩ st a w ⟨hE,hp⟩ hl5
     dsimp only at hE hp hl5
     unfold jT at hl5
     refine aG (aG ?_)
     refine aA (S hE 3 rfl fun a hE=>?_)
     refine aB ?_
     refine dE hE rfl (fun hc17=>?_) (fun hc17=>?_)
     ·replace hl5:=(it hc17).symm.trans hl5
      refine aZ (aG ?_)
      refine dM (aG ?_)
      obtain⟨x33,ex33,hl5⟩:=bnd hl5
      obtain⟨m3,hg3,hl5⟩:=bnd hl5
      have hp:=hp.drew
      refine fG ([([],At0 Z ρ),([],At1 Z ρ (aC 4 w12 iY)),([],At1 Z ρ (aC 70 y5 x2))]:Facts) (fun a w=>Env 214 [(8,y5),(9,w6),(13,w12),(15,(Iv fJ)),(16,(Pv y19 0)),(17,(Iv j2)),(18,(Iv xG)),(187,(.bool m3))] a∧Hp Z ρ (Pt y19 (.cells #[(Iv 2),(Iv x25.parent),(Iv Q7),(Iv lp5_2),(Iv x26.kind),(.string x27.text)] 58 (0,0))::aC 4 w12 iY::aC 58 w6 xE::aC 70 y5 x2::aC 70 y4 x1::Pt b2 (.cells #[(Iv p1.kind),(.string p1.text),(Iv p1.at_),(Iv p1.fin),aJ] 24 (0,0))::Pt b1 (.cells #[(Iv p0.kind),(.string p0.text),(Iv p0.at_),(Iv p0.fin),aI] 24 (0,0))::L) w) (by kernel_rfl) ⟨fun _=>⟨_,hp⟩,fun _=>⟨_,(hp.get 1 rfl)⟩,fun _=>⟨_,(hp.get 3 rfl)⟩,trivial⟩ (fun hS=>?_) ?_
      ·
       generalize w.drew=w at hS hp⊢
       refine Ts [0,1] hE hS rfl rfl (by kernel_rfl) fun a hE hS=>?_
       obtain⟨b40,b40o,b40r,b40v,b40f⟩:=aC.at hp 1 rfl rH ex33
       refine T0 2 hE hS rfl rfl rfl (by kernel_rfl) (fun _=>aN rfl hE rfl rfl b40r) fun a hE hS=>T 3 1 hE hS rfl rfl rfl (by kernel_rfl) (fun _=>aK rfl hE rfl (fun w hw=>aV vH (b40f 0 _ rfl _ _ w (hw.get 0 rfl)))) fun a hE hS=>Ts [4] hE hS rfl rfl (by kernel_rfl) fun a hE hS=>?_
       rcases Bool.eq_false_or_eq_true x33 with hc19|hc19
       ·
        have hg3:=(it hc19).symm.trans hg3
        obtain⟨x34,ex34,hg3⟩:=bnd hg3
        obtain⟨x35,ex35,hg3⟩:=bnd hg3
        refine Tg0 5 hE hc19 hS rfl rfl rfl (by kernel_rfl) (fun _=>eH rfl hE rfl) fun a hE hS=>Tg0 6 hE hc19 hS rfl rfl rfl (by kernel_rfl) (fun _=>eH rfl hE rfl) fun a hE hS=>Tg0 7 hE hc19 hS rfl rfl rfl (by kernel_rfl) (fun _=>eH rfl hE rfl) fun a hE hS=>Tg0 9 hE hc19 hS rfl rfl rfl (by kernel_rfl) (fun _=>eH rfl hE rfl) fun a hE hS=>Tg0 10 hE hc19 hS rfl rfl rfl (by kernel_rfl) (fun _=>eH rfl hE rfl) fun a hE hS=>?_
        obtain⟨b41,b41o,b41r,b41v,b41f⟩:=aC.at hp 3 rfl iQ ex35
        refine Tg0 11 hE hc19 hS rfl rfl rfl (by kernel_rfl) (fun _=>aN rfl hE rfl rfl b41r) fun a hE hS=>Tg0 12 hE hc19 hS rfl rfl rfl (by kernel_rfl) (fun _=>xf hE zM rfl rfl) fun a hE hS=>Tg 13 2 hE hc19 hS rfl rfl rfl (by kernel_rfl) (fun _=>aK rfl hE rfl (fun w hw=>aV aT (b41f 3 _ rfl _ _ w (hw.get 0 rfl)))) fun a hE hS=>?_
        refine W1 8 (by kernel_rfl) rfl ?_
        obtain⟨k3,k3a,k3d,k3h⟩:=(hp.get 3 rfl).lend
        obtain⟨k4,k4a,k4d,k4h⟩:=(k3h.get 1 rfl).lend
        refine Cg hE hc19 rfl rfl ent47 (Z7 x2 y5 (aH.mono (aC.ro k3d k3a) (PH.le_un _ _)) iY w12 (aC.ro k4d k4a) xG k4h x34 ex34) ⟨rfl,rfl,rfl,trivial⟩ fun v a w hR hE=>?_
        obtain⟨rfl,hp⟩:=hR
        have hp:=Hp.back k4a k4d hp
        have hp:=Hp.back k3a k3d hp
        have hp:=r7 hp
        refine aB (aF ⟨gp0 hp,gp 1 hp rfl,gp 0 hp rfl,trivial⟩ fun hS=>?_)
        refine Tg0 14 hE hc19 hS rfl rfl rfl (by kernel_rfl) (fun _=>ex_eql rfl hE rfl rfl) fun a hE hS=>T0 15 hE hS rfl rfl rfl (by kernel_rfl) (fun _=>iD rfl hE rfl hc19 rfl) fun a hE hS=>?_
        have hE:=hE.eqv (v':=(.bool m3)) (congrArg Value.bool (oj hg3))
        exact bP (by kernel_rfl) ⟨hE.cut ⟨rfl,rfl,rfl,rfl,rfl,rfl,rfl,rfl,trivial⟩,(((((((hp.get 6 rfl).get 6 rfl).get 6 rfl).get 3 rfl).get 6 rfl).get 5 rfl).get 6 rfl)⟩
       have hg3:=(ie hc19).symm.trans hg3
       refine Tk 5 hE hc19 hS rfl rfl rfl (by kernel_rfl) fun a hE hS=>Tk 6 hE hc19 hS rfl rfl rfl (by kernel_rfl) fun a hE hS=>Tk 7 hE hc19 hS rfl rfl rfl (by kernel_rfl) fun a hE hS=>Tk 9 hE hc19 hS rfl rfl rfl (by kernel_rfl) fun a hE hS=>Tk 10 hE hc19 hS rfl rfl rfl (by kernel_rfl) fun a hE hS=>Tk 11 hE hc19 hS rfl rfl rfl (by kernel_rfl) fun a hE hS=>Tk 12 hE hc19 hS rfl rfl rfl (by kernel_rfl) fun a hE hS=>Tk 13 hE hc19 hS rfl rfl rfl (by kernel_rfl) fun a hE hS=>Tk 8 hE hc19 hS rfl rfl rfl (by kernel_rfl) fun a hE hS=>Tk 14 hE hc19 hS rfl rfl rfl (by kernel_rfl) fun a hE hS=>T0 15 hE hS rfl rfl rfl (by kernel_rfl) (fun _=>gQ rfl hE rfl hc19 rfl) fun a hE hS=>?_
       have hE:=hE.eqv (v':=(.bool m3)) (congrArg Value.bool (oj hg3))
       exact bP (by kernel_rfl) ⟨hE.cut ⟨rfl,rfl,rfl,rfl,rfl,rfl,rfl,rfl,trivial⟩,hp⟩
      rintro a w ⟨hE,hp⟩
      refine dE hE rfl (fun hc20=>?_) (fun hc20=>?_)
      ·replace hl5:=(it hc20).symm.trans hl5
       refine aG (aA ?_)
       refine S hE 3 rfl fun a hE=>aB ?_
       refine dE hE rfl (fun hc21=>?_) (fun hc21=>?_)
       ·replace hl5:=(it hc21).symm.trans hl5
        refine aA (V hE hp rfl (xf hE aA4 rfl rfl) fun a hE=>?_)
        refine V hE hp rfl (xl hE aT 0 rfl rfl rfl rfl) fun a hE=>?_
        obtain⟨x36,ex36,hl5⟩:=bnd hl5
        refine V hE hp rfl (bF rfl hE rfl rfl (aO ex36)) fun a hE=>V hE hp rfl (xf hE aA4 rfl rfl) fun a hE=>?_
        refine aX (wk0 rfl) rfl hE hp rfl rfl rfl 0 rfl aT.size_ rfl (aQ ⟨rfl,trivial⟩) [(Iv 2),(Iv x25.parent),(Iv x36),(Iv lp5_2),(Iv x26.kind),(.string x27.text)] rfl ?_
        intro w hp
        have hp:=r7 hp
        refine aB (aA ?_)
        refine S hE 1 rfl fun a hE=>?_
        obtain⟨x37,ex37,hl5⟩:=bnd hl5
        refine V hE hp rfl (bF rfl hE rfl rfl (aO ex37)) fun a hE=>S hE 1 rfl fun a hE=>aB ?_
        exact⟨_,(oj hl5).symm,hE.cut ⟨rfl,rfl,rfl,rfl,rfl,rfl,rfl,trivial⟩,hp⟩
       replace hl5:=(ie hc21).symm.trans hl5
       refine aG (aA ?_)
       refine S hE 3 rfl fun a hE=>?_
       obtain⟨x38,ex38,hl5⟩:=bnd hl5
       obtain⟨b42,b42o,b42r,b42v,b42f⟩:=aC.at hp 3 rfl iQ ex38
       refine V hE hp rfl (aN rfl hE rfl rfl b42r) fun a hE=>V hE hp rfl (xf hE aA6 rfl rfl) fun a hE=>V hE hp rfl (aK rfl hE rfl (fun w hw=>aV aT (b42f 2 _ rfl _ _ w (hw.get 3 rfl)))) fun a hE=>S hE 1 rfl fun a hE=>aB ?_
       have hE:=hE.cut (E':=[(8,y5),(9,w6),(13,w12),(15,(Iv fJ)),(16,(Pv y19 0)),(17,(Iv j2)),(18,(Iv xG)),(201,(.bool (decide (xG<x38.last))))]) ⟨rfl,rfl,rfl,rfl,rfl,rfl,rfl,rfl,trivial⟩
       refine dE hE rfl (fun hc22=>?_) (fun hc22=>?_)
       ·replace hl5:=(it hc22).symm.trans hl5
        refine aA (V hE hp rfl (xf hE aA5 rfl rfl) fun a hE=>?_)
        refine V hE hp rfl (xl hE aT 0 rfl rfl rfl rfl) fun a hE=>?_
        obtain⟨x39,ex39,hl5⟩:=bnd hl5
        refine V hE hp rfl (bF rfl hE rfl rfl (aO ex39)) fun a hE=>V hE hp rfl (xf hE aA5 rfl rfl) fun a hE=>?_
        refine aX (wk0 rfl) rfl hE hp rfl rfl rfl 0 rfl aT.size_ rfl (aQ ⟨rfl,trivial⟩) [(Iv 2),(Iv x25.parent),(Iv Q7),(Iv x39),(Iv x26.kind),(.string x27.text)] rfl ?_
        intro w hp
        have hp:=r7 hp
        refine aB (aA ?_)
        refine S hE 1 rfl fun a hE=>?_
        obtain⟨x40,ex40,hl5⟩:=bnd hl5
        refine V hE hp rfl (bF rfl hE rfl rfl (aO ex40)) fun a hE=>S hE 1 rfl fun a hE=>aB ?_
        exact⟨_,(oj hl5).symm,hE.cut ⟨rfl,rfl,rfl,rfl,rfl,rfl,rfl,trivial⟩,hp⟩
       replace hl5:=(ie hc22).symm.trans hl5
       refine aZ (aA ?_)
       refine S hE 1 rfl fun a hE=>?_
       obtain⟨x41,ex41,hl5⟩:=bnd hl5
       refine V hE hp rfl (bF rfl hE rfl rfl (aO ex41)) fun a hE=>S hE 1 rfl fun a hE=>aB ?_
       exact⟨_,(oj hl5).symm,hE.cut ⟨rfl,rfl,rfl,rfl,rfl,rfl,rfl,trivial⟩,hp⟩
      replace hl5:=(ie hc20).symm.trans hl5
      refine aZ (aA ?_)
      refine S hE 1 rfl fun a hE=>?_
      obtain⟨x42,ex42,hl5⟩:=bnd hl5
      refine V hE hp rfl (bF rfl hE rfl rfl (aO ex42)) fun a hE=>S hE 1 rfl fun a hE=>aB ?_
      exact⟨_,(oj hl5).symm,hE.cut ⟨rfl,rfl,rfl,rfl,rfl,rfl,rfl,trivial⟩,hp⟩
     replace hl5:=(ie hc17).symm.trans hl5
     refine dS ?_
     refine⟨_,(oj hl5).symm,fun hbb=>?_⟩
     subst hbb
     exact⟨hE.cut ⟨rfl,rfl,rfl,rfl,rfl,trivial⟩,hp⟩
    rintro a w ⟨hE,hp⟩
    refine aG (aA ?_)
    refine S hE 2 rfl fun a hE=>?_
    obtain⟨x43,ex43,hj1⟩:=bnd hj1
    obtain⟨b43,b43o,b43r,b43v,b43f⟩:=aC.at hp 1 rfl rH ex43
    refine V hE hp rfl (aN rfl hE rfl rfl b43r) fun a hE=>?_
    refine zF (wk0 rfl) rfl hE hp rfl rfl rfl 1 rfl ex43 b43v 0 (e':=true) vH.size_ rfl rfl rfl ⟨rfl,rfl⟩ ?_
    intro w hp
    have hp:=r7 hp
    refine aB (aA ?_)
    refine S hE 1 rfl fun a hE=>V hE hp rfl (aK rfl hE rfl (fun w hw=>aW (cs:=[(Iv 2),(Iv x25.parent),(Iv b37.1),(Iv b37.2),(Iv x26.kind),(.string x27.text)]) xA (Hp.cN 0 rfl 0 _ (aS rfl) w hw))) fun a hE=>?_
    refine fP (wk0 rfl) rfl rfl hE hp rfl [(0,(.agg #[(Iv 2),(Iv x25.parent),(Iv b37.1),(Iv b37.2),(Iv x26.kind),(.string x27.text)]))] ⟨⟨rfl,rfl⟩,trivial⟩ [(Iv 2),(Iv x25.parent),(Iv b37.1),(Iv b37.2),(Iv x26.kind),(.string x27.text)] 58 (fun w=>by simp[Instr.buildSlice,Instr.fill,Value.cells,go_sem]) ?_
    intro a w b44 hE hp
    have hp:=r8 hp
    obtain⟨x44,ex44,hj1⟩:=bnd hj1
    refine fU (wk0 rfl) rfl rfl hE hp rfl uQ rfl rfl 3 rfl rfl (l2:=[(Chg.mk 2 x25.parent b37.1 b37.2 x26.kind x27.text)]) rfl (fun j u hj=>by have:=Hp.cN 0 rfl 0 _ (aS rfl) w hp j u hj;simpa using this) ex44 ?_
    intro v5 a w hE hp
    have hp:=r8 hp
    refine S hE 1 rfl fun a hE=>aB ?_
    have hE:=hE.cut (E':=[(8,y5),(9,v5),(13,w12),(15,(Iv fJ))]) ⟨rfl,rfl,rfl,rfl,trivial⟩
    obtain rfl:=oj hj1
    exact⟨_,_,hE.cut ⟨rfl,rfl,rfl,rfl,trivial⟩,(((hp.get 1 rfl).drop).drop)⟩
   rintro a w ⟨w12,w6,hE,hp⟩
   refine aA (S hE 1 rfl fun a hE=>?_)
   obtain⟨x45,ex45,hl4⟩:=bnd hl4
   refine V hE hp rfl (bF rfl hE rfl rfl (aO ex45)) fun a hE=>S hE 1 rfl fun a hE=>aB ?_
   exact⟨_,(oj hl4).symm,_,_,hE.cut ⟨rfl,rfl,rfl,rfl,trivial⟩,hp⟩
  replace hl4:=(ie hc13).symm.trans hl4
  refine dS ?_
  refine⟨_,(oj hl4).symm,fun hbb=>?_⟩
  subst hbb
  exact⟨_,_,hE.cut ⟨rfl,trivial⟩,hp⟩
 rintro a w ⟨w12,w6,hE,hp⟩
 refine aG (aA ?_)
 refine S hE 2 rfl fun a hE=>aB (bZ ?_)
 obtain rfl:=oj hm
 exact gJ hE rfl rfl ⟨_,rfl,_,rfl,(((((((((hp.get 5 rfl).drop).get 4 rfl).drop).get 3 rfl).drop).get 2 rfl).drop).drop)⟩
end Go.Proofs.YtopnldfjcciieaaGreat

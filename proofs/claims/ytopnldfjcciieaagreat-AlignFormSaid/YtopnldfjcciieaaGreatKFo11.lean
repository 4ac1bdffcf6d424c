/- The code goes as its model: (*assessor/align.aligner).relabel, (*assessor/align.aligner).forests, (*assessor/align.aligner).pair. (Printed by wip/sp/gen.py.) -/
import Derived.Test.YtopnldfjcciieaaGreatKFoT
import Derived.Test.YtopnldfjcciieaaGreatKFo3
import Derived.Test.YtopnldfjcciieaaGreatKFo5
import Derived.Test.YtopnldfjcciieaaGreatKFo7
set_option linter.unusedVariables false
set_option linter.unusedSimpArgs false
set_option maxRecDepth 100000
set_option maxHeartbeats 4000000
namespace Go.Proofs.YtopnldfjcciieaaGreat
open Go.RowKit
theorem yB {Z:World} {ρ:PH} {L:List bK} {w:World} (bp0:Nat) (p0:Alg) (cZ:Value) (lI:aH ρ cZ p0.a.nodes) (dA:Value) (lZ:aH ρ dA p0.a.sizes) (bU:Value) (kL:aH ρ bU p0.a.parent) (dB:Value) (lJ:aH ρ dB p0.b.nodes) (dC:Value) (mD:aH ρ dC p0.b.sizes) (bV:Value) (kM:aH ρ bV p0.b.parent) (dI:Value) (jY:aH ρ dI p0.orderA) (dO:Value) (kN:aH ρ dO p0.leftA) (dJ:Value) (jZ:aH ρ dJ p0.orderB) (dP:Value) (kP:aH ρ dP p0.leftB) (bM:Value) (iW:aH ρ bM p0.distances) (dG:Value) (eP:Value) (p1:Int) (p2:Int) (hp:Hp Z ρ (Pt bp0 (.cells #[cZ,dA,bU,dB,dC,bV,dI,dO,dJ,dP,bM,dG,eP] 88 (0,0))::aC 3 dG p0.partner::aC 3 eP p0.back::L) w) (r:Int) (hm:pR p0 p1 p2=some r):
  Calls Tryz.prog 72 #[(Pv bp0 0),(Iv p1),(Iv p2)] w (Ret fun v w'=>v=(Iv r)∧Hp Z ρ (Pt bp0 (.cells #[cZ,dA,bU,dB,dC,bV,dI,dO,dJ,dP,bM,dG,eP] 88 (0,0))::aC 3 dG p0.partner::aC 3 eP p0.back::L) w'):=by
 refine enter (N:=36) Tryz.func72 rfl rfl [(0,(Pv bp0 0)),(1,(Iv p1)),(2,(Iv p2))] rfl (bC ⟨rfl,rfl,rfl,trivial⟩) fun a hE=>?_
 unfold pR at hm
 refine aG (aA ?_)
 refine S hE 1 rfl fun a hE=>aB (aG ?_)
 refine aG ?_
 refine jR (by kernel_rfl) (by kernel_rfl) hp ?_
 refine Sq hE 2 rfl fun a hE=>Vq hE rfl (xf hE fldty88_0 rfl rfl) fun a hE=>Vq hE rfl (xf hE kK rfl rfl) fun a hE=>Vq hE rfl (xl hE iT 0 rfl rfl rfl rfl) fun a hE=>Sq hE 2 rfl fun a hE=>Vq hE rfl (xf hE L8 rfl rfl) fun a hE=>Vq hE rfl (xl hE aY 0 rfl rfl rfl rfl) fun a hE=>Sq hE 1 rfl fun a hE=>?_
 obtain⟨x1,ex1,hm⟩:=bnd hm
 obtain⟨b1,b1o,b1c,b1r,b1k,b1f⟩:=aH.at jY bI ex1
 obtain rfl:b1c=Enc.enc x1:=b1k
 have b1f:AtP ρ b1 b1o [(Iv x1)]:=b1f
 refine Vq hE rfl (aN rfl hE rfl rfl b1r) fun a hE=>Vq hE rfl (aK rfl hE rfl (fun w hw=>aV aT (b1f.c 0 rfl w hw))) fun a hE=>?_
 obtain⟨x2,ex2,hm⟩:=bnd hm
 obtain⟨b2,b2o,b2c,b2r,b2k,b2f⟩:=aH.at lI jI ex2
 obtain⟨rX,rfl,aE8⟩:=NodeAt.opens b2k
 have b2f:AtP ρ b2 b2o [(Iv x2.kind),(.string x2.text),(Iv x2.at_),(Iv x2.fin),rX]:=b2f
 refine Vq hE rfl (aN rfl hE rfl rfl b2r) fun a hE=>Vq hE rfl (aK rfl hE rfl (fun w hw=>aW (cs:=[(Iv x2.kind),(.string x2.text),(Iv x2.at_),(Iv x2.fin),rX]) bY (fun j u hj=>cell_of hw.le (b2f j u hj)))) fun a hE=>Sq hE 2 rfl fun a hE=>Vq hE rfl (xf hE fldty88_1 rfl rfl) fun a hE=>Vq hE rfl (xf hE kK rfl rfl) fun a hE=>Vq hE rfl (xl hE iT 0 rfl rfl rfl rfl) fun a hE=>Sq hE 2 rfl fun a hE=>Vq hE rfl (xf hE L9 rfl rfl) fun a hE=>Vq hE rfl (xl hE aY 0 rfl rfl rfl rfl) fun a hE=>Sq hE 1 rfl fun a hE=>?_
 obtain⟨x3,ex3,hm⟩:=bnd hm
 obtain⟨b3,b3o,b3c,b3r,b3k,b3f⟩:=aH.at jZ bI ex3
 obtain rfl:b3c=Enc.enc x3:=b3k
 have b3f:AtP ρ b3 b3o [(Iv x3)]:=b3f
 refine Vq hE rfl (aN rfl hE rfl rfl b3r) fun a hE=>Vq hE rfl (aK rfl hE rfl (fun w hw=>aV aT (b3f.c 0 rfl w hw))) fun a hE=>?_
 obtain⟨x4,ex4,hm⟩:=bnd hm
 obtain⟨b4,b4o,b4c,b4r,b4k,b4f⟩:=aH.at lJ jI ex4
 obtain⟨rY,rfl,aE9⟩:=NodeAt.opens b4k
 have b4f:AtP ρ b4 b4o [(Iv x4.kind),(.string x4.text),(Iv x4.at_),(Iv x4.fin),rY]:=b4f
 refine Vq hE rfl (aN rfl hE rfl rfl b4r) fun a hE=>Vq hE rfl (aK rfl hE rfl (fun w hw=>aW (cs:=[(Iv x4.kind),(.string x4.text),(Iv x4.at_),(Iv x4.fin),rY]) bY (fun j u hj=>cell_of hw.le (b4f j u hj)))) fun a hE=>?_
 obtain⟨x5,ex5,hm⟩:=bnd hm
 refine Y7 (wk0 rfl) rfl rfl hE rfl [(.agg #[(Iv x2.kind),(.string x2.text),(Iv x2.at_),(Iv x2.fin),rX]),(.agg #[(Iv x4.kind),(.string x4.text),(Iv x4.at_),(Iv x4.fin),rY])] ⟨rfl,rfl,trivial⟩ ent41 (v:=(.bool x5)) (fun w hw=>Calls.mono (yX x2 rX aE8 x4 rY aE9 hw x5 ex5) fun e w' ⟨v,he,hv,hh⟩=>⟨by rw[he,hv],hh⟩) ?_
 intro a hE
 refine iM fun w hp=>?_
 have hp:=r3 hp
 have hE:=hE.cut (E':=[(35,(.bool x5))]) ⟨rfl,trivial⟩
 refine dE hE rfl (fun hc1=>?_) (fun hc1=>?_)
 ·replace hm:=(it hc1).symm.trans hm
  refine aG (aA ?_)
  refine S hE 1 rfl fun a hE=>aB (bZ ?_)
  obtain rfl:=oj hm
  exact gJ hE rfl rfl ⟨_,rfl,rfl,hp⟩
 replace hm:=(ie hc1).symm.trans hm
 refine aZ (aG ?_)
 refine aA (S hE 1 rfl fun a hE=>?_)
 refine aB (bZ ?_)
 obtain rfl:=oj hm
 exact gJ hE rfl rfl ⟨_,rfl,rfl,hp⟩
theorem Y8 {Z:World} {ρ:PH} {L:List bK} {w:World} (bp0:Nat) (p0:Alg) (cZ:Value) (lI:aH ρ cZ p0.a.nodes) (dA:Value) (lZ:aH ρ dA p0.a.sizes) (bU:Value) (kL:aH ρ bU p0.a.parent) (dB:Value) (lJ:aH ρ dB p0.b.nodes) (dC:Value) (mD:aH ρ dC p0.b.sizes) (bV:Value) (kM:aH ρ bV p0.b.parent) (dI:Value) (jY:aH ρ dI p0.orderA) (dO:Value) (kN:aH ρ dO p0.leftA) (dJ:Value) (jZ:aH ρ dJ p0.orderB) (dP:Value) (kP:aH ρ dP p0.leftB) (bM:Value) (iW:aH ρ bM p0.distances) (dG:Value) (eP:Value) (p1:Int) (p2:Int) (hp:Hp Z ρ (Pt bp0 (.cells #[cZ,dA,bU,dB,dC,bV,dI,dO,dJ,dP,bM,dG,eP] 88 (0,0))::aC 3 dG p0.partner::aC 3 eP p0.back::L) w) (r:(List (List Int))) (hm:tC p0 p1 p2=some r):
  Calls Tryz.prog 71 #[(Pv bp0 0),(Iv p1),(Iv p2)] w (Ret fun v w'=>∃(vr1:Value) (usr1:List Sl),v=vr1∧Hp Z ρ (cO 73 3 vr1 usr1 (r:(List (List Int)))::Pt bp0 (.cells #[cZ,dA,bU,dB,dC,bV,dI,dO,dJ,dP,bM,dG,eP] 88 (0,0))::aC 3 dG p0.partner::aC 3 eP p0.back::L) w'):=by
 refine enter (N:=226) Tryz.func71 rfl rfl [(0,(Pv bp0 0)),(1,(Iv p1)),(2,(Iv p2))] rfl (bC ⟨rfl,rfl,rfl,trivial⟩) fun a hE=>?_
 unfold tC at hm
 refine aG (aA ?_)
 refine S hE 1 rfl fun a hE=>aB (aG ?_)
 refine jR (by kernel_rfl) (by kernel_rfl) hp ?_
 refine Sq hE 2 rfl fun a hE=>Vq hE rfl (xf hE zN rfl rfl) fun a hE=>Vq hE rfl (xl hE aY 0 rfl rfl rfl rfl) fun a hE=>Sq hE 1 rfl fun a hE=>?_
 obtain⟨x1,ex1,hm⟩:=bnd hm
 obtain⟨b1,b1o,b1c,b1r,b1k,b1f⟩:=aH.at kN bI ex1
 obtain rfl:b1c=Enc.enc x1:=b1k
 have b1f:AtP ρ b1 b1o [(Iv x1)]:=b1f
 refine Vq hE rfl (aN rfl hE rfl rfl b1r) fun a hE=>Vq hE rfl (aK rfl hE rfl (fun w hw=>aV aT (b1f.c 0 rfl w hw))) fun a hE=>Sq hE 2 rfl fun a hE=>Vq hE rfl (xf hE zO rfl rfl) fun a hE=>Vq hE rfl (xl hE aY 0 rfl rfl rfl rfl) fun a hE=>Sq hE 1 rfl fun a hE=>?_
 obtain⟨x2,ex2,hm⟩:=bnd hm
 obtain⟨b2,b2o,b2c,b2r,b2k,b2f⟩:=aH.at kP bI ex2
 obtain rfl:b2c=Enc.enc x2:=b2k
 have b2f:AtP ρ b2 b2o [(Iv x2)]:=b2f
 refine Vq hE rfl (aN rfl hE rfl rfl b2r) fun a hE=>Vq hE rfl (aK rfl hE rfl (fun w hw=>aV aT (b2f.c 0 rfl w hw))) fun a hE=>Sq hE 2 rfl fun a hE=>?_
 refine iM fun w hp=>?_
 have hp:=r3 hp
 refine aG (aA ?_)
 refine S hE 2 rfl fun a hE=>?_
 obtain⟨x3,ex3,hm⟩:=bnd hm
 refine V hE hp rfl (dQ rfl hE rfl rfl (aO ex3)) fun a hE=>?_
 obtain⟨x4,ex4,hm⟩:=bnd hm
 refine V hE hp rfl (bF rfl hE rfl rfl (aO ex4)) fun a hE=>?_
 obtain⟨x5,ex5,hm⟩:=bnd hm
 refine s_tmake (wk0 rfl) rfl rfl hE hp rfl (T:=73) (bytes:=24) (by kernel_rfl) (by kernel_rfl) rfl rfl rfl ex5 3 ?_
 intro v1 us1 a w hE hp
 have hp:=r4 hp
 refine S hE 1 rfl fun a hE=>aB (aG ?_)
 refine aG (aA ?_)
 refine S hE 1 rfl fun a hE=>V hE hp rfl (bT rfl hE rfl (cO.len hp 0 rfl jD)) fun a hE=>S hE 1 rfl fun a hE=>aB ?_
 have hE:=hE.cut (E':=[(0,(Pv bp0 0)),(2,(Iv p2)),(7,(Iv x1)),(8,(Iv x2)),(9,v1),(32,(Iv (x5.length:Int))),(33,(Iv 0))]) ⟨rfl,rfl,rfl,rfl,rfl,rfl,rfl,trivial⟩
 obtain⟨b3,hc1,hm⟩:=bnd hm
 refine dH (fun a w=>∃(w5:Value) (us5:List Sl),Env 226 [(9,w5)] a∧Hp Z ρ (cO 73 3 w5 us5 (b3:(List (List Int)))::Pt bp0 (.cells #[cZ,dA,bU,dB,dC,bV,dI,dO,dJ,dP,bM,dG,eP] 88 (0,0))::aC 3 dG p0.partner::aC 3 eP p0.back::L) w) ?_ ?_
 ·refine dZ hc1 (fun s a w=>∃(w5:Value) (us5:List Sl),Env 226 [(0,(Pv bp0 0)),(2,(Iv p2)),(7,(Iv x1)),(8,(Iv x2)),(9,w5),(32,(Iv (x5.length:Int))),(33,(Iv s.1))] a∧Hp Z ρ (cO 73 3 w5 us5 (s.2:(List (List Int)))::Pt bp0 (.cells #[cZ,dA,bU,dB,dC,bV,dI,dO,dJ,dP,bM,dG,eP] 88 (0,0))::aC 3 dG p0.partner::aC 3 eP p0.back::L) w) ?_ ?_
  ·exact⟨_,_,hE.cut ⟨rfl,rfl,rfl,rfl,rfl,rfl,rfl,trivial⟩,hp⟩
  rintro⟨aP,aU⟩ st a w ⟨w5,us5,hE,hp⟩ hl1
  dsimp only at hE hp hl1
  unfold vN at hl1
  refine aG (aA ?_)
  refine S hE 1 rfl fun a hE=>aB (aG ?_)
  refine dE hE rfl (fun hc2=>?_) (fun hc2=>?_)
  ·replace hl1:=(it hc2).symm.trans hl1
   refine aZ (aG ?_)
   refine dM (aG ?_)
   refine aA (S hE 2 rfl fun a hE=>?_)
   refine aB (aG ?_)
   refine aA (S hE 4 rfl fun a hE=>?_)
   obtain⟨x6,ex6,hl1⟩:=bnd hl1
   refine V hE hp rfl (dQ rfl hE rfl rfl (aO ex6)) fun a hE=>?_
   obtain⟨x7,ex7,hl1⟩:=bnd hl1
   refine V hE hp rfl (bF rfl hE rfl rfl (aO ex7)) fun a hE=>?_
   obtain⟨x8,ex8,hl1⟩:=bnd hl1
   refine aF4 (wk0 rfl) rfl rfl hE hp rfl (El:=3) (bytes:=8) (by kernel_rfl) (0:Int) (by kernel_rfl) (by kernel_rfl) rfl rfl ex8 ?_
   intro v2 a w hE hp
   have hp:=r5 hp
   obtain⟨x9,ex9,hl1⟩:=bnd hl1
   obtain⟨b4u,b4,b4o,b4h,b4r,b4v,b4f⟩:=cO.hdr hp 1 rfl jD ex9
   refine V hE hp rfl (aN rfl hE rfl rfl b4r) fun a hE=>?_
   obtain⟨sl1,sl1e⟩:=aC.toSl hp 0 rfl
   refine s_tput (wk0 rfl) rfl hE sl1e (hp.get 0 rfl) rfl rfl rfl 0 rfl b4h ex9 b4v aY.size_ ?_
   intro w hp
   have hp:=r4 hp
   refine aB ?_
   have hE:=hE.cut (E':=[(0,(Pv bp0 0)),(2,(Iv p2)),(7,(Iv x1)),(8,(Iv x2)),(9,w5),(10,(Iv aP)),(32,(Iv (x5.length:Int))),(33,(Iv aP))]) ⟨rfl,rfl,rfl,rfl,rfl,rfl,rfl,rfl,trivial⟩
   refine aG (aA ?_)
   refine S hE 2 rfl fun a hE=>?_
   obtain⟨x10,ex10,hl1⟩:=bnd hl1
   obtain⟨b5u,b5,b5o,b5h,b5r,b5v,b5f⟩:=cO.hdr hp 0 rfl jD ex10
   refine V hE hp rfl (aN rfl hE rfl rfl b5r) fun a hE=>V hE hp rfl (aK rfl hE rfl (fun w hw=>aV aY (b5f 0 _ rfl _ _ w (hw.get 0 rfl)))) fun a hE=>V hE hp rfl (bT rfl hE rfl (cO.rlen hp 0 rfl bI b5h ex10)) fun a hE=>S hE 1 rfl fun a hE=>aB ?_
   obtain⟨b6,hc3,hl1⟩:=bnd hl1
   refine dH (fun a w=>Env 226 [(0,(Pv bp0 0)),(2,(Iv p2)),(7,(Iv x1)),(8,(Iv x2)),(9,w5),(32,(Iv (x5.length:Int))),(33,(Iv aP))] a∧Hp Z ρ (cO 73 3 w5 (us5.set aP.toNat sl1) (b6:(List (List Int)))::Pt bp0 (.cells #[cZ,dA,bU,dB,dC,bV,dI,dO,dJ,dP,bM,dG,eP] 88 (0,0))::aC 3 dG p0.partner::aC 3 eP p0.back::L) w) ?_ ?_
   ·refine dZ hc3 (fun s a w=>Env 226 [(0,(Pv bp0 0)),(2,(Iv p2)),(7,(Iv x1)),(8,(Iv x2)),(9,w5),(10,(Iv aP)),(32,(Iv (x5.length:Int))),(33,(Iv aP)),(48,(Iv (x10.length:Int))),(49,(Iv s.1))] a∧Hp Z ρ (cO 73 3 w5 (us5.set aP.toNat sl1) (s.2:(List (List Int)))::Pt bp0 (.cells #[cZ,dA,bU,dB,dC,bV,dI,dO,dJ,dP,bM,dG,eP] 88 (0,0))::aC 3 dG p0.partner::aC 3 eP p0.back::L) w) ?_ ?_
    ·exact⟨hE.cut ⟨rfl,rfl,rfl,rfl,rfl,rfl,rfl,rfl,rfl,rfl,trivial⟩,hp⟩
    rintro⟨bJ,dY⟩ st a w ⟨hE,hp⟩ hl2
    dsimp only at hE hp hl2
    unfold vO at hl2
    refine aG (aA ?_)
    refine S hE 1 rfl fun a hE=>aB (aG ?_)
    refine dE hE rfl (fun hc4=>?_) (fun hc4=>?_)
    ·replace hl2:=(it hc4).symm.trans hl2
     refine aZ (aG ?_)
     refine dM (aG ?_)
     refine aA (S hE 2 rfl fun a hE=>?_)
     refine aB (dM ?_)
     refine aG (aA ?_)
     refine S hE 3 rfl fun a hE=>?_
     refine iL [_,_,_] (fun a w=>Env 226 [(141,(.bool ((decide (aP=0))||(decide (bJ=0))))),(0,(Pv bp0 0)),(2,(Iv p2)),(7,(Iv x1)),(8,(Iv x2)),(9,w5),(10,(Iv aP)),(11,(Iv bJ)),(32,(Iv (x5.length:Int))),(33,(Iv aP)),(48,(Iv (x10.length:Int))),(49,(Iv bJ))] a∧Hp Z ρ (cO 73 3 w5 (us5.set aP.toNat sl1) (dY:(List (List Int)))::Pt bp0 (.cells #[cZ,dA,bU,dB,dC,bV,dI,dO,dJ,dP,bM,dG,eP] 88 (0,0))::aC 3 dG p0.partner::aC 3 eP p0.back::L) w) ?_ ?_
     ·rcases Bool.eq_false_or_eq_true (decide (aP=0)) with hc5|hc5
      ·
       refine Gk hE hc5 rfl fun a hE=>Gk hE hc5 rfl fun a hE=>pk1 hE hc5 rfl rfl rfl rfl fun a hE=>?_
       have hE:=hE.eqv (v':=(.bool ((decide (aP=0))||(decide (bJ=0))))) (by rw[hc5];rfl)
       exact aB ⟨hE.cut ⟨rfl,rfl,rfl,rfl,rfl,rfl,rfl,rfl,rfl,rfl,rfl,rfl,trivial⟩,hp⟩
      refine Gs hE hc5 rfl rfl fun a hE=>Gs hE hc5 rfl rfl fun a hE=>pk0 hE hc5 rfl rfl rfl rfl fun a hE=>?_
      have hE:=hE.eqv (v':=(.bool ((decide (aP=0))||(decide (bJ=0))))) (by rw[hc5];rfl)
      exact aB ⟨hE.cut ⟨rfl,rfl,rfl,rfl,rfl,rfl,rfl,rfl,rfl,rfl,rfl,rfl,trivial⟩,hp⟩
     rintro a w ⟨hE,hp⟩
     refine S hE 1 rfl fun a hE=>aB ?_
     refine dE hE rfl (fun hc6=>?_) (fun hc6=>?_)
     ·replace hl2:=(it hc6).symm.trans hl2
      refine aA (S hE 2 rfl fun a hE=>?_)
      obtain⟨x11,ex11,hl2⟩:=bnd hl2
      obtain⟨b7u,b7,b7o,b7h,b7r,b7v,b7f⟩:=cO.hdr hp 0 rfl jD ex11
      refine V hE hp rfl (aN rfl hE rfl rfl b7r) fun a hE=>V hE hp rfl (aK rfl hE rfl (fun w hw=>aV aY (b7f 0 _ rfl _ _ w (hw.get 0 rfl)))) fun a hE=>S hE 3 rfl fun a hE=>?_
      obtain⟨x12,ex12,hl2⟩:=bnd hl2
      refine V hE hp rfl (bF rfl hE rfl rfl (aO ex12)) fun a hE=>?_
      obtain⟨x13,ex13,hl2⟩:=bnd hl2
      obtain⟨b8,b8o,b8r,b8v,b8f⟩:=cO.at hp 0 rfl bI b7h ex11 ex13
      refine V hE hp rfl (aN rfl hE rfl rfl b8r) fun a hE=>?_
      refine J5 (wk0 rfl) rfl hE hp rfl rfl rfl 0 rfl b7h ex11 ex13 b8v 0 (e':=x12) aT.size_ rfl rfl rfl ⟨rfl,rfl⟩ ?_
      intro w hp
      have hp:=r4 hp
      refine aB (aA ?_)
      obtain⟨x14,ex14,hl2⟩:=bnd hl2
      refine V hE hp rfl (bF rfl hE rfl rfl (aO ex14)) fun a hE=>S hE 1 rfl fun a hE=>aB ?_
      exact⟨_,(oj hl2).symm,hE.cut ⟨rfl,rfl,rfl,rfl,rfl,rfl,rfl,rfl,rfl,rfl,trivial⟩,hp⟩
     replace hl2:=(ie hc6).symm.trans hl2
     refine aG (aA ?_)
     refine S hE 2 rfl fun a hE=>V hE hp rfl (xf hE zN rfl rfl) fun a hE=>V hE hp rfl (xl hE aY 1 rfl rfl rfl rfl) fun a hE=>S hE 2 rfl fun a hE=>?_
     obtain⟨x15,ex15,hl2⟩:=bnd hl2
     refine V hE hp rfl (bF rfl hE rfl rfl (aO ex15)) fun a hE=>?_
     obtain⟨x16,ex16,hl2⟩:=bnd hl2
     refine V hE hp rfl (dQ rfl hE rfl rfl (aO ex16)) fun a hE=>?_
     obtain⟨x17,ex17,hl2⟩:=bnd hl2
     obtain⟨b9,b9o,b9c,b9r,b9k,b9f⟩:=aH.at kN bI ex17
     obtain rfl:b9c=Enc.enc x17:=b9k
     have b9f:AtP ρ b9 b9o [(Iv x17)]:=b9f
     refine V hE hp rfl (aN rfl hE rfl rfl b9r) fun a hE=>V hE hp rfl (aK rfl hE rfl (fun w hw=>aV aT (b9f.c 0 rfl w hw))) fun a hE=>S hE 3 rfl fun a hE=>?_
     obtain⟨m1,hg1,hl2⟩:=bnd hl2
     refine iL [_,_,_,_,_,_,_,_,_,_,_,_,_] (fun a w=>Env 226 [(177,(.bool m1)),(0,(Pv bp0 0)),(2,(Iv p2)),(7,(Iv x1)),(8,(Iv x2)),(9,w5),(10,(Iv aP)),(11,(Iv bJ)),(32,(Iv (x5.length:Int))),(33,(Iv aP)),(48,(Iv (x10.length:Int))),(49,(Iv bJ))] a∧Hp Z ρ (cO 73 3 w5 (us5.set aP.toNat sl1) (dY:(List (List Int)))::Pt bp0 (.cells #[cZ,dA,bU,dB,dC,bV,dI,dO,dJ,dP,bM,dG,eP] 88 (0,0))::aC 3 dG p0.partner::aC 3 eP p0.back::L) w) ?_ ?_
     ·rcases Bool.eq_false_or_eq_true (decide (x17=x1)) with hc7|hc7
      ·
       replace hg1:=(it hc7).symm.trans hg1
       refine Gs hE hc7 rfl rfl fun a hE=>Gs hE hc7 rfl rfl fun a hE=>G hE hp hc7 rfl (xf hE zO rfl rfl) fun a hE=>G hE hp hc7 rfl (xl hE aY 1 rfl rfl rfl rfl) fun a hE=>Gs hE hc7 rfl rfl fun a hE=>Gs hE hc7 rfl rfl fun a hE=>?_
       obtain⟨x18,ex18,hg1⟩:=bnd hg1
       refine G hE hp hc7 rfl (bF rfl hE rfl rfl (aO ex18)) fun a hE=>?_
       obtain⟨x19,ex19,hg1⟩:=bnd hg1
       refine G hE hp hc7 rfl (dQ rfl hE rfl rfl (aO ex19)) fun a hE=>?_
       obtain⟨x20,ex20,hg1⟩:=bnd hg1
       obtain⟨b10,b10o,b10c,b10r,b10k,b10f⟩:=aH.at kP bI ex20
       obtain rfl:b10c=Enc.enc x20:=b10k
       have b10f:AtP ρ b10 b10o [(Iv x20)]:=b10f
       refine G hE hp hc7 rfl (aN rfl hE rfl rfl b10r) fun a hE=>G hE hp hc7 rfl (aK rfl hE rfl (fun w hw=>aV aT (b10f.c 0 rfl w hw))) fun a hE=>Gs hE hc7 rfl rfl fun a hE=>Gs hE hc7 rfl rfl fun a hE=>pk1 hE hc7 rfl rfl rfl rfl fun a hE=>?_
       obtain rfl:=oj hg1
       exact aB ⟨hE.cut ⟨rfl,rfl,rfl,rfl,rfl,rfl,rfl,rfl,rfl,rfl,rfl,rfl,trivial⟩,hp⟩
      replace hg1:=(ie hc7).symm.trans hg1
      refine Gk hE hc7 rfl fun a hE=>Gk hE hc7 rfl fun a hE=>Gk hE hc7 rfl fun a hE=>Gk hE hc7 rfl fun a hE=>Gk hE hc7 rfl fun a hE=>Gk hE hc7 rfl fun a hE=>Gk hE hc7 rfl fun a hE=>Gk hE hc7 rfl fun a hE=>Gk hE hc7 rfl fun a hE=>Gk hE hc7 rfl fun a hE=>Gk hE hc7 rfl fun a hE=>Gk hE hc7 rfl fun a hE=>pk0 hE hc7 rfl rfl rfl rfl fun a hE=>?_
      obtain rfl:=oj hg1
      exact aB ⟨hE.cut ⟨rfl,rfl,rfl,rfl,rfl,rfl,rfl,rfl,rfl,rfl,rfl,rfl,trivial⟩,hp⟩
     rintro a w ⟨hE,hp⟩
     refine S hE 1 rfl fun a hE=>aB ?_
     refine dE hE rfl (fun hc8=>?_) (fun hc8=>?_)
     ·replace hl2:=(it hc8).symm.trans hl2
      obtain⟨x21,ex21,hl2⟩:=bnd hl2
      obtain⟨x22,ex22,hl2⟩:=bnd hl2
      obtain⟨x23,ex23,hl2⟩:=bnd hl2
      obtain⟨x24,ex24,hl2⟩:=bnd hl2
      obtain⟨x25,ex25,hl2⟩:=bnd hl2
      obtain⟨x26,ex26,hl2⟩:=bnd hl2
      obtain⟨x27,ex27,hl2⟩:=bnd hl2
      obtain⟨x28,ex28,hl2⟩:=bnd hl2
      obtain⟨x29,ex29,hl2⟩:=bnd hl2
      obtain⟨x30,ex30,hl2⟩:=bnd hl2
      obtain⟨x31,ex31,hl2⟩:=bnd hl2
      obtain⟨x32,ex32,hl2⟩:=bnd hl2
      obtain⟨x33,ex33,hl2⟩:=bnd hl2
      obtain⟨x34,ex34,hl2⟩:=bnd hl2
      obtain⟨x35,ex35,hl2⟩:=bnd hl2
      obtain⟨x36,ex36,hl2⟩:=bnd hl2
      obtain⟨x37,ex37,hl2⟩:=bnd hl2
      obtain⟨x38,ex38,hl2⟩:=bnd hl2
      obtain⟨x39,ex39,hl2⟩:=bnd hl2
      obtain⟨x40,ex40,hl2⟩:=bnd hl2
      have hp:=hp.drew
      refine fG ([([],At0 Z ρ),([45],At1 Z ρ (cO 73 3 w5 (us5.set aP.toNat sl1) (dY:(List (List Int)))))]:Facts) (fun a w=>Env 226 [(0,(Pv bp0 0)),(2,(Iv p2)),(7,(Iv x1)),(8,(Iv x2)),(9,w5),(10,(Iv aP)),(32,(Iv (x5.length:Int))),(33,(Iv aP)),(48,(Iv (x10.length:Int))),(49,(Iv bJ))] a∧Hp Z ρ (Pt bp0 (.cells #[cZ,dA,bU,dB,dC,bV,dI,dO,dJ,dP,bM,dG,eP] 88 (0,0))::aC 3 dG p0.partner::aC 3 eP p0.back::cO 73 3 w5 (us5.set aP.toNat sl1) (dY.set aP.toNat (x21.set bJ.toNat (min (min x25 x29) x39)):(List (List Int)))::L) w) (by kernel_rfl) ⟨fun _=>⟨_,hp⟩,fun _=>⟨_,(hp.get 0 rfl)⟩,trivial⟩ (fun hS=>?_) ?_
      ·
       generalize w.drew=w at hS hp⊢
       refine Ts [0,1] hE hS rfl rfl (by kernel_rfl) fun a hE hS=>?_
       obtain⟨b19u,b19,b19o,b19h,b19r,b19v,b19f⟩:=cO.hdr hp 0 rfl jD ex21
       refine T0 2 hE hS rfl rfl rfl (by kernel_rfl) (fun _=>aN rfl hE rfl rfl b19r) fun a hE hS=>T 3 1 hE hS rfl rfl rfl (by kernel_rfl) (fun _=>aK rfl hE rfl (fun w hw=>aV aY (b19f 0 _ rfl _ _ w (hw.get 0 rfl)))) fun a hE hS=>Ts [4,5,6] hE hS rfl rfl (by kernel_rfl) fun a hE hS=>T0 7 hE hS rfl rfl rfl (by kernel_rfl) (fun _=>dQ rfl hE rfl rfl (aO ex22)) fun a hE hS=>?_
       obtain⟨b20u,b20,b20o,b20h,b20r,b20v,b20f⟩:=cO.hdr hp 0 rfl jD ex23
       refine T0 8 hE hS rfl rfl rfl (by kernel_rfl) (fun _=>aN rfl hE rfl rfl b20r) fun a hE hS=>T 9 1 hE hS rfl rfl rfl (by kernel_rfl) (fun _=>aK rfl hE rfl (fun w hw=>aV aY (b20f 0 _ rfl _ _ w (hw.get 0 rfl)))) fun a hE hS=>Ts [10] hE hS rfl rfl (by kernel_rfl) fun a hE hS=>?_
       obtain⟨b21,b21o,b21r,b21v,b21f⟩:=cO.at hp 0 rfl bI b20h ex23 ex24
       refine T0 11 hE hS rfl rfl rfl (by kernel_rfl) (fun _=>aN rfl hE rfl rfl b21r) fun a hE hS=>T 12 1 hE hS rfl rfl rfl (by kernel_rfl) (fun _=>aK rfl hE rfl (fun w hw=>aV aT (b21f 0 _ rfl _ _ w (hw.get 0 rfl)))) fun a hE hS=>T0 13 hE hS rfl rfl rfl (by kernel_rfl) (fun _=>bF rfl hE rfl rfl (aO ex25)) fun a hE hS=>Ts [14,15] hE hS rfl rfl (by kernel_rfl) fun a hE hS=>?_
       obtain⟨b22u,b22,b22o,b22h,b22r,b22v,b22f⟩:=cO.hdr hp 0 rfl jD ex26
       refine T0 16 hE hS rfl rfl rfl (by kernel_rfl) (fun _=>aN rfl hE rfl rfl b22r) fun a hE hS=>T 17 1 hE hS rfl rfl rfl (by kernel_rfl) (fun _=>aK rfl hE rfl (fun w hw=>aV aY (b22f 0 _ rfl _ _ w (hw.get 0 rfl)))) fun a hE hS=>Ts [18] hE hS rfl rfl (by kernel_rfl) fun a hE hS=>T0 19 hE hS rfl rfl rfl (by kernel_rfl) (fun _=>dQ rfl hE rfl rfl (aO ex27)) fun a hE hS=>?_
       obtain⟨b23,b23o,b23r,b23v,b23f⟩:=cO.at hp 0 rfl bI b22h ex26 ex28
       refine T0 20 hE hS rfl rfl rfl (by kernel_rfl) (fun _=>aN rfl hE rfl rfl b23r) fun a hE hS=>T 21 1 hE hS rfl rfl rfl (by kernel_rfl) (fun _=>aK rfl hE rfl (fun w hw=>aV aT (b23f 0 _ rfl _ _ w (hw.get 0 rfl)))) fun a hE hS=>T0 22 hE hS rfl rfl rfl (by kernel_rfl) (fun _=>bF rfl hE rfl rfl (aO ex29)) fun a hE hS=>Ts [23,24] hE hS rfl rfl (by kernel_rfl) fun a hE hS=>T0 25 hE hS rfl rfl rfl (by kernel_rfl) (fun _=>dQ rfl hE rfl rfl (aO ex30)) fun a hE hS=>?_
       obtain⟨b24u,b24,b24o,b24h,b24r,b24v,b24f⟩:=cO.hdr hp 0 rfl jD ex31
       refine T0 26 hE hS rfl rfl rfl (by kernel_rfl) (fun _=>aN rfl hE rfl rfl b24r) fun a hE hS=>T 27 1 hE hS rfl rfl rfl (by kernel_rfl) (fun _=>aK rfl hE rfl (fun w hw=>aV aY (b24f 0 _ rfl _ _ w (hw.get 0 rfl)))) fun a hE hS=>Ts [28] hE hS rfl rfl (by kernel_rfl) fun a hE hS=>T0 29 hE hS rfl rfl rfl (by kernel_rfl) (fun _=>dQ rfl hE rfl rfl (aO ex32)) fun a hE hS=>?_
       obtain⟨b25,b25o,b25r,b25v,b25f⟩:=cO.at hp 0 rfl bI b24h ex31 ex33
       refine T0 30 hE hS rfl rfl rfl (by kernel_rfl) (fun _=>aN rfl hE rfl rfl b25r) fun a hE hS=>T 31 1 hE hS rfl rfl rfl (by kernel_rfl) (fun _=>aK rfl hE rfl (fun w hw=>aV aT (b25f 0 _ rfl _ _ w (hw.get 0 rfl)))) fun a hE hS=>Ts [32,33,34] hE hS rfl rfl (by kernel_rfl) fun a hE hS=>T0 35 hE hS rfl rfl rfl (by kernel_rfl) (fun _=>bF rfl hE rfl rfl (aO ex34)) fun a hE hS=>T0 36 hE hS rfl rfl rfl (by kernel_rfl) (fun _=>dQ rfl hE rfl rfl (aO ex35)) fun a hE hS=>Ts [37,38] hE hS rfl rfl (by kernel_rfl) fun a hE hS=>T0 39 hE hS rfl rfl rfl (by kernel_rfl) (fun _=>bF rfl hE rfl rfl (aO ex36)) fun a hE hS=>T0 40 hE hS rfl rfl rfl (by kernel_rfl) (fun _=>dQ rfl hE rfl rfl (aO ex37)) fun a hE hS=>?_
       refine W1 41 (by kernel_rfl) rfl ?_
       refine Cl hE rfl rfl ent72 (yB bp0 p0 cZ lI dA lZ bU kL dB lJ dC mD bV kM dI jY dO kN dJ jZ dP kP bM iW dG eP x35 x37 (((hp.get 3 rfl).get 3 rfl).get 3 rfl) x38 ex38) ⟨rfl,rfl,rfl,trivial⟩ fun v a w hR hE=>?_
       obtain⟨rfl,hp⟩:=hR
       have hp:=r4 hp
       refine aB (aF ⟨gp0 hp,gp 3 hp rfl,trivial⟩ fun hS=>?_)
       refine T0 42 hE hS rfl rfl rfl (by kernel_rfl) (fun _=>bF rfl hE rfl rfl (aO ex39)) fun a hE hS=>T0 43 hE hS rfl rfl rfl (by kernel_rfl) (v:=(Iv (min (min x25 x29) x39))) (fun _=>ex_min3 rfl hE rfl rfl rfl) fun a hE hS=>?_
       obtain⟨b26,b26o,b26r,b26v,b26f⟩:=cO.at hp 3 rfl bI b19h ex21 ex40
       refine T0 44 hE hS rfl rfl rfl (by kernel_rfl) (fun _=>aN rfl hE rfl rfl b26r) fun a hE hS=>?_
       refine W1 45 (by kernel_rfl) rfl ?_
       refine J5 (wk0 rfl) rfl hE hp rfl rfl rfl 3 rfl b19h ex21 ex40 b26v 0 (e':=min (min x25 x29) x39) aT.size_ rfl rfl rfl ⟨rfl,rfl⟩ ?_
       intro w hp
       have hp:=r4 hp
       refine aB (aF ⟨gp0 hp,dead (by kernel_rfl),trivial⟩ fun hS=>?_)
       exact bP (by kernel_rfl) ⟨hE.cut ⟨rfl,rfl,rfl,rfl,rfl,rfl,rfl,rfl,rfl,rfl,trivial⟩,hp⟩
      rintro a w ⟨hE,hp⟩
      refine aA ?_
      obtain⟨x41,ex41,hl2⟩:=bnd hl2
      refine V hE hp rfl (bF rfl hE rfl rfl (aO ex41)) fun a hE=>S hE 1 rfl fun a hE=>aB ?_
      exact⟨_,(oj hl2).symm,hE.cut ⟨rfl,rfl,rfl,rfl,rfl,rfl,rfl,rfl,rfl,rfl,trivial⟩,((((hp.get 2 rfl).get 2 rfl).get 2 rfl).get 3 rfl)⟩
     replace hl2:=(ie hc8).symm.trans hl2
     obtain⟨x42,ex42,hl2⟩:=bnd hl2
     obtain⟨x43,ex43,hl2⟩:=bnd hl2
     obtain⟨x44,ex44,hl2⟩:=bnd hl2
     obtain⟨x45,ex45,hl2⟩:=bnd hl2
     obtain⟨x46,ex46,hl2⟩:=bnd hl2
     obtain⟨x47,ex47,hl2⟩:=bnd hl2
     obtain⟨x48,ex48,hl2⟩:=bnd hl2
     obtain⟨x49,ex49,hl2⟩:=bnd hl2
     obtain⟨x50,ex50,hl2⟩:=bnd hl2
     obtain⟨x51,ex51,hl2⟩:=bnd hl2
     obtain⟨x52,ex52,hl2⟩:=bnd hl2
     obtain⟨x53,ex53,hl2⟩:=bnd hl2
     obtain⟨x54,ex54,hl2⟩:=bnd hl2
     obtain⟨x55,ex55,hl2⟩:=bnd hl2
     obtain⟨x56,ex56,hl2⟩:=bnd hl2
     obtain⟨x57,ex57,hl2⟩:=bnd hl2
     obtain⟨x58,ex58,hl2⟩:=bnd hl2
     obtain⟨x59,ex59,hl2⟩:=bnd hl2
     obtain⟨x60,ex60,hl2⟩:=bnd hl2
     obtain⟨x61,ex61,hl2⟩:=bnd hl2
     obtain⟨x62,ex62,hl2⟩:=bnd hl2
     obtain⟨x63,ex63,hl2⟩:=bnd hl2
     obtain⟨x64,ex64,hl2⟩:=bnd hl2
     obtain⟨x65,ex65,hl2⟩:=bnd hl2
     obtain⟨x66,ex66,hl2⟩:=bnd hl2
     obtain⟨x67,ex67,hl2⟩:=bnd hl2
     obtain⟨x68,ex68,hl2⟩:=bnd hl2
     obtain⟨x69,ex69,hl2⟩:=bnd hl2
     obtain⟨x70,ex70,hl2⟩:=bnd hl2
     have hp:=hp.drew
     refine fG ([([],At0 Z ρ),([83],At1 Z ρ (cO 73 3 w5 (us5.set aP.toNat sl1) (dY:(List (List Int))))),([],At1 Z ρ (Pt bp0 (.cells #[cZ,dA,bU,dB,dC,bV,dI,dO,dJ,dP,bM,dG,eP] 88 (0,0))))]:Facts) (fun a w=>Env 226 [(0,(Pv bp0 0)),(2,(Iv p2)),(7,(Iv x1)),(8,(Iv x2)),(9,w5),(10,(Iv aP)),(32,(Iv (x5.length:Int))),(33,(Iv aP)),(48,(Iv (x10.length:Int))),(49,(Iv bJ))] a∧Hp Z ρ (cO 73 3 w5 (us5.set aP.toNat sl1) (dY.set aP.toNat (x42.set bJ.toNat (min (min x46 x50) x69)):(List (List Int)))::Pt bp0 (.cells #[cZ,dA,bU,dB,dC,bV,dI,dO,dJ,dP,bM,dG,eP] 88 (0,0))::aC 3 dG p0.partner::aC 3 eP p0.back::L) w) (by kernel_rfl) ⟨fun _=>⟨_,hp⟩,fun _=>⟨_,(hp.get 0 rfl)⟩,fun _=>⟨_,(hp.get 1 rfl)⟩,trivial⟩ (fun hS=>?_) ?_
     ·
      generalize w.drew=w at hS hp⊢
      refine Ts [0,1] hE hS rfl rfl (by kernel_rfl) fun a hE hS=>?_
      obtain⟨b41u,b41,b41o,b41h,b41r,b41v,b41f⟩:=cO.hdr hp 0 rfl jD ex42
      refine T0 2 hE hS rfl rfl rfl (by kernel_rfl) (fun _=>aN rfl hE rfl rfl b41r) fun a hE hS=>T 3 1 hE hS rfl rfl rfl (by kernel_rfl) (fun _=>aK rfl hE rfl (fun w hw=>aV aY (b41f 0 _ rfl _ _ w (hw.get 0 rfl)))) fun a hE hS=>Ts [4,5,6] hE hS rfl rfl (by kernel_rfl) fun a hE hS=>T0 7 hE hS rfl rfl rfl (by kernel_rfl) (fun _=>dQ rfl hE rfl rfl (aO ex43)) fun a hE hS=>?_
      obtain⟨b42u,b42,b42o,b42h,b42r,b42v,b42f⟩:=cO.hdr hp 0 rfl jD ex44
      refine T0 8 hE hS rfl rfl rfl (by kernel_rfl) (fun _=>aN rfl hE rfl rfl b42r) fun a hE hS=>T 9 1 hE hS rfl rfl rfl (by kernel_rfl) (fun _=>aK rfl hE rfl (fun w hw=>aV aY (b42f 0 _ rfl _ _ w (hw.get 0 rfl)))) fun a hE hS=>Ts [10] hE hS rfl rfl (by kernel_rfl) fun a hE hS=>?_
      obtain⟨b43,b43o,b43r,b43v,b43f⟩:=cO.at hp 0 rfl bI b42h ex44 ex45
      refine T0 11 hE hS rfl rfl rfl (by kernel_rfl) (fun _=>aN rfl hE rfl rfl b43r) fun a hE hS=>T 12 1 hE hS rfl rfl rfl (by kernel_rfl) (fun _=>aK rfl hE rfl (fun w hw=>aV aT (b43f 0 _ rfl _ _ w (hw.get 0 rfl)))) fun a hE hS=>T0 13 hE hS rfl rfl rfl (by kernel_rfl) (fun _=>bF rfl hE rfl rfl (aO ex46)) fun a hE hS=>Ts [14,15] hE hS rfl rfl (by kernel_rfl) fun a hE hS=>?_
      obtain⟨b44u,b44,b44o,b44h,b44r,b44v,b44f⟩:=cO.hdr hp 0 rfl jD ex47
      refine T0 16 hE hS rfl rfl rfl (by kernel_rfl) (fun _=>aN rfl hE rfl rfl b44r) fun a hE hS=>T 17 1 hE hS rfl rfl rfl (by kernel_rfl) (fun _=>aK rfl hE rfl (fun w hw=>aV aY (b44f 0 _ rfl _ _ w (hw.get 0 rfl)))) fun a hE hS=>Ts [18] hE hS rfl rfl (by kernel_rfl) fun a hE hS=>T0 19 hE hS rfl rfl rfl (by kernel_rfl) (fun _=>dQ rfl hE rfl rfl (aO ex48)) fun a hE hS=>?_
      obtain⟨b45,b45o,b45r,b45v,b45f⟩:=cO.at hp 0 rfl bI b44h ex47 ex49
      refine T0 20 hE hS rfl rfl rfl (by kernel_rfl) (fun _=>aN rfl hE rfl rfl b45r) fun a hE hS=>T 21 1 hE hS rfl rfl rfl (by kernel_rfl) (fun _=>aK rfl hE rfl (fun w hw=>aV aT (b45f 0 _ rfl _ _ w (hw.get 0 rfl)))) fun a hE hS=>T0 22 hE hS rfl rfl rfl (by kernel_rfl) (fun _=>bF rfl hE rfl rfl (aO ex50)) fun a hE hS=>Ts [23,24,25] hE hS rfl rfl (by kernel_rfl) fun a hE hS=>T0 26 hE hS rfl rfl rfl (by kernel_rfl) (fun _=>xf hE zN rfl rfl) fun a hE hS=>T 27 2 hE hS rfl rfl rfl (by kernel_rfl) (fun _=>xl hE aY 0 rfl rfl rfl rfl) fun a hE hS=>Ts [28,29] hE hS rfl rfl (by kernel_rfl) fun a hE hS=>T0 30 hE hS rfl rfl rfl (by kernel_rfl) (fun _=>bF rfl hE rfl rfl (aO ex51)) fun a hE hS=>T0 31 hE hS rfl rfl rfl (by kernel_rfl) (fun _=>dQ rfl hE rfl rfl (aO ex52)) fun a hE hS=>?_
      obtain⟨b46,b46o,b46c,b46r,b46k,b46f⟩:=aH.at kN bI ex53
      obtain rfl:b46c=Enc.enc x53:=b46k
      have b46f:AtP ρ b46 b46o [(Iv x53)]:=b46f
      refine T0 32 hE hS rfl rfl rfl (by kernel_rfl) (fun _=>aN rfl hE rfl rfl b46r) fun a hE hS=>T0 33 hE hS rfl rfl rfl (by kernel_rfl) (fun _=>aK rfl hE rfl (fun w hw=>aV aT (b46f.c 0 rfl w hw))) fun a hE hS=>Ts [34] hE hS rfl rfl (by kernel_rfl) fun a hE hS=>T0 35 hE hS rfl rfl rfl (by kernel_rfl) (fun _=>dQ rfl hE rfl rfl (aO ex54)) fun a hE hS=>?_
      obtain⟨b47u,b47,b47o,b47h,b47r,b47v,b47f⟩:=cO.hdr hp 0 rfl jD ex55
      refine T0 36 hE hS rfl rfl rfl (by kernel_rfl) (fun _=>aN rfl hE rfl rfl b47r) fun a hE hS=>T 37 1 hE hS rfl rfl rfl (by kernel_rfl) (fun _=>aK rfl hE rfl (fun w hw=>aV aY (b47f 0 _ rfl _ _ w (hw.get 0 rfl)))) fun a hE hS=>Ts [38,39] hE hS rfl rfl (by kernel_rfl) fun a hE hS=>T0 40 hE hS rfl rfl rfl (by kernel_rfl) (fun _=>xf hE zO rfl rfl) fun a hE hS=>T 41 2 hE hS rfl rfl rfl (by kernel_rfl) (fun _=>xl hE aY 0 rfl rfl rfl rfl) fun a hE hS=>Ts [42,43] hE hS rfl rfl (by kernel_rfl) fun a hE hS=>T0 44 hE hS rfl rfl rfl (by kernel_rfl) (fun _=>bF rfl hE rfl rfl (aO ex56)) fun a hE hS=>T0 45 hE hS rfl rfl rfl (by kernel_rfl) (fun _=>dQ rfl hE rfl rfl (aO ex57)) fun a hE hS=>?_
      obtain⟨b48,b48o,b48c,b48r,b48k,b48f⟩:=aH.at kP bI ex58
      obtain rfl:b48c=Enc.enc x58:=b48k
      have b48f:AtP ρ b48 b48o [(Iv x58)]:=b48f
      refine T0 46 hE hS rfl rfl rfl (by kernel_rfl) (fun _=>aN rfl hE rfl rfl b48r) fun a hE hS=>T0 47 hE hS rfl rfl rfl (by kernel_rfl) (fun _=>aK rfl hE rfl (fun w hw=>aV aT (b48f.c 0 rfl w hw))) fun a hE hS=>Ts [48] hE hS rfl rfl (by kernel_rfl) fun a hE hS=>T0 49 hE hS rfl rfl rfl (by kernel_rfl) (fun _=>dQ rfl hE rfl rfl (aO ex59)) fun a hE hS=>?_
      obtain⟨b49,b49o,b49r,b49v,b49f⟩:=cO.at hp 0 rfl bI b47h ex55 ex60
      refine T0 50 hE hS rfl rfl rfl (by kernel_rfl) (fun _=>aN rfl hE rfl rfl b49r) fun a hE hS=>T 51 1 hE hS rfl rfl rfl (by kernel_rfl) (fun _=>aK rfl hE rfl (fun w hw=>aV aT (b49f 0 _ rfl _ _ w (hw.get 0 rfl)))) fun a hE hS=>Ts [52,53] hE hS rfl rfl (by kernel_rfl) fun a hE hS=>T0 54 hE hS rfl rfl rfl (by kernel_rfl) (fun _=>xf hE fldty88_6 rfl rfl) fun a hE hS=>T 55 2 hE hS rfl rfl rfl (by kernel_rfl) (fun _=>xl hE varty83 0 rfl rfl rfl rfl) fun a hE hS=>Ts [56,57] hE hS rfl rfl (by kernel_rfl) fun a hE hS=>T0 58 hE hS rfl rfl rfl (by kernel_rfl) (fun _=>xf hE L8 rfl rfl) fun a hE hS=>T 59 2 hE hS rfl rfl rfl (by kernel_rfl) (fun _=>xl hE aY 0 rfl rfl rfl rfl) fun a hE hS=>Ts [60,61] hE hS rfl rfl (by kernel_rfl) fun a hE hS=>T0 62 hE hS rfl rfl rfl (by kernel_rfl) (fun _=>bF rfl hE rfl rfl (aO ex61)) fun a hE hS=>T0 63 hE hS rfl rfl rfl (by kernel_rfl) (fun _=>dQ rfl hE rfl rfl (aO ex62)) fun a hE hS=>?_
      obtain⟨b50,b50o,b50c,b50r,b50k,b50f⟩:=aH.at jY bI ex63
      obtain rfl:b50c=Enc.enc x63:=b50k
      have b50f:AtP ρ b50 b50o [(Iv x63)]:=b50f
      refine T0 64 hE hS rfl rfl rfl (by kernel_rfl) (fun _=>aN rfl hE rfl rfl b50r) fun a hE hS=>T0 65 hE hS rfl rfl rfl (by kernel_rfl) (fun _=>aK rfl hE rfl (fun w hw=>aV aT (b50f.c 0 rfl w hw))) fun a hE hS=>?_
      obtain⟨b51,b51o,b51c,b51r,b51k,b51f⟩:=aH.at iW jD ex64
      obtain⟨vb51,rfl,hb51⟩:=b51k
      have b51f:AtP ρ b51 b51o [vb51]:=b51f
      refine T0 66 hE hS rfl rfl rfl (by kernel_rfl) (fun _=>aN rfl hE rfl rfl b51r) fun a hE hS=>T0 67 hE hS rfl rfl rfl (by kernel_rfl) (fun _=>aK rfl hE rfl (fun w hw=>aV aY (b51f.c 0 rfl w hw))) fun a hE hS=>Ts [68,69] hE hS rfl rfl (by kernel_rfl) fun a hE hS=>T0 70 hE hS rfl rfl rfl (by kernel_rfl) (fun _=>xf hE L9 rfl rfl) fun a hE hS=>T 71 2 hE hS rfl rfl rfl (by kernel_rfl) (fun _=>xl hE aY 0 rfl rfl rfl rfl) fun a hE hS=>Ts [72,73] hE hS rfl rfl (by kernel_rfl) fun a hE hS=>T0 74 hE hS rfl rfl rfl (by kernel_rfl) (fun _=>bF rfl hE rfl rfl (aO ex65)) fun a hE hS=>T0 75 hE hS rfl rfl rfl (by kernel_rfl) (fun _=>dQ rfl hE rfl rfl (aO ex66)) fun a hE hS=>?_
      obtain⟨b52,b52o,b52c,b52r,b52k,b52f⟩:=aH.at jZ bI ex67
      obtain rfl:b52c=Enc.enc x67:=b52k
      have b52f:AtP ρ b52 b52o [(Iv x67)]:=b52f
      refine T0 76 hE hS rfl rfl rfl (by kernel_rfl) (fun _=>aN rfl hE rfl rfl b52r) fun a hE hS=>T0 77 hE hS rfl rfl rfl (by kernel_rfl) (fun _=>aK rfl hE rfl (fun w hw=>aV aT (b52f.c 0 rfl w hw))) fun a hE hS=>?_
      obtain⟨b53,b53o,b53c,b53r,b53k,b53f⟩:=aH.at hb51 bI ex68
      obtain rfl:b53c=Enc.enc x68:=b53k
      have b53f:AtP ρ b53 b53o [(Iv x68)]:=b53f
      refine T0 78 hE hS rfl rfl rfl (by kernel_rfl) (fun _=>aN rfl hE rfl rfl b53r) fun a hE hS=>T0 79 hE hS rfl rfl rfl (by kernel_rfl) (fun _=>aK rfl hE rfl (fun w hw=>aV aT (b53f.c 0 rfl w hw))) fun a hE hS=>T0 80 hE hS rfl rfl rfl (by kernel_rfl) (fun _=>bF rfl hE rfl rfl (aO ex69)) fun a hE hS=>T0 81 hE hS rfl rfl rfl (by kernel_rfl) (v:=(Iv (min (min x46 x50) x69))) (fun _=>ex_min3 rfl hE rfl rfl rfl) fun a hE hS=>?_
      obtain⟨b54,b54o,b54r,b54v,b54f⟩:=cO.at hp 0 rfl bI b41h ex42 ex70
      refine T0 82 hE hS rfl rfl rfl (by kernel_rfl) (fun _=>aN rfl hE rfl rfl b54r) fun a hE hS=>?_
      refine W1 83 (by kernel_rfl) rfl ?_
      refine J5 (wk0 rfl) rfl hE hp rfl rfl rfl 0 rfl b41h ex42 ex70 b54v 0 (e':=min (min x46 x50) x69) aT.size_ rfl rfl rfl ⟨rfl,rfl⟩ ?_
      intro w hp
      have hp:=r4 hp
      refine aB (aF ⟨gp0 hp,dead (by kernel_rfl),gp 1 hp rfl,trivial⟩ fun hS=>?_)
      exact bP (by kernel_rfl) ⟨hE.cut ⟨rfl,rfl,rfl,rfl,rfl,rfl,rfl,rfl,rfl,rfl,trivial⟩,hp⟩
     rintro a w ⟨hE,hp⟩
     refine aA ?_
     obtain⟨x71,ex71,hl2⟩:=bnd hl2
     refine V hE hp rfl (bF rfl hE rfl rfl (aO ex71)) fun a hE=>S hE 1 rfl fun a hE=>aB ?_
     exact⟨_,(oj hl2).symm,hE.cut ⟨rfl,rfl,rfl,rfl,rfl,rfl,rfl,rfl,rfl,rfl,trivial⟩,hp⟩
    replace hl2:=(ie hc4).symm.trans hl2
    refine dS ?_
    refine⟨_,(oj hl2).symm,fun hbb=>?_⟩
    subst hbb
    exact⟨hE.cut ⟨rfl,rfl,rfl,rfl,rfl,rfl,rfl,trivial⟩,hp⟩
   rintro a w ⟨hE,hp⟩
   refine aA ?_
   obtain⟨x72,ex72,hl1⟩:=bnd hl1
   refine V hE hp rfl (bF rfl hE rfl rfl (aO ex72)) fun a hE=>S hE 1 rfl fun a hE=>aB ?_
   exact⟨_,(oj hl1).symm,_,_,hE.cut ⟨rfl,rfl,rfl,rfl,rfl,rfl,rfl,trivial⟩,hp⟩
  replace hl1:=(ie hc2).symm.trans hl1
  refine dS ?_
  refine⟨_,(oj hl1).symm,fun hbb=>?_⟩
  subst hbb
  exact⟨_,_,hE.cut ⟨rfl,trivial⟩,hp⟩
 rintro a w ⟨w5,us5,hE,hp⟩
 refine aG (aA ?_)
 refine S hE 2 rfl fun a hE=>aB (bZ ?_)
 obtain rfl:=oj hm
 exact gJ hE rfl rfl ⟨_,rfl,_,_,rfl,hp⟩
theorem X0 (self:Alg→Int→Int→Option Alg) (hself:∀{Z:World} {ρ:PH} {L:List bK} {w:World} (bp0:Nat) (p0:Alg) (cZ:Value) (lI:aH ρ cZ p0.a.nodes) (dA:Value) (lZ:aH ρ dA p0.a.sizes) (bU:Value) (kL:aH ρ bU p0.a.parent) (dB:Value) (lJ:aH ρ dB p0.b.nodes) (dC:Value) (mD:aH ρ dC p0.b.sizes) (bV:Value) (kM:aH ρ bV p0.b.parent) (dI:Value) (jY:aH ρ dI p0.orderA) (dO:Value) (kN:aH ρ dO p0.leftA) (dJ:Value) (jZ:aH ρ dJ p0.orderB) (dP:Value) (kP:aH ρ dP p0.leftB) (bM:Value) (iW:aH ρ bM p0.distances) (dG:Value) (eP:Value) (p1:Int) (p2:Int) (hp:Hp Z ρ (Pt bp0 (.cells #[cZ,dA,bU,dB,dC,bV,dI,dO,dJ,dP,bM,dG,eP] 88 (0,0))::aC 3 dG p0.partner::aC 3 eP p0.back::L) w) (r:Alg) (hm:self p0 p1 p2=some r),Calls Tryz.prog 51 #[(Pv bp0 0),(Iv p1),(Iv p2)] w (Ret fun v w'=>∃(nJ:Value) (tX:Value),v= .tuple #[]∧Hp Z ρ (Pt bp0 (.cells #[cZ,dA,bU,dB,dC,bV,dI,dO,dJ,dP,bM,nJ,tX] 88 (0,0))::aC 3 nJ r.partner::aC 3 tX r.back::L) w')) {Z:World} {ρ:PH} {L:List bK} {w:World} (bp0:Nat) (p0:Alg) (cZ:Value) (lI:aH ρ cZ p0.a.nodes) (dA:Value) (lZ:aH ρ dA p0.a.sizes) (bU:Value) (kL:aH ρ bU p0.a.parent) (dB:Value) (lJ:aH ρ dB p0.b.nodes) (dC:Value) (mD:aH ρ dC p0.b.sizes) (bV:Value) (kM:aH ρ bV p0.b.parent) (dI:Value) (jY:aH ρ dI p0.orderA) (dO:Value) (kN:aH ρ dO p0.leftA) (dJ:Value) (jZ:aH ρ dJ p0.orderB) (dP:Value) (kP:aH ρ dP p0.leftB) (bM:Value) (iW:aH ρ bM p0.distances) (dG:Value) (eP:Value) (p1:Int) (p2:Int) (hp:Hp Z ρ (Pt bp0 (.cells #[cZ,dA,bU,dB,dC,bV,dI,dO,dJ,dP,bM,dG,eP] 88 (0,0))::aC 3 dG p0.partner::aC 3 eP p0.back::L) w) (r:Alg) (hm:rE self p0 p1 p2=some r):
  Calls Tryz.prog 51 #[(Pv bp0 0),(Iv p1),(Iv p2)] w (Ret fun v w'=>∃(nJ:Value) (tX:Value),v= .tuple #[]∧Hp Z ρ (Pt bp0 (.cells #[cZ,dA,bU,dB,dC,bV,dI,dO,dJ,dP,bM,nJ,tX] 88 (0,0))::aC 3 nJ r.partner::aC 3 tX r.back::L) w'):=by
 refine enter (N:=204) Tryz.func51 rfl rfl [(0,(Pv bp0 0)),(1,(Iv p1)),(2,(Iv p2))] rfl (bC ⟨rfl,rfl,rfl,trivial⟩) fun a hE=>?_
 unfold rE at hm
 refine aG ?_
 refine jR (by kernel_rfl) (by kernel_rfl) hp ?_
 refine Sq hE 2 rfl fun a hE=>Vq hE rfl (xf hE zN rfl rfl) fun a hE=>Vq hE rfl (xl hE aY 0 rfl rfl rfl rfl) fun a hE=>Sq hE 1 rfl fun a hE=>?_
 obtain⟨x1,ex1,hm⟩:=bnd hm
 obtain⟨b1,b1o,b1c,b1r,b1k,b1f⟩:=aH.at kN bI ex1
 obtain rfl:b1c=Enc.enc x1:=b1k
 have b1f:AtP ρ b1 b1o [(Iv x1)]:=b1f
 refine Vq hE rfl (aN rfl hE rfl rfl b1r) fun a hE=>Vq hE rfl (aK rfl hE rfl (fun w hw=>aV aT (b1f.c 0 rfl w hw))) fun a hE=>Sq hE 2 rfl fun a hE=>Vq hE rfl (xf hE zO rfl rfl) fun a hE=>Vq hE rfl (xl hE aY 0 rfl rfl rfl rfl) fun a hE=>Sq hE 1 rfl fun a hE=>?_
 obtain⟨x2,ex2,hm⟩:=bnd hm
 obtain⟨b2,b2o,b2c,b2r,b2k,b2f⟩:=aH.at kP bI ex2
 obtain rfl:b2c=Enc.enc x2:=b2k
 have b2f:AtP ρ b2 b2o [(Iv x2)]:=b2f
 refine Vq hE rfl (aN rfl hE rfl rfl b2r) fun a hE=>Vq hE rfl (aK rfl hE rfl (fun w hw=>aV aT (b2f.c 0 rfl w hw))) fun a hE=>Sq hE 2 rfl fun a hE=>?_
 refine iM fun w hp=>?_
 have hp:=r3 hp
 refine aG (aA ?_)
 refine S hE 3 rfl fun a hE=>?_
 obtain⟨x3,ex3,hm⟩:=bnd hm
 refine s_call (wk0 rfl) rfl rfl hE rfl [(Pv bp0 0),(Iv p1),(Iv p2)] ⟨rfl,rfl,rfl,trivial⟩ ent71 (Y8 bp0 p0 cZ lI dA lZ bU kL dB lJ dC mD bV kM dI jY dO kN dJ jZ dP kP bM iW dG eP p1 p2 (((hp.get 2 rfl).get 2 rfl).get 2 rfl) x3 ex3) Ret.ret ?_
 intro vr1 a w hR hE
 obtain⟨u,usr1,rfl,hp⟩:=Ret.of hR
 have hp:=r4 hp
 refine S hE 1 rfl fun a hE=>aB (aG ?_)
 refine jR (by kernel_rfl) (by kernel_rfl) hp ?_
 refine Sq hE 1 rfl fun a hE=>Vq hE rfl (bT rfl hE rfl (cO.len hp 0 rfl jD)) fun a hE=>?_
 obtain⟨x4,ex4,hm⟩:=bnd hm
 refine Vq hE rfl (dQ rfl hE rfl rfl (aO ex4)) fun a hE=>Sq hE 1 rfl fun a hE=>?_
 obtain⟨x5,ex5,hm⟩:=bnd hm
 obtain⟨b3u,b3,b3o,b3h,b3r,b3v,b3f⟩:=cO.hdr hp 0 rfl jD ex5
 refine Vq hE rfl (aN rfl hE rfl rfl b3r) fun a hE=>Vq hE rfl (aK rfl hE rfl (fun w hw=>aV aY (b3f 0 _ rfl _ _ w (hw.get 0 rfl)))) fun a hE=>Vq hE rfl (bT rfl hE rfl (cO.rlen hp 0 rfl bI b3h ex5)) fun a hE=>?_
 obtain⟨x6,ex6,hm⟩:=bnd hm
 refine Vq hE rfl (dQ rfl hE rfl rfl (aO ex6)) fun a hE=>Sq hE 2 rfl fun a hE=>?_
 refine iM fun w hp=>?_
 have hp:=r4 hp
 have hE:=hE.cut (E':=[(0,(Pv bp0 0)),(6,(Iv x1)),(7,(Iv x2)),(8,vr1),(9,(Iv x4)),(10,(Iv x6))]) ⟨rfl,rfl,rfl,rfl,rfl,rfl,trivial⟩
 obtain⟨b4,hc1,hm⟩:=bnd hm
 refine dH (fun a w=>∃(w2:Value) (w3:Value),Env 204 [] a∧Hp Z ρ (cO 73 3 vr1 usr1 (x3:(List (List Int)))::Pt bp0 (.cells #[cZ,dA,bU,dB,dC,bV,dI,dO,dJ,dP,bM,w2,w3] 88 (0,0))::aC 3 w2 b4.1::aC 3 w3 b4.2::L) w) ?_ ?_
 ·refine dZ hc1 (fun s a w=>∃(w2:Value) (w3:Value),Env 204 [(0,(Pv bp0 0)),(6,(Iv x1)),(7,(Iv x2)),(8,vr1),(9,(Iv s.1)),(10,(Iv s.2.1))] a∧Hp Z ρ (cO 73 3 vr1 usr1 (x3:(List (List Int)))::Pt bp0 (.cells #[cZ,dA,bU,dB,dC,bV,dI,dO,dJ,dP,bM,w2,w3] 88 (0,0))::aC 3 w2 s.2.2.1::aC 3 w3 s.2.2.2::L) w) ?_ ?_
  ·exact⟨_,_,hE.cut ⟨rfl,rfl,rfl,rfl,rfl,rfl,trivial⟩,hp⟩
  rintro⟨aP,aU,dR,fQ⟩ st a w ⟨w2,w3,hE,hp⟩ hl1
  dsimp only at hE hp hl1
  unfold uH at hl1
  refine aG (aG ?_)
  refine aA (S hE 3 rfl fun a hE=>?_)
  refine iL [_,_,_] (fun a w=>Env 204 [(45,(.bool ((decide (0<aP))&&(decide (0<aU))))),(0,(Pv bp0 0)),(6,(Iv x1)),(7,(Iv x2)),(8,vr1),(9,(Iv aP)),(10,(Iv aU))] a∧Hp Z ρ (cO 73 3 vr1 usr1 (x3:(List (List Int)))::Pt bp0 (.cells #[cZ,dA,bU,dB,dC,bV,dI,dO,dJ,dP,bM,w2,w3] 88 (0,0))::aC 3 w2 dR::aC 3 w3 fQ::L) w) ?_ ?_
  ·rcases Bool.eq_false_or_eq_true (decide (0<aP)) with hc2|hc2
   ·
    refine Gs hE hc2 rfl rfl fun a hE=>Gs hE hc2 rfl rfl fun a hE=>pk1 hE hc2 rfl rfl rfl rfl fun a hE=>?_
    have hE:=hE.eqv (v':=(.bool ((decide (0<aP))&&(decide (0<aU))))) (by rw[hc2];rfl)
    exact aB ⟨hE.cut ⟨rfl,rfl,rfl,rfl,rfl,rfl,rfl,trivial⟩,hp⟩
   refine Gk hE hc2 rfl fun a hE=>Gk hE hc2 rfl fun a hE=>pk0 hE hc2 rfl rfl rfl rfl fun a hE=>?_
   have hE:=hE.eqv (v':=(.bool ((decide (0<aP))&&(decide (0<aU))))) (by rw[hc2];rfl)
   exact aB ⟨hE.cut ⟨rfl,rfl,rfl,rfl,rfl,rfl,rfl,trivial⟩,hp⟩
  rintro a w ⟨hE,hp⟩
  refine aB ?_
  refine dE hE rfl (fun hc3=>?_) (fun hc3=>?_)
  ·replace hl1:=(it hc3).symm.trans hl1
   refine aZ (dM ?_)
   refine aG (aA ?_)
   refine S hE 2 rfl fun a hE=>?_
   obtain⟨x7,ex7,hl1⟩:=bnd hl1
   refine V hE hp rfl (bF rfl hE rfl rfl (aO ex7)) fun a hE=>?_
   obtain⟨x8,ex8,hl1⟩:=bnd hl1
   refine V hE hp rfl (dQ rfl hE rfl rfl (aO ex8)) fun a hE=>S hE 2 rfl fun a hE=>?_
   obtain⟨x9,ex9,hl1⟩:=bnd hl1
   refine V hE hp rfl (bF rfl hE rfl rfl (aO ex9)) fun a hE=>?_
   obtain⟨x10,ex10,hl1⟩:=bnd hl1
   refine V hE hp rfl (dQ rfl hE rfl rfl (aO ex10)) fun a hE=>S hE 2 rfl fun a hE=>aB (aG ?_)
   refine aA (S hE 2 rfl fun a hE=>?_)
   refine V hE hp rfl (xf hE zN rfl rfl) fun a hE=>V hE hp rfl (xl hE aY 1 rfl rfl rfl rfl) fun a hE=>S hE 1 rfl fun a hE=>?_
   obtain⟨x11,ex11,hl1⟩:=bnd hl1
   obtain⟨b5,b5o,b5c,b5r,b5k,b5f⟩:=aH.at kN bI ex11
   obtain rfl:b5c=Enc.enc x11:=b5k
   have b5f:AtP ρ b5 b5o [(Iv x11)]:=b5f
   refine V hE hp rfl (aN rfl hE rfl rfl b5r) fun a hE=>V hE hp rfl (aK rfl hE rfl (fun w hw=>aV aT (b5f.c 0 rfl w hw))) fun a hE=>S hE 3 rfl fun a hE=>?_
   obtain⟨m1,hg1,hl1⟩:=bnd hl1
   refine iL [_,_,_,_,_,_,_,_,_,_] (fun a w=>Env 204 [(73,(.bool m1)),(0,(Pv bp0 0)),(6,(Iv x1)),(7,(Iv x2)),(8,vr1),(9,(Iv aP)),(10,(Iv aU)),(11,(Iv x8)),(12,(Iv x10))] a∧Hp Z ρ (cO 73 3 vr1 usr1 (x3:(List (List Int)))::Pt bp0 (.cells #[cZ,dA,bU,dB,dC,bV,dI,dO,dJ,dP,bM,w2,w3] 88 (0,0))::aC 3 w2 dR::aC 3 w3 fQ::L) w) ?_ ?_
   ·rcases Bool.eq_false_or_eq_true (decide (x11=x1)) with hc4|hc4
    ·
     replace hg1:=(it hc4).symm.trans hg1
     refine Gs hE hc4 rfl rfl fun a hE=>Gs hE hc4 rfl rfl fun a hE=>G hE hp hc4 rfl (xf hE zO rfl rfl) fun a hE=>G hE hp hc4 rfl (xl hE aY 1 rfl rfl rfl rfl) fun a hE=>Gs hE hc4 rfl rfl fun a hE=>?_
     obtain⟨x12,ex12,hg1⟩:=bnd hg1
     obtain⟨b6,b6o,b6c,b6r,b6k,b6f⟩:=aH.at kP bI ex12
     obtain rfl:b6c=Enc.enc x12:=b6k
     have b6f:AtP ρ b6 b6o [(Iv x12)]:=b6f
     refine G hE hp hc4 rfl (aN rfl hE rfl rfl b6r) fun a hE=>G hE hp hc4 rfl (aK rfl hE rfl (fun w hw=>aV aT (b6f.c 0 rfl w hw))) fun a hE=>Gs hE hc4 rfl rfl fun a hE=>Gs hE hc4 rfl rfl fun a hE=>pk1 hE hc4 rfl rfl rfl rfl fun a hE=>?_
     obtain rfl:=oj hg1
     exact aB ⟨hE.cut ⟨rfl,rfl,rfl,rfl,rfl,rfl,rfl,rfl,rfl,trivial⟩,hp⟩
    replace hg1:=(ie hc4).symm.trans hg1
    refine Gk hE hc4 rfl fun a hE=>Gk hE hc4 rfl fun a hE=>Gk hE hc4 rfl fun a hE=>Gk hE hc4 rfl fun a hE=>Gk hE hc4 rfl fun a hE=>Gk hE hc4 rfl fun a hE=>Gk hE hc4 rfl fun a hE=>Gk hE hc4 rfl fun a hE=>Gk hE hc4 rfl fun a hE=>pk0 hE hc4 rfl rfl rfl rfl fun a hE=>?_
    obtain rfl:=oj hg1
    exact aB ⟨hE.cut ⟨rfl,rfl,rfl,rfl,rfl,rfl,rfl,rfl,rfl,trivial⟩,hp⟩
   rintro a w ⟨hE,hp⟩
   refine S hE 1 rfl fun a hE=>aB (dM ?_)
   refine aG ?_
   obtain⟨m2,hg2,hl1⟩:=bnd hl1
   have hp:=hp.drew
   refine fG ([([],At0 Z ρ),([],At1 Z ρ (cO 73 3 vr1 usr1 (x3:(List (List Int)))))]:Facts) (fun a w=>Env 204 [(0,(Pv bp0 0)),(6,(Iv x1)),(7,(Iv x2)),(8,vr1),(9,(Iv aP)),(10,(Iv aU)),(11,(Iv x8)),(12,(Iv x10)),(96,(.bool m2))] a∧Hp Z ρ (cO 73 3 vr1 usr1 (x3:(List (List Int)))::Pt bp0 (.cells #[cZ,dA,bU,dB,dC,bV,dI,dO,dJ,dP,bM,w2,w3] 88 (0,0))::aC 3 w2 dR::aC 3 w3 fQ::L) w) (by kernel_rfl) ⟨fun _=>⟨_,hp⟩,fun _=>⟨_,(hp.get 0 rfl)⟩,trivial⟩ (fun hS=>?_) ?_
   ·
    generalize w.drew=w at hS hp⊢
    refine Ts [0,1] hE hS rfl rfl (by kernel_rfl) fun a hE hS=>?_
    rcases Bool.eq_false_or_eq_true m1 with hc6|hc6
    ·
     have hg2:=(it hc6).symm.trans hg2
     obtain⟨x13,ex13,hg2⟩:=bnd hg2
     obtain⟨x14,ex14,hg2⟩:=bnd hg2
     obtain⟨x15,ex15,hg2⟩:=bnd hg2
     obtain⟨x16,ex16,hg2⟩:=bnd hg2
     obtain⟨x17,ex17,hg2⟩:=bnd hg2
     obtain⟨x18,ex18,hg2⟩:=bnd hg2
     obtain⟨x19,ex19,hg2⟩:=bnd hg2
     obtain⟨x20,ex20,hg2⟩:=bnd hg2
     refine Tg0 2 hE hc6 hS rfl rfl rfl (by kernel_rfl) (fun _=>eH rfl hE rfl) fun a hE hS=>Tg0 3 hE hc6 hS rfl rfl rfl (by kernel_rfl) (fun _=>eH rfl hE rfl) fun a hE hS=>?_
     obtain⟨b11u,b11,b11o,b11h,b11r,b11v,b11f⟩:=cO.hdr hp 0 rfl jD ex13
     refine Tg0 4 hE hc6 hS rfl rfl rfl (by kernel_rfl) (fun _=>aN rfl hE rfl rfl b11r) fun a hE hS=>Tg 5 1 hE hc6 hS rfl rfl rfl (by kernel_rfl) (fun _=>aK rfl hE rfl (fun w hw=>aV aY (b11f 0 _ rfl _ _ w (hw.get 0 rfl)))) fun a hE hS=>Tg0 6 hE hc6 hS rfl rfl rfl (by kernel_rfl) (fun _=>eH rfl hE rfl) fun a hE hS=>?_
     obtain⟨b12,b12o,b12r,b12v,b12f⟩:=cO.at hp 0 rfl bI b11h ex13 ex14
     refine Tg0 7 hE hc6 hS rfl rfl rfl (by kernel_rfl) (fun _=>aN rfl hE rfl rfl b12r) fun a hE hS=>Tg 8 1 hE hc6 hS rfl rfl rfl (by kernel_rfl) (fun _=>aK rfl hE rfl (fun w hw=>aV aT (b12f 0 _ rfl _ _ w (hw.get 0 rfl)))) fun a hE hS=>Tg0 9 hE hc6 hS rfl rfl rfl (by kernel_rfl) (fun _=>eH rfl hE rfl) fun a hE hS=>Tg0 10 hE hc6 hS rfl rfl rfl (by kernel_rfl) (fun _=>eH rfl hE rfl) fun a hE hS=>Tg0 11 hE hc6 hS rfl rfl rfl (by kernel_rfl) (fun _=>dQ rfl hE rfl rfl (aO ex15)) fun a hE hS=>?_
     obtain⟨b13u,b13,b13o,b13h,b13r,b13v,b13f⟩:=cO.hdr hp 0 rfl jD ex16
     refine Tg0 12 hE hc6 hS rfl rfl rfl (by kernel_rfl) (fun _=>aN rfl hE rfl rfl b13r) fun a hE hS=>Tg 13 1 hE hc6 hS rfl rfl rfl (by kernel_rfl) (fun _=>aK rfl hE rfl (fun w hw=>aV aY (b13f 0 _ rfl _ _ w (hw.get 0 rfl)))) fun a hE hS=>Tg0 14 hE hc6 hS rfl rfl rfl (by kernel_rfl) (fun _=>eH rfl hE rfl) fun a hE hS=>Tg0 15 hE hc6 hS rfl rfl rfl (by kernel_rfl) (fun _=>dQ rfl hE rfl rfl (aO ex17)) fun a hE hS=>?_
     obtain⟨b14,b14o,b14r,b14v,b14f⟩:=cO.at hp 0 rfl bI b13h ex16 ex18
     refine Tg0 16 hE hc6 hS rfl rfl rfl (by kernel_rfl) (fun _=>aN rfl hE rfl rfl b14r) fun a hE hS=>Tg 17 1 hE hc6 hS rfl rfl rfl (by kernel_rfl) (fun _=>aK rfl hE rfl (fun w hw=>aV aT (b14f 0 _ rfl _ _ w (hw.get 0 rfl)))) fun a hE hS=>Tg0 18 hE hc6 hS rfl rfl rfl (by kernel_rfl) (fun _=>eH rfl hE rfl) fun a hE hS=>Tg0 19 hE hc6 hS rfl rfl rfl (by kernel_rfl) (fun _=>eH rfl hE rfl) fun a hE hS=>Tg0 20 hE hc6 hS rfl rfl rfl (by kernel_rfl) (fun _=>eH rfl hE rfl) fun a hE hS=>?_
     refine W1 21 (by kernel_rfl) rfl ?_
     refine Cg hE hc6 rfl rfl ent72 (yB bp0 (Alg.mk p0.a p0.b p0.orderA p0.leftA p0.orderB p0.leftB p0.distances dR fQ) cZ lI dA lZ bU kL dB lJ dC mD bV kM dI jY dO kN dJ jZ dP kP bM iW w2 w3 x8 x10 (((hp.get 3 rfl).get 3 rfl).get 3 rfl) x19 ex19) ⟨rfl,rfl,rfl,trivial⟩ fun v a w hR hE=>?_
     obtain⟨rfl,hp⟩:=hR
     have hp:=r4 hp
     refine aB (aF ⟨gp0 hp,gp 3 hp rfl,trivial⟩ fun hS=>?_)
     refine Tg0 22 hE hc6 hS rfl rfl rfl (by kernel_rfl) (fun _=>bF rfl hE rfl rfl (aO ex20)) fun a hE hS=>Tg0 23 hE hc6 hS rfl rfl rfl (by kernel_rfl) (fun _=>ex_eql rfl hE rfl rfl) fun a hE hS=>T0 24 hE hS rfl rfl rfl (by kernel_rfl) (fun _=>iD rfl hE rfl hc6 rfl) fun a hE hS=>?_
     have hE:=hE.eqv (v':=(.bool m2)) (congrArg Value.bool (oj hg2))
     refine Ts [25] hE hS rfl rfl (by kernel_rfl) fun a hE hS=>?_
     exact bP (by kernel_rfl) ⟨hE.cut ⟨rfl,rfl,rfl,rfl,rfl,rfl,rfl,rfl,rfl,trivial⟩,((((hp.get 2 rfl).get 2 rfl).get 2 rfl).get 3 rfl)⟩
    have hg2:=(ie hc6).symm.trans hg2
    refine Tk 2 hE hc6 hS rfl rfl rfl (by kernel_rfl) fun a hE hS=>Tk 3 hE hc6 hS rfl rfl rfl (by kernel_rfl) fun a hE hS=>Tk 4 hE hc6 hS rfl rfl rfl (by kernel_rfl) fun a hE hS=>Tk 5 hE hc6 hS rfl rfl rfl (by kernel_rfl) fun a hE hS=>Tk 6 hE hc6 hS rfl rfl rfl (by kernel_rfl) fun a hE hS=>Tk 7 hE hc6 hS rfl rfl rfl (by kernel_rfl) fun a hE hS=>Tk 8 hE hc6 hS rfl rfl rfl (by kernel_rfl) fun a hE hS=>Tk 9 hE hc6 hS rfl rfl rfl (by kernel_rfl) fun a hE hS=>Tk 10 hE hc6 hS rfl rfl rfl (by kernel_rfl) fun a hE hS=>Tk 11 hE hc6 hS rfl rfl rfl (by kernel_rfl) fun a hE hS=>Tk 12 hE hc6 hS rfl rfl rfl (by kernel_rfl) fun a hE hS=>Tk 13 hE hc6 hS rfl rfl rfl (by kernel_rfl) fun a hE hS=>Tk 14 hE hc6 hS rfl rfl rfl (by kernel_rfl) fun a hE hS=>Tk 15 hE hc6 hS rfl rfl rfl (by kernel_rfl) fun a hE hS=>Tk 16 hE hc6 hS rfl rfl rfl (by kernel_rfl) fun a hE hS=>Tk 17 hE hc6 hS rfl rfl rfl (by kernel_rfl) fun a hE hS=>Tk 18 hE hc6 hS rfl rfl rfl (by kernel_rfl) fun a hE hS=>Tk 19 hE hc6 hS rfl rfl rfl (by kernel_rfl) fun a hE hS=>Tk 20 hE hc6 hS rfl rfl rfl (by kernel_rfl) fun a hE hS=>Tk 21 hE hc6 hS rfl rfl rfl (by kernel_rfl) fun a hE hS=>Tk 22 hE hc6 hS rfl rfl rfl (by kernel_rfl) fun a hE hS=>Tk 23 hE hc6 hS rfl rfl rfl (by kernel_rfl) fun a hE hS=>T0 24 hE hS rfl rfl rfl (by kernel_rfl) (fun _=>gQ rfl hE rfl hc6 rfl) fun a hE hS=>?_
    have hE:=hE.eqv (v':=(.bool m2)) (congrArg Value.bool (oj hg2))
    refine Ts [25] hE hS rfl rfl (by kernel_rfl) fun a hE hS=>?_
    exact bP (by kernel_rfl) ⟨hE.cut ⟨rfl,rfl,rfl,rfl,rfl,rfl,rfl,rfl,rfl,trivial⟩,hp⟩
   rintro a w ⟨hE,hp⟩
   refine dE hE rfl (fun hc7=>?_) (fun hc7=>?_)
   ·replace hl1:=(it hc7).symm.trans hl1
    refine aG ?_
    obtain⟨x21,ex21,hl1⟩:=bnd hl1
    obtain⟨x22,ex22,hl1⟩:=bnd hl1
    obtain⟨x23,ex23,hl1⟩:=bnd hl1
    obtain⟨x24,ex24,hl1⟩:=bnd hl1
    obtain⟨x25,ex25,hl1⟩:=bnd hl1
    obtain⟨x26,ex26,hl1⟩:=bnd hl1
    have hp:=hp.drew
    refine fG ([([],At0 Z ρ),([],At1 Z ρ (Pt bp0 (.cells #[cZ,dA,bU,dB,dC,bV,dI,dO,dJ,dP,bM,w2,w3] 88 (0,0))))]:Facts) (fun a w=>Env 204 [(0,(Pv bp0 0)),(6,(Iv x1)),(7,(Iv x2)),(8,vr1),(9,(Iv aP)),(10,(Iv aU))] a∧Hp Z ρ (cO 73 3 vr1 usr1 (x3:(List (List Int)))::Pt bp0 (.cells #[cZ,dA,bU,dB,dC,bV,dI,dO,dJ,dP,bM,w2,w3] 88 (0,0))::aC 3 w2 (dR.set x21.toNat x23)::aC 3 w3 (fQ.set x22.toNat x24)::L) w) (by kernel_rfl) ⟨fun _=>⟨_,hp⟩,fun _=>⟨_,(hp.get 1 rfl)⟩,trivial⟩ (fun hS=>?_) ?_
    ·
     generalize w.drew=w at hS hp⊢
     refine Ts [0,1] hE hS rfl rfl (by kernel_rfl) fun a hE hS=>T0 2 hE hS rfl rfl rfl (by kernel_rfl) (fun _=>xf hE aA7 rfl rfl) fun a hE hS=>T 3 1 hE hS rfl rfl rfl (by kernel_rfl) (fun _=>xl hE aY 0 rfl rfl rfl rfl) fun a hE hS=>Ts [4,5] hE hS rfl rfl (by kernel_rfl) fun a hE hS=>T0 6 hE hS rfl rfl rfl (by kernel_rfl) (fun _=>xf hE L8 rfl rfl) fun a hE hS=>T 7 1 hE hS rfl rfl rfl (by kernel_rfl) (fun _=>xl hE aY 0 rfl rfl rfl rfl) fun a hE hS=>Ts [8] hE hS rfl rfl (by kernel_rfl) fun a hE hS=>?_
     obtain⟨b21,b21o,b21c,b21r,b21k,b21f⟩:=aH.at jY bI ex21
     obtain rfl:b21c=Enc.enc x21:=b21k
     have b21f:AtP ρ b21 b21o [(Iv x21)]:=b21f
     refine T0 9 hE hS rfl rfl rfl (by kernel_rfl) (fun _=>aN rfl hE rfl rfl b21r) fun a hE hS=>T0 10 hE hS rfl rfl rfl (by kernel_rfl) (fun _=>aK rfl hE rfl (fun w hw=>aV aT (b21f.c 0 rfl w hw))) fun a hE hS=>Ts [11,12] hE hS rfl rfl (by kernel_rfl) fun a hE hS=>T0 13 hE hS rfl rfl rfl (by kernel_rfl) (fun _=>xf hE aA8 rfl rfl) fun a hE hS=>T 14 1 hE hS rfl rfl rfl (by kernel_rfl) (fun _=>xl hE aY 0 rfl rfl rfl rfl) fun a hE hS=>Ts [15,16] hE hS rfl rfl (by kernel_rfl) fun a hE hS=>T0 17 hE hS rfl rfl rfl (by kernel_rfl) (fun _=>xf hE L9 rfl rfl) fun a hE hS=>T 18 1 hE hS rfl rfl rfl (by kernel_rfl) (fun _=>xl hE aY 0 rfl rfl rfl rfl) fun a hE hS=>Ts [19] hE hS rfl rfl (by kernel_rfl) fun a hE hS=>?_
     obtain⟨b22,b22o,b22c,b22r,b22k,b22f⟩:=aH.at jZ bI ex22
     obtain rfl:b22c=Enc.enc x22:=b22k
     have b22f:AtP ρ b22 b22o [(Iv x22)]:=b22f
     refine T0 20 hE hS rfl rfl rfl (by kernel_rfl) (fun _=>aN rfl hE rfl rfl b22r) fun a hE hS=>T0 21 hE hS rfl rfl rfl (by kernel_rfl) (fun _=>aK rfl hE rfl (fun w hw=>aV aT (b22f.c 0 rfl w hw))) fun a hE hS=>Ts [22,23] hE hS rfl rfl (by kernel_rfl) fun a hE hS=>T0 24 hE hS rfl rfl rfl (by kernel_rfl) (fun _=>xf hE L9 rfl rfl) fun a hE hS=>T 25 1 hE hS rfl rfl rfl (by kernel_rfl) (fun _=>xl hE aY 0 rfl rfl rfl rfl) fun a hE hS=>Ts [26] hE hS rfl rfl (by kernel_rfl) fun a hE hS=>?_
     obtain⟨b23,b23o,b23c,b23r,b23k,b23f⟩:=aH.at jZ bI ex23
     obtain rfl:b23c=Enc.enc x23:=b23k
     have b23f:AtP ρ b23 b23o [(Iv x23)]:=b23f
     refine T0 27 hE hS rfl rfl rfl (by kernel_rfl) (fun _=>aN rfl hE rfl rfl b23r) fun a hE hS=>T0 28 hE hS rfl rfl rfl (by kernel_rfl) (fun _=>aK rfl hE rfl (fun w hw=>aV aT (b23f.c 0 rfl w hw))) fun a hE hS=>Ts [29,30] hE hS rfl rfl (by kernel_rfl) fun a hE hS=>T0 31 hE hS rfl rfl rfl (by kernel_rfl) (fun _=>xf hE L8 rfl rfl) fun a hE hS=>T 32 1 hE hS rfl rfl rfl (by kernel_rfl) (fun _=>xl hE aY 0 rfl rfl rfl rfl) fun a hE hS=>Ts [33] hE hS rfl rfl (by kernel_rfl) fun a hE hS=>?_
     obtain⟨b24,b24o,b24c,b24r,b24k,b24f⟩:=aH.at jY bI ex24
     obtain rfl:b24c=Enc.enc x24:=b24k
     have b24f:AtP ρ b24 b24o [(Iv x24)]:=b24f
     refine T0 34 hE hS rfl rfl rfl (by kernel_rfl) (fun _=>aN rfl hE rfl rfl b24r) fun a hE hS=>T0 35 hE hS rfl rfl rfl (by kernel_rfl) (fun _=>aK rfl hE rfl (fun w hw=>aV aT (b24f.c 0 rfl w hw))) fun a hE hS=>?_
     obtain⟨b25,b25o,b25r,b25v,b25f⟩:=aC.at hp 2 rfl bI ex25
     refine T0 36 hE hS rfl rfl rfl (by kernel_rfl) (fun _=>aN rfl hE rfl rfl b25r) fun a hE hS=>?_
     refine W1 37 (by kernel_rfl) rfl ?_
     refine zF (wk0 rfl) rfl hE hp rfl rfl rfl 2 rfl ex25 b25v 0 (e':=x23) aT.size_ rfl rfl rfl ⟨rfl,rfl⟩ ?_
     intro w hp
     have hp:=r4 hp
     refine aB (aF ⟨gp0 hp,gp 1 hp rfl,trivial⟩ fun hS=>?_)
     obtain⟨b26,b26o,b26r,b26v,b26f⟩:=aC.at hp 3 rfl bI ex26
     refine T0 38 hE hS rfl rfl rfl (by kernel_rfl) (fun _=>aN rfl hE rfl rfl b26r) fun a hE hS=>?_
     refine W1 39 (by kernel_rfl) rfl ?_
     refine zF (wk0 rfl) rfl hE hp rfl rfl rfl 3 rfl ex26 b26v 0 (e':=x24) aT.size_ rfl rfl rfl ⟨rfl,rfl⟩ ?_
     intro w hp
     have hp:=r4 hp
     refine aB (aF ⟨gp0 hp,gp 1 hp rfl,trivial⟩ fun hS=>?_)
     exact bP (by kernel_rfl) ⟨hE.cut ⟨rfl,rfl,rfl,rfl,rfl,rfl,trivial⟩,hp⟩
    rintro a w ⟨hE,hp⟩
    refine aA (S hE 1 rfl fun a hE=>?_)
    obtain⟨x27,ex27,hl1⟩:=bnd hl1
    refine V hE hp rfl (dQ rfl hE rfl rfl (aO ex27)) fun a hE=>S hE 1 rfl fun a hE=>?_
    obtain⟨x28,ex28,hl1⟩:=bnd hl1
    refine V hE hp rfl (dQ rfl hE rfl rfl (aO ex28)) fun a hE=>S hE 2 rfl fun a hE=>aB ?_
    exact⟨_,(oj hl1).symm,_,_,hE.cut ⟨rfl,rfl,rfl,rfl,rfl,rfl,trivial⟩,hp⟩
   replace hl1:=(ie hc7).symm.trans hl1
   refine aG ?_
   refine jR (by kernel_rfl) (by kernel_rfl) hp ?_
   refine Sq hE 2 rfl fun a hE=>?_
   obtain⟨x29,ex29,hl1⟩:=bnd hl1
   obtain⟨b27u,b27,b27o,b27h,b27r,b27v,b27f⟩:=cO.hdr hp 0 rfl jD ex29
   refine Vq hE rfl (aN rfl hE rfl rfl b27r) fun a hE=>Vq hE rfl (aK rfl hE rfl (fun w hw=>aV aY (b27f 0 _ rfl _ _ w (hw.get 0 rfl)))) fun a hE=>Sq hE 1 rfl fun a hE=>?_
   obtain⟨x30,ex30,hl1⟩:=bnd hl1
   obtain⟨b28,b28o,b28r,b28v,b28f⟩:=cO.at hp 0 rfl bI b27h ex29 ex30
   refine Vq hE rfl (aN rfl hE rfl rfl b28r) fun a hE=>Vq hE rfl (aK rfl hE rfl (fun w hw=>aV aT (b28f 0 _ rfl _ _ w (hw.get 0 rfl)))) fun a hE=>Sq hE 2 rfl fun a hE=>?_
   obtain⟨x31,ex31,hl1⟩:=bnd hl1
   refine Vq hE rfl (dQ rfl hE rfl rfl (aO ex31)) fun a hE=>?_
   obtain⟨x32,ex32,hl1⟩:=bnd hl1
   obtain⟨b29u,b29,b29o,b29h,b29r,b29v,b29f⟩:=cO.hdr hp 0 rfl jD ex32
   refine Vq hE rfl (aN rfl hE rfl rfl b29r) fun a hE=>Vq hE rfl (aK rfl hE rfl (fun w hw=>aV aY (b29f 0 _ rfl _ _ w (hw.get 0 rfl)))) fun a hE=>Sq hE 1 rfl fun a hE=>?_
   obtain⟨x33,ex33,hl1⟩:=bnd hl1
   obtain⟨b30,b30o,b30r,b30v,b30f⟩:=cO.at hp 0 rfl bI b29h ex32 ex33
   refine Vq hE rfl (aN rfl hE rfl rfl b30r) fun a hE=>Vq hE rfl (aK rfl hE rfl (fun w hw=>aV aT (b30f 0 _ rfl _ _ w (hw.get 0 rfl)))) fun a hE=>?_
   obtain⟨x34,ex34,hl1⟩:=bnd hl1
   refine Vq hE rfl (bF rfl hE rfl rfl (aO ex34)) fun a hE=>Sq hE 2 rfl fun a hE=>?_
   refine iM fun w hp=>?_
   have hp:=r4 hp
   have hE:=hE.cut (E':=[(0,(Pv bp0 0)),(6,(Iv x1)),(7,(Iv x2)),(8,vr1),(9,(Iv aP)),(10,(Iv aU)),(11,(Iv x8)),(12,(Iv x10)),(164,(.bool (decide (x30=x34))))]) ⟨rfl,rfl,rfl,rfl,rfl,rfl,rfl,rfl,rfl,trivial⟩
   refine dE hE rfl (fun hc8=>?_) (fun hc8=>?_)
   ·replace hl1:=(it hc8).symm.trans hl1
    refine aA (S hE 1 rfl fun a hE=>?_)
    obtain⟨x35,ex35,hl1⟩:=bnd hl1
    refine V hE hp rfl (dQ rfl hE rfl rfl (aO ex35)) fun a hE=>S hE 1 rfl fun a hE=>aB ?_
    exact⟨_,(oj hl1).symm,_,_,hE.cut ⟨rfl,rfl,rfl,rfl,rfl,rfl,trivial⟩,hp⟩
   replace hl1:=(ie hc8).symm.trans hl1
   refine aG ?_
   refine jR (by kernel_rfl) (by kernel_rfl) hp ?_
   refine Sq hE 2 rfl fun a hE=>?_
   obtain⟨x36,ex36,hl1⟩:=bnd hl1
   obtain⟨b31u,b31,b31o,b31h,b31r,b31v,b31f⟩:=cO.hdr hp 0 rfl jD ex36
   refine Vq hE rfl (aN rfl hE rfl rfl b31r) fun a hE=>Vq hE rfl (aK rfl hE rfl (fun w hw=>aV aY (b31f 0 _ rfl _ _ w (hw.get 0 rfl)))) fun a hE=>Sq hE 1 rfl fun a hE=>?_
   obtain⟨x37,ex37,hl1⟩:=bnd hl1
   obtain⟨b32,b32o,b32r,b32v,b32f⟩:=cO.at hp 0 rfl bI b31h ex36 ex37
   refine Vq hE rfl (aN rfl hE rfl rfl b32r) fun a hE=>Vq hE rfl (aK rfl hE rfl (fun w hw=>aV aT (b32f 0 _ rfl _ _ w (hw.get 0 rfl)))) fun a hE=>Sq hE 2 rfl fun a hE=>?_
   obtain⟨x38,ex38,hl1⟩:=bnd hl1
   obtain⟨b33u,b33,b33o,b33h,b33r,b33v,b33f⟩:=cO.hdr hp 0 rfl jD ex38
   refine Vq hE rfl (aN rfl hE rfl rfl b33r) fun a hE=>Vq hE rfl (aK rfl hE rfl (fun w hw=>aV aY (b33f 0 _ rfl _ _ w (hw.get 0 rfl)))) fun a hE=>Sq hE 1 rfl fun a hE=>?_
   obtain⟨x39,ex39,hl1⟩:=bnd hl1
   refine Vq hE rfl (dQ rfl hE rfl rfl (aO ex39)) fun a hE=>?_
   obtain⟨x40,ex40,hl1⟩:=bnd hl1
   obtain⟨b34,b34o,b34r,b34v,b34f⟩:=cO.at hp 0 rfl bI b33h ex38 ex40
   refine Vq hE rfl (aN rfl hE rfl rfl b34r) fun a hE=>Vq hE rfl (aK rfl hE rfl (fun w hw=>aV aT (b34f 0 _ rfl _ _ w (hw.get 0 rfl)))) fun a hE=>?_
   obtain⟨x41,ex41,hl1⟩:=bnd hl1
   refine Vq hE rfl (bF rfl hE rfl rfl (aO ex41)) fun a hE=>Sq hE 2 rfl fun a hE=>?_
   refine iM fun w hp=>?_
   have hp:=r4 hp
   have hE:=hE.cut (E':=[(0,(Pv bp0 0)),(6,(Iv x1)),(7,(Iv x2)),(8,vr1),(9,(Iv aP)),(10,(Iv aU)),(11,(Iv x8)),(12,(Iv x10)),(184,(.bool (decide (x37=x41))))]) ⟨rfl,rfl,rfl,rfl,rfl,rfl,rfl,rfl,rfl,trivial⟩
   refine dE hE rfl (fun hc9=>?_) (fun hc9=>?_)
   ·replace hl1:=(it hc9).symm.trans hl1
    refine aA (S hE 1 rfl fun a hE=>?_)
    obtain⟨x42,ex42,hl1⟩:=bnd hl1
    refine V hE hp rfl (dQ rfl hE rfl rfl (aO ex42)) fun a hE=>S hE 1 rfl fun a hE=>aB ?_
    exact⟨_,(oj hl1).symm,_,_,hE.cut ⟨rfl,rfl,rfl,rfl,rfl,rfl,trivial⟩,hp⟩
   replace hl1:=(ie hc9).symm.trans hl1
   refine aG (aA ?_)
   refine S hE 3 rfl fun a hE=>?_
   obtain⟨x43,ex43,hl1⟩:=bnd hl1
   refine Cl hE rfl rfl ent51 (hself bp0 (Alg.mk p0.a p0.b p0.orderA p0.leftA p0.orderB p0.leftB p0.distances dR fQ) cZ lI dA lZ bU kL dB lJ dC mD bV kM dI jY dO kN dJ jZ dP kP bM iW w2 w3 x8 x10 (((hp.get 3 rfl).get 3 rfl).get 3 rfl) x43 ex43) ⟨rfl,rfl,rfl,trivial⟩ fun v a w hR hE=>?_
   obtain⟨vz1_partner,vz1_back,rfl,hp⟩:=hR
   have hp:=r4 hp
   refine aB ?_
   refine jR (by kernel_rfl) (by kernel_rfl) hp ?_
   refine Sq hE 2 rfl fun a hE=>Vq hE rfl (xf hE zN rfl rfl) fun a hE=>Vq hE rfl (xl hE aY 0 rfl rfl rfl rfl) fun a hE=>Sq hE 1 rfl fun a hE=>?_
   obtain⟨x44,ex44,hl1⟩:=bnd hl1
   obtain⟨b35,b35o,b35c,b35r,b35k,b35f⟩:=aH.at kN bI ex44
   obtain rfl:b35c=Enc.enc x44:=b35k
   have b35f:AtP ρ b35 b35o [(Iv x44)]:=b35f
   refine Vq hE rfl (aN rfl hE rfl rfl b35r) fun a hE=>Vq hE rfl (aK rfl hE rfl (fun w hw=>aV aT (b35f.c 0 rfl w hw))) fun a hE=>Sq hE 1 rfl fun a hE=>?_
   obtain⟨x45,ex45,hl1⟩:=bnd hl1
   refine Vq hE rfl (dQ rfl hE rfl rfl (aO ex45)) fun a hE=>Sq hE 2 rfl fun a hE=>Vq hE rfl (xf hE zO rfl rfl) fun a hE=>Vq hE rfl (xl hE aY 0 rfl rfl rfl rfl) fun a hE=>Sq hE 1 rfl fun a hE=>?_
   obtain⟨x46,ex46,hl1⟩:=bnd hl1
   obtain⟨b36,b36o,b36c,b36r,b36k,b36f⟩:=aH.at kP bI ex46
   obtain rfl:b36c=Enc.enc x46:=b36k
   have b36f:AtP ρ b36 b36o [(Iv x46)]:=b36f
   refine Vq hE rfl (aN rfl hE rfl rfl b36r) fun a hE=>Vq hE rfl (aK rfl hE rfl (fun w hw=>aV aT (b36f.c 0 rfl w hw))) fun a hE=>Sq hE 1 rfl fun a hE=>?_
   obtain⟨x47,ex47,hl1⟩:=bnd hl1
   refine Vq hE rfl (dQ rfl hE rfl rfl (aO ex47)) fun a hE=>Sq hE 2 rfl fun a hE=>?_
   refine iM fun w hp=>?_
   have hp:=r4 hp
   have hE:=hE.cut (E':=[(0,(Pv bp0 0)),(6,(Iv x1)),(7,(Iv x2)),(8,vr1),(9,(Iv x45)),(10,(Iv x47))]) ⟨rfl,rfl,rfl,rfl,rfl,rfl,trivial⟩
   exact⟨_,(oj hl1).symm,_,_,hE.cut ⟨rfl,rfl,rfl,rfl,rfl,rfl,trivial⟩,((((hp.get 2 rfl).get 2 rfl).get 2 rfl).get 3 rfl)⟩
  replace hl1:=(ie hc3).symm.trans hl1
  refine dS ?_
  refine⟨_,(oj hl1).symm,fun hbb=>?_⟩
  subst hbb
  exact⟨_,_,hE.cut trivial,hp⟩
 rintro a w ⟨w2,w3,hE,hp⟩
 obtain rfl:=oj hm
 exact aB2 hE rfl ⟨_,rfl,_,_,rfl,(hp.drop)⟩
theorem aC1:∀(n:Nat),∀{Z:World} {ρ:PH} {L:List bK} {w:World} (bp0:Nat) (p0:Alg) (cZ:Value) (lI:aH ρ cZ p0.a.nodes) (dA:Value) (lZ:aH ρ dA p0.a.sizes) (bU:Value) (kL:aH ρ bU p0.a.parent) (dB:Value) (lJ:aH ρ dB p0.b.nodes) (dC:Value) (mD:aH ρ dC p0.b.sizes) (bV:Value) (kM:aH ρ bV p0.b.parent) (dI:Value) (jY:aH ρ dI p0.orderA) (dO:Value) (kN:aH ρ dO p0.leftA) (dJ:Value) (jZ:aH ρ dJ p0.orderB) (dP:Value) (kP:aH ρ dP p0.leftB) (bM:Value) (iW:aH ρ bM p0.distances) (dG:Value) (eP:Value) (p1:Int) (p2:Int) (hp:Hp Z ρ (Pt bp0 (.cells #[cZ,dA,bU,dB,dC,bV,dI,dO,dJ,dP,bM,dG,eP] 88 (0,0))::aC 3 dG p0.partner::aC 3 eP p0.back::L) w) (r:Alg) (hm:qJ n p0 p1 p2=some r),Calls Tryz.prog 51 #[(Pv bp0 0),(Iv p1),(Iv p2)] w (Ret fun v w'=>∃(nJ:Value) (tX:Value),v= .tuple #[]∧Hp Z ρ (Pt bp0 (.cells #[cZ,dA,bU,dB,dC,bV,dI,dO,dJ,dP,bM,nJ,tX] 88 (0,0))::aC 3 nJ r.partner::aC 3 tX r.back::L) w'):=by
 intro n
 induction n with
 |zero=>intro Z ρ L w bp0 p0 cZ lI dA lZ bU kL dB lJ dC mD bV kM dI jY dO kN dJ jZ dP kP bM iW dG eP p1 p2 hp r hm;cases hm
 |succ n ih=>intro Z ρ L w bp0 p0 cZ lI dA lZ bU kL dB lJ dC mD bV kM dI jY dO kN dJ jZ dP kP bM iW dG eP p1 p2 hp r hm;exact X0 (qJ n) ih bp0 p0 cZ lI dA lZ bU kL dB lJ dC mD bV kM dI jY dO kN dJ jZ dP kP bM iW dG eP p1 p2 hp r hm
theorem D8 {Z:World} {ρ:PH} {L:List bK} {w:World} (bp0:Nat) (p0:Alg) (cZ:Value) (lI:aH ρ cZ p0.a.nodes) (dA:Value) (lZ:aH ρ dA p0.a.sizes) (bU:Value) (kL:aH ρ bU p0.a.parent) (dB:Value) (lJ:aH ρ dB p0.b.nodes) (dC:Value) (mD:aH ρ dC p0.b.sizes) (bV:Value) (kM:aH ρ bV p0.b.parent) (dI:Value) (jY:aH ρ dI p0.orderA) (dO:Value) (kN:aH ρ dO p0.leftA) (dJ:Value) (jZ:aH ρ dJ p0.orderB) (dP:Value) (kP:aH ρ dP p0.leftB) (bM:Value) (iW:aH ρ bM p0.distances) (dG:Value) (eP:Value) (p1:Int) (p2:Int) (hp:Hp Z ρ (Pt bp0 (.cells #[cZ,dA,bU,dB,dC,bV,dI,dO,dJ,dP,bM,dG,eP] 88 (0,0))::aC 3 dG p0.partner::aC 3 eP p0.back::L) w) (r:Alg) (hm:F6 p0 p1 p2=some r):
  Calls Tryz.prog 51 #[(Pv bp0 0),(Iv p1),(Iv p2)] w (Ret fun v w'=>∃(nJ:Value) (tX:Value),v= .tuple #[]∧Hp Z ρ (Pt bp0 (.cells #[cZ,dA,bU,dB,dC,bV,dI,dO,dJ,dP,bM,nJ,tX] 88 (0,0))::aC 3 nJ r.partner::aC 3 tX r.back::L) w'):=aC1 _ bp0 p0 cZ lI dA lZ bU kL dB lJ dC mD bV kM dI jY dO kN dJ jZ dP kP bM iW dG eP p1 p2 hp r hm
end Go.Proofs.YtopnldfjcciieaaGreat

/- The code goes as its model: (*assessor/align.aligner).relabel, (*assessor/align.aligner).forests, (*assessor/align.aligner).pair. (Printed by wip/sp/gen.py.) -/
import Derived.Test.YtopnldfjcciieaaGreatKLeT
import Derived.Test.YtopnldfjcciieaaGreatKLe3
import Derived.Test.YtopnldfjcciieaaGreatKLe5
import Derived.Test.YtopnldfjcciieaaGreatKLe7
set_option linter.unusedVariables false
set_option linter.unusedSimpArgs false
set_option maxRecDepth 100000
set_option maxHeartbeats 4000000
namespace Go.Proofs.YtopnldfjcciieaaGreat
open Go.RowKit
theorem D7 {Z:World} {ρ:PH} {L:List bQ} {w:World} (bp0:Nat) (C:Alg) (dA:Value) (nJ:aH ρ dA C.a.nodes) (dB:Value) (oK:aH ρ dB C.a.sizes) (bY:Value) (lS:aH ρ bY C.a.parent) (dC:Value) (nK:aH ρ dC C.b.nodes) (dD:Value) (oL:aH ρ dD C.b.sizes) (bZ:Value) (lT:aH ρ bZ C.b.parent) (dO:Value) (lI:aH ρ dO C.orderA) (dW:Value) (lU:aH ρ dW C.leftA) (dP:Value) (lJ:aH ρ dP C.orderB) (dX:Value) (lV:aH ρ dX C.leftB) (bU:Value) (jJ:aH ρ bU C.distances) (dL:Value) (fD:Value) (K:Int) (J:Int) (H:Hp Z ρ (Pt bp0 (.cells #[dA,dB,bY,dC,dD,bZ,dO,dW,dP,dX,bU,dL,fD] 88 (0,0))::aC 3 dL C.partner::aC 3 fD C.back::L) w) (r:Int) (B:jG C K J=some r):
  Calls Tryz.prog 72 #[(Pv bp0 0),(Iv K),(Iv J)] w (Ret fun v w'=>v=(Iv r)∧Hp Z ρ (Pt bp0 (.cells #[dA,dB,bY,dC,dD,bZ,dO,dW,dP,dX,bU,dL,fD] 88 (0,0))::aC 3 dL C.partner::aC 3 fD C.back::L) w'):=by
 refine enter (N:=36) Tryz.func72 O O [(0,(Pv bp0 0)),(1,(Iv K)),(2,(Iv J))] O (bH ⟨O,O,O,tv⟩) fun a A=>?_
 unfold jG at B
 refine aG (aA ?_)
 refine S A 1 O fun a A=>aB (aG ?_)
 refine aG ?_
 refine jU kr kr H ?_
 refine Sq A 2 O fun a A=>Vq A O (xf A fldty88_0 O O) fun a A=>Vq A O (xf A lQ O O) fun a A=>Vq A O (xl A iK 0 O O O O) fun a A=>Sq A 2 O fun a A=>Vq A O (xf A Y0 O O) fun a A=>Vq A O (xl A aT 0 O O O O) fun a A=>Sq A 1 O fun a A=>?_
 obtain⟨X,V,B⟩:=bnd B
 obtain⟨b1,b1o,b1c,b1r,b1k,b1f⟩:=aH.at lI bD V
 obtain rfl:b1c=Enc.enc X:=b1k
 have b1f:AtP ρ b1 b1o [(Iv X)]:=b1f
 refine Vq A O (aO O A O O b1r) fun a A=>Vq A O (aK O A O (fun w F=>aZ aW (b1f.c 0 O w F))) fun a A=>?_
 obtain⟨E,U,B⟩:=bnd B
 obtain⟨b2,b2o,b2c,b2r,b2k,b2f⟩:=aH.at nJ iZ U
 obtain⟨uP,rfl,aL7⟩:=NodeAt.opens b2k
 have b2f:AtP ρ b2 b2o [(Iv E.kind),(.string E.text),(Iv E.at_),(Iv E.fin),uP]:=b2f
 refine Vq A O (aO O A O O b2r) fun a A=>Vq A O (aK O A O (fun w F=>aX (cs:=[(Iv E.kind),(.string E.text),(Iv E.at_),(Iv E.fin),uP]) cO (fun j u M=>cell_of F.le (b2f j u M)))) fun a A=>Sq A 2 O fun a A=>Vq A O (xf A fldty88_1 O O) fun a A=>Vq A O (xf A lQ O O) fun a A=>Vq A O (xl A iK 0 O O O O) fun a A=>Sq A 2 O fun a A=>Vq A O (xf A Y1 O O) fun a A=>Vq A O (xl A aT 0 O O O O) fun a A=>Sq A 1 O fun a A=>?_
 obtain⟨W,T,B⟩:=bnd B
 obtain⟨b3,b3o,b3c,b3r,b3k,b3f⟩:=aH.at lJ bD T
 obtain rfl:b3c=Enc.enc W:=b3k
 have b3f:AtP ρ b3 b3o [(Iv W)]:=b3f
 refine Vq A O (aO O A O O b3r) fun a A=>Vq A O (aK O A O (fun w F=>aZ aW (b3f.c 0 O w F))) fun a A=>?_
 obtain⟨D,R,B⟩:=bnd B
 obtain⟨b4,b4o,b4c,b4r,b4k,b4f⟩:=aH.at nK iZ R
 obtain⟨uQ,rfl,aL8⟩:=NodeAt.opens b4k
 have b4f:AtP ρ b4 b4o [(Iv D.kind),(.string D.text),(Iv D.at_),(Iv D.fin),uQ]:=b4f
 refine Vq A O (aO O A O O b4r) fun a A=>Vq A O (aK O A O (fun w F=>aX (cs:=[(Iv D.kind),(.string D.text),(Iv D.at_),(Iv D.fin),uQ]) cO (fun j u M=>cell_of F.le (b4f j u M)))) fun a A=>?_
 obtain⟨I,Q,B⟩:=bnd B
 refine aE8 (wk0 O) O O A O [(.agg #[(Iv E.kind),(.string E.text),(Iv E.at_),(Iv E.fin),uP]),(.agg #[(Iv D.kind),(.string D.text),(Iv D.at_),(Iv D.fin),uQ])] ⟨O,O,tv⟩ ent41 (v:=(.bool I)) (fun w F=>Calls.mono (F9 E uP aL7 D uQ aL8 F I Q) fun e w' ⟨v,he,hv,hh⟩=>⟨by rw[he,hv],hh⟩) ?_
 intro a A
 refine jQ fun w H=>?_
 have H:=r3 H
 have A:=A.cut (E':=[(35,(.bool I))]) ⟨O,tv⟩
 refine dK A O (fun G=>?_) (fun G=>?_)
 ·replace B:=(it G).symm.trans B
  refine aG (aA ?_)
  refine S A 1 O fun a A=>aB (cZ ?_)
  obtain rfl:=oj B
  exact gY A O O ⟨_,O,O,H⟩
 replace B:=(ie G).symm.trans B
 refine bI (aG ?_)
 refine aA (S A 1 O fun a A=>?_)
 refine aB (cZ ?_)
 obtain rfl:=oj B
 exact gY A O O ⟨_,O,O,H⟩
theorem aE9 {Z:World} {ρ:PH} {L:List bQ} {w:World} (bp0:Nat) (I:Alg) (dA:Value) (nJ:aH ρ dA I.a.nodes) (dB:Value) (oK:aH ρ dB I.a.sizes) (bY:Value) (lS:aH ρ bY I.a.parent) (dC:Value) (nK:aH ρ dC I.b.nodes) (dD:Value) (oL:aH ρ dD I.b.sizes) (bZ:Value) (lT:aH ρ bZ I.b.parent) (dO:Value) (lI:aH ρ dO I.orderA) (dW:Value) (lU:aH ρ dW I.leftA) (dP:Value) (lJ:aH ρ dP I.orderB) (dX:Value) (lV:aH ρ dX I.leftB) (bU:Value) (jJ:aH ρ bU I.distances) (dL:Value) (fD:Value) (p1:Int) (Q:Int) (D:Hp Z ρ (Pt bp0 (.cells #[dA,dB,bY,dC,dD,bZ,dO,dW,dP,dX,bU,dL,fD] 88 (0,0))::aC 3 dL I.partner::aC 3 fD I.back::L) w) (r:(List (List Int))) (K:oM I p1 Q=some r):
  Calls Tryz.prog 71 #[(Pv bp0 0),(Iv p1),(Iv Q)] w (Ret fun v w'=>∃(vr1:Value) (usr1:List Sl),v=vr1∧Hp Z ρ (bM 73 3 vr1 usr1 (r:(List (List Int)))::Pt bp0 (.cells #[dA,dB,bY,dC,dD,bZ,dO,dW,dP,dX,bU,dL,fD] 88 (0,0))::aC 3 dL I.partner::aC 3 fD I.back::L) w'):=by
 refine enter (N:=226) Tryz.func71 O O [(0,(Pv bp0 0)),(1,(Iv p1)),(2,(Iv Q))] O (bH ⟨O,O,O,tv⟩) fun a A=>?_
 unfold oM at K
 refine aG (aA ?_)
 refine S A 1 O fun a A=>aB (aG ?_)
 refine jU kr kr D ?_
 refine Sq A 2 O fun a A=>Vq A O (xf A J6 O O) fun a A=>Vq A O (xl A aT 0 O O O O) fun a A=>Sq A 1 O fun a A=>?_
 obtain⟨M,ex1,K⟩:=bnd K
 obtain⟨b1,b1o,b1c,b1r,b1k,b1f⟩:=aH.at lU bD ex1
 obtain rfl:b1c=Enc.enc M:=b1k
 have b1f:AtP ρ b1 b1o [(Iv M)]:=b1f
 refine Vq A O (aO O A O O b1r) fun a A=>Vq A O (aK O A O (fun w F=>aZ aW (b1f.c 0 O w F))) fun a A=>Sq A 2 O fun a A=>Vq A O (xf A J7 O O) fun a A=>Vq A O (xl A aT 0 O O O O) fun a A=>Sq A 1 O fun a A=>?_
 obtain⟨R,ex2,K⟩:=bnd K
 obtain⟨b2,b2o,b2c,b2r,b2k,b2f⟩:=aH.at lV bD ex2
 obtain rfl:b2c=Enc.enc R:=b2k
 have b2f:AtP ρ b2 b2o [(Iv R)]:=b2f
 refine Vq A O (aO O A O O b2r) fun a A=>Vq A O (aK O A O (fun w F=>aZ aW (b2f.c 0 O w F))) fun a A=>Sq A 2 O fun a A=>?_
 refine jQ fun w D=>?_
 have D:=r3 D
 refine aG (aA ?_)
 refine S A 2 O fun a A=>?_
 obtain⟨x3,ex3,K⟩:=bnd K
 refine V A D O (dQ O A O O (aN ex3)) fun a A=>?_
 obtain⟨x4,ex4,K⟩:=bnd K
 refine V A D O (bF O A O O (aN ex4)) fun a A=>?_
 obtain⟨d,ex5,K⟩:=bnd K
 refine s_tmake (wk0 O) O O A D O (T:=73) (bytes:=24) kr kr O O O ex5 3 ?_
 intro v1 us1 a w A D
 have D:=r4 D
 refine S A 1 O fun a A=>aB (aG ?_)
 refine aG (aA ?_)
 refine S A 1 O fun a A=>V A D O (bW O A O (bM.len D 0 O iE)) fun a A=>S A 1 O fun a A=>aB ?_
 have A:=A.cut (E':=[(0,(Pv bp0 0)),(2,(Iv Q)),(7,(Iv M)),(8,(Iv R)),(9,v1),(32,(Iv (d.length:Int))),(33,(Iv 0))]) ⟨O,O,O,O,O,O,O,tv⟩
 obtain⟨b3,hc1,K⟩:=bnd K
 refine dM (fun a w=>∃(w5:Value) (us5:List Sl),Env 226 [(9,w5)] a∧Hp Z ρ (bM 73 3 w5 us5 (b3:(List (List Int)))::Pt bp0 (.cells #[dA,dB,bY,dC,dD,bZ,dO,dW,dP,dX,bU,dL,fD] 88 (0,0))::aC 3 dL I.partner::aC 3 fD I.back::L) w) ?_ ?_
 ·refine eQ hc1 (fun s a w=>∃(w5:Value) (us5:List Sl),Env 226 [(0,(Pv bp0 0)),(2,(Iv Q)),(7,(Iv M)),(8,(Iv R)),(9,w5),(32,(Iv (d.length:Int))),(33,(Iv s.1))] a∧Hp Z ρ (bM 73 3 w5 us5 (s.2:(List (List Int)))::Pt bp0 (.cells #[dA,dB,bY,dC,dD,bZ,dO,dW,dP,dX,bU,dL,fD] 88 (0,0))::aC 3 dL I.partner::aC 3 fD I.back::L) w) ?_ ?_
  ·exact⟨_,_,A.cut ⟨O,O,O,O,O,O,O,tv⟩,D⟩
  rintro⟨aQ,aU⟩ st a w ⟨w5,us5,A,D⟩ H
  dsimp only at A D H
  unfold kT at H
  refine aG (aA ?_)
  refine S A 1 O fun a A=>aB (aG ?_)
  refine dK A O (fun hc2=>?_) (fun hc2=>?_)
  ·replace H:=(it hc2).symm.trans H
   refine bI (aG ?_)
   refine dN (aG ?_)
   refine aA (S A 2 O fun a A=>?_)
   refine aB (aG ?_)
   refine aA (S A 4 O fun a A=>?_)
   obtain⟨x6,ex6,H⟩:=bnd H
   refine V A D O (dQ O A O O (aN ex6)) fun a A=>?_
   obtain⟨x7,ex7,H⟩:=bnd H
   refine V A D O (bF O A O O (aN ex7)) fun a A=>?_
   obtain⟨x8,ex8,H⟩:=bnd H
   refine aM4 (wk0 O) O O A D O (El:=3) (bytes:=8) kr (0:Int) kr kr O O ex8 ?_
   intro v2 a w A D
   have D:=r5 D
   obtain⟨x9,ex9,H⟩:=bnd H
   obtain⟨b4u,b4,b4o,b4h,b4r,b4v,b4f⟩:=bM.hdr D 1 O iE ex9
   refine V A D O (aO O A O O b4r) fun a A=>?_
   obtain⟨sl1,sl1e⟩:=aC.toSl D 0 O
   refine s_tput (wk0 O) O A sl1e (D.get 0 O) O O O 0 O b4h ex9 b4v aT.size_ ?_
   intro w D
   have D:=r4 D
   refine aB ?_
   have A:=A.cut (E':=[(0,(Pv bp0 0)),(2,(Iv Q)),(7,(Iv M)),(8,(Iv R)),(9,w5),(10,(Iv aQ)),(32,(Iv (d.length:Int))),(33,(Iv aQ))]) ⟨O,O,O,O,O,O,O,O,tv⟩
   refine aG (aA ?_)
   refine S A 2 O fun a A=>?_
   obtain⟨U,n,H⟩:=bnd H
   obtain⟨b5u,b5,b5o,b5h,b5r,b5v,b5f⟩:=bM.hdr D 0 O iE n
   refine V A D O (aO O A O O b5r) fun a A=>V A D O (aK O A O (fun w F=>aZ aT (b5f 0 _ O _ _ w (F.get 0 O)))) fun a A=>V A D O (bW O A O (bM.rlen D 0 O bD b5h n)) fun a A=>S A 1 O fun a A=>aB ?_
   obtain⟨b6,hc3,H⟩:=bnd H
   refine dM (fun a w=>Env 226 [(0,(Pv bp0 0)),(2,(Iv Q)),(7,(Iv M)),(8,(Iv R)),(9,w5),(32,(Iv (d.length:Int))),(33,(Iv aQ))] a∧Hp Z ρ (bM 73 3 w5 (us5.set aQ.toNat sl1) (b6:(List (List Int)))::Pt bp0 (.cells #[dA,dB,bY,dC,dD,bZ,dO,dW,dP,dX,bU,dL,fD] 88 (0,0))::aC 3 dL I.partner::aC 3 fD I.back::L) w) ?_ ?_
   ·refine eQ hc3 (fun s a w=>Env 226 [(0,(Pv bp0 0)),(2,(Iv Q)),(7,(Iv M)),(8,(Iv R)),(9,w5),(10,(Iv aQ)),(32,(Iv (d.length:Int))),(33,(Iv aQ)),(48,(Iv (U.length:Int))),(49,(Iv s.1))] a∧Hp Z ρ (bM 73 3 w5 (us5.set aQ.toNat sl1) (s.2:(List (List Int)))::Pt bp0 (.cells #[dA,dB,bY,dC,dD,bZ,dO,dW,dP,dX,bU,dL,fD] 88 (0,0))::aC 3 dL I.partner::aC 3 fD I.back::L) w) ?_ ?_
    ·exact⟨A.cut ⟨O,O,O,O,O,O,O,O,O,O,tv⟩,D⟩
    rintro⟨bP,eP⟩ st a w ⟨A,D⟩ B
    dsimp only at A D B
    unfold jA at B
    refine aG (aA ?_)
    refine S A 1 O fun a A=>aB (aG ?_)
    refine dK A O (fun hc4=>?_) (fun hc4=>?_)
    ·replace B:=(it hc4).symm.trans B
     refine bI (aG ?_)
     refine dN (aG ?_)
     refine aA (S A 2 O fun a A=>?_)
     refine aB (dN ?_)
     refine aG (aA ?_)
     refine S A 3 O fun a A=>?_
     refine jI [_,_,_] (fun a w=>Env 226 [(141,(.bool ((decide (aQ=0))||(decide (bP=0))))),(0,(Pv bp0 0)),(2,(Iv Q)),(7,(Iv M)),(8,(Iv R)),(9,w5),(10,(Iv aQ)),(11,(Iv bP)),(32,(Iv (d.length:Int))),(33,(Iv aQ)),(48,(Iv (U.length:Int))),(49,(Iv bP))] a∧Hp Z ρ (bM 73 3 w5 (us5.set aQ.toNat sl1) (eP:(List (List Int)))::Pt bp0 (.cells #[dA,dB,bY,dC,dD,bZ,dO,dW,dP,dX,bU,dL,fD] 88 (0,0))::aC 3 dL I.partner::aC 3 fD I.back::L) w) ?_ ?_
     ·rcases vA (decide (aQ=0)) with J|J
      ·
       refine Gk A J O fun a A=>Gk A J O fun a A=>pk1 A J O O O O fun a A=>?_
       have A:=A.eqv (v':=(.bool ((decide (aQ=0))||(decide (bP=0))))) (by rw[J];rfl)
       exact aB ⟨A.cut ⟨O,O,O,O,O,O,O,O,O,O,O,O,tv⟩,D⟩
      refine Gs A J O O fun a A=>Gs A J O O fun a A=>pk0 A J O O O O fun a A=>?_
      have A:=A.eqv (v':=(.bool ((decide (aQ=0))||(decide (bP=0))))) (by rw[J];rfl)
      exact aB ⟨A.cut ⟨O,O,O,O,O,O,O,O,O,O,O,O,tv⟩,D⟩
     rintro a w ⟨A,D⟩
     refine S A 1 O fun a A=>aB ?_
     refine dK A O (fun hc6=>?_) (fun hc6=>?_)
     ·replace B:=(it hc6).symm.trans B
      refine aA (S A 2 O fun a A=>?_)
      obtain⟨x11,Y,B⟩:=bnd B
      obtain⟨b7u,b7,b7o,b7h,b7r,b7v,b7f⟩:=bM.hdr D 0 O iE Y
      refine V A D O (aO O A O O b7r) fun a A=>V A D O (aK O A O (fun w F=>aZ aT (b7f 0 _ O _ _ w (F.get 0 O)))) fun a A=>S A 3 O fun a A=>?_
      obtain⟨x12,ex12,B⟩:=bnd B
      refine V A D O (bF O A O O (aN ex12)) fun a A=>?_
      obtain⟨x13,m,B⟩:=bnd B
      obtain⟨b8,b8o,b8r,b8v,b8f⟩:=bM.at D 0 O bD b7h Y m
      refine V A D O (aO O A O O b8r) fun a A=>?_
      refine yA (wk0 O) O A D O O O 0 O b7h Y m b8v 0 (e':=x12) aW.size_ O O O ⟨O,O⟩ ?_
      intro w D
      have D:=r4 D
      refine aB (aA ?_)
      obtain⟨x14,ex14,B⟩:=bnd B
      refine V A D O (bF O A O O (aN ex14)) fun a A=>S A 1 O fun a A=>aB ?_
      exact⟨_,(oj B).symm,A.cut ⟨O,O,O,O,O,O,O,O,O,O,tv⟩,D⟩
     replace B:=(ie hc6).symm.trans B
     refine aG (aA ?_)
     refine S A 2 O fun a A=>V A D O (xf A J6 O O) fun a A=>V A D O (xl A aT 1 O O O O) fun a A=>S A 2 O fun a A=>?_
     obtain⟨x15,ex15,B⟩:=bnd B
     refine V A D O (bF O A O O (aN ex15)) fun a A=>?_
     obtain⟨x16,ex16,B⟩:=bnd B
     refine V A D O (dQ O A O O (aN ex16)) fun a A=>?_
     obtain⟨y,ex17,B⟩:=bnd B
     obtain⟨b9,b9o,b9c,b9r,b9k,b9f⟩:=aH.at lU bD ex17
     obtain rfl:b9c=Enc.enc y:=b9k
     have b9f:AtP ρ b9 b9o [(Iv y)]:=b9f
     refine V A D O (aO O A O O b9r) fun a A=>V A D O (aK O A O (fun w F=>aZ aW (b9f.c 0 O w F))) fun a A=>S A 3 O fun a A=>?_
     obtain⟨m1,hg1,B⟩:=bnd B
     refine jI [_,_,_,_,_,_,_,_,_,_,_,_,_] (fun a w=>Env 226 [(177,(.bool m1)),(0,(Pv bp0 0)),(2,(Iv Q)),(7,(Iv M)),(8,(Iv R)),(9,w5),(10,(Iv aQ)),(11,(Iv bP)),(32,(Iv (d.length:Int))),(33,(Iv aQ)),(48,(Iv (U.length:Int))),(49,(Iv bP))] a∧Hp Z ρ (bM 73 3 w5 (us5.set aQ.toNat sl1) (eP:(List (List Int)))::Pt bp0 (.cells #[dA,dB,bY,dC,dD,bZ,dO,dW,dP,dX,bU,dL,fD] 88 (0,0))::aC 3 dL I.partner::aC 3 fD I.back::L) w) ?_ ?_
     ·rcases vA (decide (y=M)) with E|E
      ·
       replace hg1:=(it E).symm.trans hg1
       refine Gs A E O O fun a A=>Gs A E O O fun a A=>G A D E O (xf A J7 O O) fun a A=>G A D E O (xl A aT 1 O O O O) fun a A=>Gs A E O O fun a A=>Gs A E O O fun a A=>?_
       obtain⟨x18,ex18,hg1⟩:=bnd hg1
       refine G A D E O (bF O A O O (aN ex18)) fun a A=>?_
       obtain⟨x19,ex19,hg1⟩:=bnd hg1
       refine G A D E O (dQ O A O O (aN ex19)) fun a A=>?_
       obtain⟨x20,ex20,hg1⟩:=bnd hg1
       obtain⟨b10,b10o,b10c,b10r,b10k,b10f⟩:=aH.at lV bD ex20
       obtain rfl:b10c=Enc.enc x20:=b10k
       have b10f:AtP ρ b10 b10o [(Iv x20)]:=b10f
       refine G A D E O (aO O A O O b10r) fun a A=>G A D E O (aK O A O (fun w F=>aZ aW (b10f.c 0 O w F))) fun a A=>Gs A E O O fun a A=>Gs A E O O fun a A=>pk1 A E O O O O fun a A=>?_
       obtain rfl:=oj hg1
       exact aB ⟨A.cut ⟨O,O,O,O,O,O,O,O,O,O,O,O,tv⟩,D⟩
      replace hg1:=(ie E).symm.trans hg1
      refine Gk A E O fun a A=>Gk A E O fun a A=>Gk A E O fun a A=>Gk A E O fun a A=>Gk A E O fun a A=>Gk A E O fun a A=>Gk A E O fun a A=>Gk A E O fun a A=>Gk A E O fun a A=>Gk A E O fun a A=>Gk A E O fun a A=>Gk A E O fun a A=>pk0 A E O O O O fun a A=>?_
      obtain rfl:=oj hg1
      exact aB ⟨A.cut ⟨O,O,O,O,O,O,O,O,O,O,O,O,tv⟩,D⟩
     rintro a w ⟨A,D⟩
     refine S A 1 O fun a A=>aB ?_
     refine dK A O (fun z=>?_) (fun z=>?_)
     ·replace B:=(it z).symm.trans B
      obtain⟨x21,X,B⟩:=bnd B
      obtain⟨x22,ex22,B⟩:=bnd B
      obtain⟨x23,l,B⟩:=bnd B
      obtain⟨x24,ex24,B⟩:=bnd B
      obtain⟨x,ex25,B⟩:=bnd B
      obtain⟨x26,k,B⟩:=bnd B
      obtain⟨x27,ex27,B⟩:=bnd B
      obtain⟨x28,ex28,B⟩:=bnd B
      obtain⟨u,ex29,B⟩:=bnd B
      obtain⟨x30,ex30,B⟩:=bnd B
      obtain⟨x31,j,B⟩:=bnd B
      obtain⟨x32,ex32,B⟩:=bnd B
      obtain⟨x33,ex33,B⟩:=bnd B
      obtain⟨x34,ex34,B⟩:=bnd B
      obtain⟨x35,ex35,B⟩:=bnd B
      obtain⟨x36,ex36,B⟩:=bnd B
      obtain⟨x37,ex37,B⟩:=bnd B
      obtain⟨x38,ex38,B⟩:=bnd B
      obtain⟨t,ex39,B⟩:=bnd B
      obtain⟨x40,i,B⟩:=bnd B
      have D:=D.drew
      refine gK ([([],At0 Z ρ),([45],At1 Z ρ (bM 73 3 w5 (us5.set aQ.toNat sl1) (eP:(List (List Int)))))]:Facts) (fun a w=>Env 226 [(0,(Pv bp0 0)),(2,(Iv Q)),(7,(Iv M)),(8,(Iv R)),(9,w5),(10,(Iv aQ)),(32,(Iv (d.length:Int))),(33,(Iv aQ)),(48,(Iv (U.length:Int))),(49,(Iv bP))] a∧Hp Z ρ (Pt bp0 (.cells #[dA,dB,bY,dC,dD,bZ,dO,dW,dP,dX,bU,dL,fD] 88 (0,0))::aC 3 dL I.partner::aC 3 fD I.back::bM 73 3 w5 (us5.set aQ.toNat sl1) (eP.set aQ.toNat (x21.set bP.toNat (min (min x u) t)):(List (List Int)))::L) w) kr ⟨fun _=>⟨_,D⟩,fun _=>⟨_,(D.get 0 O)⟩,tv⟩ (fun C=>?_) ?_
      ·
       generalize w.drew=w at C D⊢
       refine Ts [0,1] A C O O kr fun a A C=>?_
       obtain⟨b19u,b19,b19o,b19h,b19r,b19v,b19f⟩:=bM.hdr D 0 O iE X
       refine T0 2 A C O O O kr (fun _=>aO O A O O b19r) fun a A C=>T 3 1 A C O O O kr (fun _=>aK O A O (fun w F=>aZ aT (b19f 0 _ O _ _ w (F.get 0 O)))) fun a A C=>Ts [4,5,6] A C O O kr fun a A C=>T0 7 A C O O O kr (fun _=>dQ O A O O (aN ex22)) fun a A C=>?_
       obtain⟨b20u,b20,b20o,b20h,b20r,b20v,b20f⟩:=bM.hdr D 0 O iE l
       refine T0 8 A C O O O kr (fun _=>aO O A O O b20r) fun a A C=>T 9 1 A C O O O kr (fun _=>aK O A O (fun w F=>aZ aT (b20f 0 _ O _ _ w (F.get 0 O)))) fun a A C=>Ts [10] A C O O kr fun a A C=>?_
       obtain⟨b21,b21o,b21r,b21v,b21f⟩:=bM.at D 0 O bD b20h l ex24
       refine T0 11 A C O O O kr (fun _=>aO O A O O b21r) fun a A C=>T 12 1 A C O O O kr (fun _=>aK O A O (fun w F=>aZ aW (b21f 0 _ O _ _ w (F.get 0 O)))) fun a A C=>T0 13 A C O O O kr (fun _=>bF O A O O (aN ex25)) fun a A C=>Ts [14,15] A C O O kr fun a A C=>?_
       obtain⟨b22u,b22,b22o,b22h,b22r,b22v,b22f⟩:=bM.hdr D 0 O iE k
       refine T0 16 A C O O O kr (fun _=>aO O A O O b22r) fun a A C=>T 17 1 A C O O O kr (fun _=>aK O A O (fun w F=>aZ aT (b22f 0 _ O _ _ w (F.get 0 O)))) fun a A C=>Ts [18] A C O O kr fun a A C=>T0 19 A C O O O kr (fun _=>dQ O A O O (aN ex27)) fun a A C=>?_
       obtain⟨b23,b23o,b23r,b23v,b23f⟩:=bM.at D 0 O bD b22h k ex28
       refine T0 20 A C O O O kr (fun _=>aO O A O O b23r) fun a A C=>T 21 1 A C O O O kr (fun _=>aK O A O (fun w F=>aZ aW (b23f 0 _ O _ _ w (F.get 0 O)))) fun a A C=>T0 22 A C O O O kr (fun _=>bF O A O O (aN ex29)) fun a A C=>Ts [23,24] A C O O kr fun a A C=>T0 25 A C O O O kr (fun _=>dQ O A O O (aN ex30)) fun a A C=>?_
       obtain⟨b24u,b24,b24o,b24h,b24r,b24v,b24f⟩:=bM.hdr D 0 O iE j
       refine T0 26 A C O O O kr (fun _=>aO O A O O b24r) fun a A C=>T 27 1 A C O O O kr (fun _=>aK O A O (fun w F=>aZ aT (b24f 0 _ O _ _ w (F.get 0 O)))) fun a A C=>Ts [28] A C O O kr fun a A C=>T0 29 A C O O O kr (fun _=>dQ O A O O (aN ex32)) fun a A C=>?_
       obtain⟨b25,b25o,b25r,b25v,b25f⟩:=bM.at D 0 O bD b24h j ex33
       refine T0 30 A C O O O kr (fun _=>aO O A O O b25r) fun a A C=>T 31 1 A C O O O kr (fun _=>aK O A O (fun w F=>aZ aW (b25f 0 _ O _ _ w (F.get 0 O)))) fun a A C=>Ts [32,33,34] A C O O kr fun a A C=>T0 35 A C O O O kr (fun _=>bF O A O O (aN ex34)) fun a A C=>T0 36 A C O O O kr (fun _=>dQ O A O O (aN ex35)) fun a A C=>Ts [37,38] A C O O kr fun a A C=>T0 39 A C O O O kr (fun _=>bF O A O O (aN ex36)) fun a A C=>T0 40 A C O O O kr (fun _=>dQ O A O O (aN ex37)) fun a A C=>?_
       refine W1 41 kr O ?_
       refine Cl A O O ent72 (D7 bp0 I dA nJ dB oK bY lS dC nK dD oL bZ lT dO lI dW lU dP lJ dX lV bU jJ dL fD x35 x37 (((D.get 3 O).get 3 O).get 3 O) x38 ex38) ⟨O,O,O,tv⟩ fun v a w hR A=>?_
       obtain⟨rfl,D⟩:=hR
       have D:=r4 D
       refine aB (aF ⟨gp0 D,gp 3 D O,tv⟩ fun C=>?_)
       refine T0 42 A C O O O kr (fun _=>bF O A O O (aN ex39)) fun a A C=>T0 43 A C O O O kr (v:=(Iv (min (min x u) t))) (fun _=>ex_min3 O A O O O) fun a A C=>?_
       obtain⟨b26,b26o,b26r,b26v,b26f⟩:=bM.at D 3 O bD b19h X i
       refine T0 44 A C O O O kr (fun _=>aO O A O O b26r) fun a A C=>?_
       refine W1 45 kr O ?_
       refine yA (wk0 O) O A D O O O 3 O b19h X i b26v 0 (e':=min (min x u) t) aW.size_ O O O ⟨O,O⟩ ?_
       intro w D
       have D:=r4 D
       refine aB (aF ⟨gp0 D,dead kr,tv⟩ fun C=>?_)
       exact bT kr ⟨A.cut ⟨O,O,O,O,O,O,O,O,O,O,tv⟩,D⟩
      rintro a w ⟨A,D⟩
      refine aA ?_
      obtain⟨x41,ex41,B⟩:=bnd B
      refine V A D O (bF O A O O (aN ex41)) fun a A=>S A 1 O fun a A=>aB ?_
      exact⟨_,(oj B).symm,A.cut ⟨O,O,O,O,O,O,O,O,O,O,tv⟩,((((D.get 2 O).get 2 O).get 2 O).get 3 O)⟩
     replace B:=(ie z).symm.trans B
     obtain⟨x42,W,B⟩:=bnd B
     obtain⟨x43,ex43,B⟩:=bnd B
     obtain⟨x44,h,B⟩:=bnd B
     obtain⟨x45,ex45,B⟩:=bnd B
     obtain⟨q,ex46,B⟩:=bnd B
     obtain⟨x47,g,B⟩:=bnd B
     obtain⟨x48,ex48,B⟩:=bnd B
     obtain⟨x49,ex49,B⟩:=bnd B
     obtain⟨p,ex50,B⟩:=bnd B
     obtain⟨x51,ex51,B⟩:=bnd B
     obtain⟨x52,ex52,B⟩:=bnd B
     obtain⟨x53,ex53,B⟩:=bnd B
     obtain⟨x54,ex54,B⟩:=bnd B
     obtain⟨x55,f,B⟩:=bnd B
     obtain⟨x56,ex56,B⟩:=bnd B
     obtain⟨x57,ex57,B⟩:=bnd B
     obtain⟨x58,ex58,B⟩:=bnd B
     obtain⟨x59,ex59,B⟩:=bnd B
     obtain⟨x60,ex60,B⟩:=bnd B
     obtain⟨x61,ex61,B⟩:=bnd B
     obtain⟨x62,ex62,B⟩:=bnd B
     obtain⟨x63,ex63,B⟩:=bnd B
     obtain⟨x64,ex64,B⟩:=bnd B
     obtain⟨x65,ex65,B⟩:=bnd B
     obtain⟨x66,ex66,B⟩:=bnd B
     obtain⟨x67,ex67,B⟩:=bnd B
     obtain⟨x68,ex68,B⟩:=bnd B
     obtain⟨o,ex69,B⟩:=bnd B
     obtain⟨x70,e,B⟩:=bnd B
     have D:=D.drew
     refine gK ([([],At0 Z ρ),([83],At1 Z ρ (bM 73 3 w5 (us5.set aQ.toNat sl1) (eP:(List (List Int))))),([],At1 Z ρ (Pt bp0 (.cells #[dA,dB,bY,dC,dD,bZ,dO,dW,dP,dX,bU,dL,fD] 88 (0,0))))]:Facts) (fun a w=>Env 226 [(0,(Pv bp0 0)),(2,(Iv Q)),(7,(Iv M)),(8,(Iv R)),(9,w5),(10,(Iv aQ)),(32,(Iv (d.length:Int))),(33,(Iv aQ)),(48,(Iv (U.length:Int))),(49,(Iv bP))] a∧Hp Z ρ (bM 73 3 w5 (us5.set aQ.toNat sl1) (eP.set aQ.toNat (x42.set bP.toNat (min (min q p) o)):(List (List Int)))::Pt bp0 (.cells #[dA,dB,bY,dC,dD,bZ,dO,dW,dP,dX,bU,dL,fD] 88 (0,0))::aC 3 dL I.partner::aC 3 fD I.back::L) w) kr ⟨fun _=>⟨_,D⟩,fun _=>⟨_,(D.get 0 O)⟩,fun _=>⟨_,(D.get 1 O)⟩,tv⟩ (fun C=>?_) ?_
     ·
      generalize w.drew=w at C D⊢
      refine Ts [0,1] A C O O kr fun a A C=>?_
      obtain⟨b41u,b41,b41o,b41h,b41r,b41v,b41f⟩:=bM.hdr D 0 O iE W
      refine T0 2 A C O O O kr (fun _=>aO O A O O b41r) fun a A C=>T 3 1 A C O O O kr (fun _=>aK O A O (fun w F=>aZ aT (b41f 0 _ O _ _ w (F.get 0 O)))) fun a A C=>Ts [4,5,6] A C O O kr fun a A C=>T0 7 A C O O O kr (fun _=>dQ O A O O (aN ex43)) fun a A C=>?_
      obtain⟨b42u,b42,b42o,b42h,b42r,b42v,b42f⟩:=bM.hdr D 0 O iE h
      refine T0 8 A C O O O kr (fun _=>aO O A O O b42r) fun a A C=>T 9 1 A C O O O kr (fun _=>aK O A O (fun w F=>aZ aT (b42f 0 _ O _ _ w (F.get 0 O)))) fun a A C=>Ts [10] A C O O kr fun a A C=>?_
      obtain⟨b43,b43o,b43r,b43v,b43f⟩:=bM.at D 0 O bD b42h h ex45
      refine T0 11 A C O O O kr (fun _=>aO O A O O b43r) fun a A C=>T 12 1 A C O O O kr (fun _=>aK O A O (fun w F=>aZ aW (b43f 0 _ O _ _ w (F.get 0 O)))) fun a A C=>T0 13 A C O O O kr (fun _=>bF O A O O (aN ex46)) fun a A C=>Ts [14,15] A C O O kr fun a A C=>?_
      obtain⟨b44u,b44,b44o,b44h,b44r,b44v,b44f⟩:=bM.hdr D 0 O iE g
      refine T0 16 A C O O O kr (fun _=>aO O A O O b44r) fun a A C=>T 17 1 A C O O O kr (fun _=>aK O A O (fun w F=>aZ aT (b44f 0 _ O _ _ w (F.get 0 O)))) fun a A C=>Ts [18] A C O O kr fun a A C=>T0 19 A C O O O kr (fun _=>dQ O A O O (aN ex48)) fun a A C=>?_
      obtain⟨b45,b45o,b45r,b45v,b45f⟩:=bM.at D 0 O bD b44h g ex49
      refine T0 20 A C O O O kr (fun _=>aO O A O O b45r) fun a A C=>T 21 1 A C O O O kr (fun _=>aK O A O (fun w F=>aZ aW (b45f 0 _ O _ _ w (F.get 0 O)))) fun a A C=>T0 22 A C O O O kr (fun _=>bF O A O O (aN ex50)) fun a A C=>Ts [23,24,25] A C O O kr fun a A C=>T0 26 A C O O O kr (fun _=>xf A J6 O O) fun a A C=>T 27 2 A C O O O kr (fun _=>xl A aT 0 O O O O) fun a A C=>Ts [28,29] A C O O kr fun a A C=>T0 30 A C O O O kr (fun _=>bF O A O O (aN ex51)) fun a A C=>T0 31 A C O O O kr (fun _=>dQ O A O O (aN ex52)) fun a A C=>?_
      obtain⟨b46,b46o,b46c,b46r,b46k,b46f⟩:=aH.at lU bD ex53
      obtain rfl:b46c=Enc.enc x53:=b46k
      have b46f:AtP ρ b46 b46o [(Iv x53)]:=b46f
      refine T0 32 A C O O O kr (fun _=>aO O A O O b46r) fun a A C=>T0 33 A C O O O kr (fun _=>aK O A O (fun w F=>aZ aW (b46f.c 0 O w F))) fun a A C=>Ts [34] A C O O kr fun a A C=>T0 35 A C O O O kr (fun _=>dQ O A O O (aN ex54)) fun a A C=>?_
      obtain⟨b47u,b47,b47o,b47h,b47r,b47v,b47f⟩:=bM.hdr D 0 O iE f
      refine T0 36 A C O O O kr (fun _=>aO O A O O b47r) fun a A C=>T 37 1 A C O O O kr (fun _=>aK O A O (fun w F=>aZ aT (b47f 0 _ O _ _ w (F.get 0 O)))) fun a A C=>Ts [38,39] A C O O kr fun a A C=>T0 40 A C O O O kr (fun _=>xf A J7 O O) fun a A C=>T 41 2 A C O O O kr (fun _=>xl A aT 0 O O O O) fun a A C=>Ts [42,43] A C O O kr fun a A C=>T0 44 A C O O O kr (fun _=>bF O A O O (aN ex56)) fun a A C=>T0 45 A C O O O kr (fun _=>dQ O A O O (aN ex57)) fun a A C=>?_
      obtain⟨b48,b48o,b48c,b48r,b48k,b48f⟩:=aH.at lV bD ex58
      obtain rfl:b48c=Enc.enc x58:=b48k
      have b48f:AtP ρ b48 b48o [(Iv x58)]:=b48f
      refine T0 46 A C O O O kr (fun _=>aO O A O O b48r) fun a A C=>T0 47 A C O O O kr (fun _=>aK O A O (fun w F=>aZ aW (b48f.c 0 O w F))) fun a A C=>Ts [48] A C O O kr fun a A C=>T0 49 A C O O O kr (fun _=>dQ O A O O (aN ex59)) fun a A C=>?_
      obtain⟨b49,b49o,b49r,b49v,b49f⟩:=bM.at D 0 O bD b47h f ex60
      refine T0 50 A C O O O kr (fun _=>aO O A O O b49r) fun a A C=>T 51 1 A C O O O kr (fun _=>aK O A O (fun w F=>aZ aW (b49f 0 _ O _ _ w (F.get 0 O)))) fun a A C=>Ts [52,53] A C O O kr fun a A C=>T0 54 A C O O O kr (fun _=>xf A fldty88_6 O O) fun a A C=>T 55 2 A C O O O kr (fun _=>xl A varty83 0 O O O O) fun a A C=>Ts [56,57] A C O O kr fun a A C=>T0 58 A C O O O kr (fun _=>xf A Y0 O O) fun a A C=>T 59 2 A C O O O kr (fun _=>xl A aT 0 O O O O) fun a A C=>Ts [60,61] A C O O kr fun a A C=>T0 62 A C O O O kr (fun _=>bF O A O O (aN ex61)) fun a A C=>T0 63 A C O O O kr (fun _=>dQ O A O O (aN ex62)) fun a A C=>?_
      obtain⟨b50,b50o,b50c,b50r,b50k,b50f⟩:=aH.at lI bD ex63
      obtain rfl:b50c=Enc.enc x63:=b50k
      have b50f:AtP ρ b50 b50o [(Iv x63)]:=b50f
      refine T0 64 A C O O O kr (fun _=>aO O A O O b50r) fun a A C=>T0 65 A C O O O kr (fun _=>aK O A O (fun w F=>aZ aW (b50f.c 0 O w F))) fun a A C=>?_
      obtain⟨b51,b51o,b51c,b51r,b51k,b51f⟩:=aH.at jJ iE ex64
      obtain⟨vb51,rfl,hb51⟩:=b51k
      have b51f:AtP ρ b51 b51o [vb51]:=b51f
      refine T0 66 A C O O O kr (fun _=>aO O A O O b51r) fun a A C=>T0 67 A C O O O kr (fun _=>aK O A O (fun w F=>aZ aT (b51f.c 0 O w F))) fun a A C=>Ts [68,69] A C O O kr fun a A C=>T0 70 A C O O O kr (fun _=>xf A Y1 O O) fun a A C=>T 71 2 A C O O O kr (fun _=>xl A aT 0 O O O O) fun a A C=>Ts [72,73] A C O O kr fun a A C=>T0 74 A C O O O kr (fun _=>bF O A O O (aN ex65)) fun a A C=>T0 75 A C O O O kr (fun _=>dQ O A O O (aN ex66)) fun a A C=>?_
      obtain⟨b52,b52o,b52c,b52r,b52k,b52f⟩:=aH.at lJ bD ex67
      obtain rfl:b52c=Enc.enc x67:=b52k
      have b52f:AtP ρ b52 b52o [(Iv x67)]:=b52f
      refine T0 76 A C O O O kr (fun _=>aO O A O O b52r) fun a A C=>T0 77 A C O O O kr (fun _=>aK O A O (fun w F=>aZ aW (b52f.c 0 O w F))) fun a A C=>?_
      obtain⟨b53,b53o,b53c,b53r,b53k,b53f⟩:=aH.at hb51 bD ex68
      obtain rfl:b53c=Enc.enc x68:=b53k
      have b53f:AtP ρ b53 b53o [(Iv x68)]:=b53f
      refine T0 78 A C O O O kr (fun _=>aO O A O O b53r) fun a A C=>T0 79 A C O O O kr (fun _=>aK O A O (fun w F=>aZ aW (b53f.c 0 O w F))) fun a A C=>T0 80 A C O O O kr (fun _=>bF O A O O (aN ex69)) fun a A C=>T0 81 A C O O O kr (v:=(Iv (min (min q p) o))) (fun _=>ex_min3 O A O O O) fun a A C=>?_
      obtain⟨b54,b54o,b54r,b54v,b54f⟩:=bM.at D 0 O bD b41h W e
      refine T0 82 A C O O O kr (fun _=>aO O A O O b54r) fun a A C=>?_
      refine W1 83 kr O ?_
      refine yA (wk0 O) O A D O O O 0 O b41h W e b54v 0 (e':=min (min q p) o) aW.size_ O O O ⟨O,O⟩ ?_
      intro w D
      have D:=r4 D
      refine aB (aF ⟨gp0 D,dead kr,gp 1 D O,tv⟩ fun C=>?_)
      exact bT kr ⟨A.cut ⟨O,O,O,O,O,O,O,O,O,O,tv⟩,D⟩
     rintro a w ⟨A,D⟩
     refine aA ?_
     obtain⟨x71,ex71,B⟩:=bnd B
     refine V A D O (bF O A O O (aN ex71)) fun a A=>S A 1 O fun a A=>aB ?_
     exact⟨_,(oj B).symm,A.cut ⟨O,O,O,O,O,O,O,O,O,O,tv⟩,D⟩
    replace B:=(ie hc4).symm.trans B
    refine dZ ?_
    refine⟨_,(oj B).symm,fun hbb=>?_⟩
    subst hbb
    exact⟨A.cut ⟨O,O,O,O,O,O,O,tv⟩,D⟩
   rintro a w ⟨A,D⟩
   refine aA ?_
   obtain⟨x72,ex72,H⟩:=bnd H
   refine V A D O (bF O A O O (aN ex72)) fun a A=>S A 1 O fun a A=>aB ?_
   exact⟨_,(oj H).symm,_,_,A.cut ⟨O,O,O,O,O,O,O,tv⟩,D⟩
  replace H:=(ie hc2).symm.trans H
  refine dZ ?_
  refine⟨_,(oj H).symm,fun hbb=>?_⟩
  subst hbb
  exact⟨_,_,A.cut ⟨O,tv⟩,D⟩
 rintro a w ⟨w5,us5,A,D⟩
 refine aG (aA ?_)
 refine S A 2 O fun a A=>aB (cZ ?_)
 obtain rfl:=oj K
 exact gY A O O ⟨_,O,_,_,O,D⟩
theorem aC7 (self:Alg→Int→Int→Option Alg) (hself:∀{Z:World} {ρ:PH} {L:List bQ} {w:World} (bp0:Nat) (I:Alg) (dA:Value) (nJ:aH ρ dA I.a.nodes) (dB:Value) (oK:aH ρ dB I.a.sizes) (bY:Value) (lS:aH ρ bY I.a.parent) (dC:Value) (nK:aH ρ dC I.b.nodes) (dD:Value) (oL:aH ρ dD I.b.sizes) (bZ:Value) (lT:aH ρ bZ I.b.parent) (dO:Value) (lI:aH ρ dO I.orderA) (dW:Value) (lU:aH ρ dW I.leftA) (dP:Value) (lJ:aH ρ dP I.orderB) (dX:Value) (lV:aH ρ dX I.leftB) (bU:Value) (jJ:aH ρ bU I.distances) (dL:Value) (fD:Value) (d:Int) (Y:Int) (D:Hp Z ρ (Pt bp0 (.cells #[dA,dB,bY,dC,dD,bZ,dO,dW,dP,dX,bU,dL,fD] 88 (0,0))::aC 3 dL I.partner::aC 3 fD I.back::L) w) (r:Alg) (K:self I d Y=some r),Calls Tryz.prog 51 #[(Pv bp0 0),(Iv d),(Iv Y)] w (Ret fun v w'=>∃(pX:Value) (wH:Value),v= .tuple #[]∧Hp Z ρ (Pt bp0 (.cells #[dA,dB,bY,dC,dD,bZ,dO,dW,dP,dX,bU,pX,wH] 88 (0,0))::aC 3 pX r.partner::aC 3 wH r.back::L) w')) {Z:World} {ρ:PH} {L:List bQ} {w:World} (bp0:Nat) (I:Alg) (dA:Value) (nJ:aH ρ dA I.a.nodes) (dB:Value) (oK:aH ρ dB I.a.sizes) (bY:Value) (lS:aH ρ bY I.a.parent) (dC:Value) (nK:aH ρ dC I.b.nodes) (dD:Value) (oL:aH ρ dD I.b.sizes) (bZ:Value) (lT:aH ρ bZ I.b.parent) (dO:Value) (lI:aH ρ dO I.orderA) (dW:Value) (lU:aH ρ dW I.leftA) (dP:Value) (lJ:aH ρ dP I.orderB) (dX:Value) (lV:aH ρ dX I.leftB) (bU:Value) (jJ:aH ρ bU I.distances) (dL:Value) (fD:Value) (d:Int) (Y:Int) (D:Hp Z ρ (Pt bp0 (.cells #[dA,dB,bY,dC,dD,bZ,dO,dW,dP,dX,bU,dL,fD] 88 (0,0))::aC 3 dL I.partner::aC 3 fD I.back::L) w) (r:Alg) (K:qM self I d Y=some r):
  Calls Tryz.prog 51 #[(Pv bp0 0),(Iv d),(Iv Y)] w (Ret fun v w'=>∃(pX:Value) (wH:Value),v= .tuple #[]∧Hp Z ρ (Pt bp0 (.cells #[dA,dB,bY,dC,dD,bZ,dO,dW,dP,dX,bU,pX,wH] 88 (0,0))::aC 3 pX r.partner::aC 3 wH r.back::L) w'):=by
 refine enter (N:=204) Tryz.func51 O O [(0,(Pv bp0 0)),(1,(Iv d)),(2,(Iv Y))] O (bH ⟨O,O,O,tv⟩) fun a A=>?_
 unfold qM at K
 refine aG ?_
 refine jU kr kr D ?_
 refine Sq A 2 O fun a A=>Vq A O (xf A J6 O O) fun a A=>Vq A O (xl A aT 0 O O O O) fun a A=>Sq A 1 O fun a A=>?_
 obtain⟨Q,ex1,K⟩:=bnd K
 obtain⟨b1,b1o,b1c,b1r,b1k,b1f⟩:=aH.at lU bD ex1
 obtain rfl:b1c=Enc.enc Q:=b1k
 have b1f:AtP ρ b1 b1o [(Iv Q)]:=b1f
 refine Vq A O (aO O A O O b1r) fun a A=>Vq A O (aK O A O (fun w H=>aZ aW (b1f.c 0 O w H))) fun a A=>Sq A 2 O fun a A=>Vq A O (xf A J7 O O) fun a A=>Vq A O (xl A aT 0 O O O O) fun a A=>Sq A 1 O fun a A=>?_
 obtain⟨R,ex2,K⟩:=bnd K
 obtain⟨b2,b2o,b2c,b2r,b2k,b2f⟩:=aH.at lV bD ex2
 obtain rfl:b2c=Enc.enc R:=b2k
 have b2f:AtP ρ b2 b2o [(Iv R)]:=b2f
 refine Vq A O (aO O A O O b2r) fun a A=>Vq A O (aK O A O (fun w H=>aZ aW (b2f.c 0 O w H))) fun a A=>Sq A 2 O fun a A=>?_
 refine jQ fun w D=>?_
 have D:=r3 D
 refine aG (aA ?_)
 refine S A 3 O fun a A=>?_
 obtain⟨X,ex3,K⟩:=bnd K
 refine s_call (wk0 O) O O A O [(Pv bp0 0),(Iv d),(Iv Y)] ⟨O,O,O,tv⟩ ent71 (aE9 bp0 I dA nJ dB oK bY lS dC nK dD oL bZ lT dO lI dW lU dP lJ dX lV bU jJ dL fD d Y (((D.get 2 O).get 2 O).get 2 O) X ex3) Ret.ret ?_
 intro vr1 a w hR A
 obtain⟨u,usr1,rfl,D⟩:=Ret.of hR
 have D:=r4 D
 refine S A 1 O fun a A=>aB (aG ?_)
 refine jU kr kr D ?_
 refine Sq A 1 O fun a A=>Vq A O (bW O A O (bM.len D 0 O iE)) fun a A=>?_
 obtain⟨x4,ex4,K⟩:=bnd K
 refine Vq A O (dQ O A O O (aN ex4)) fun a A=>Sq A 1 O fun a A=>?_
 obtain⟨x5,ex5,K⟩:=bnd K
 obtain⟨b3u,b3,b3o,b3h,b3r,b3v,b3f⟩:=bM.hdr D 0 O iE ex5
 refine Vq A O (aO O A O O b3r) fun a A=>Vq A O (aK O A O (fun w H=>aZ aT (b3f 0 _ O _ _ w (H.get 0 O)))) fun a A=>Vq A O (bW O A O (bM.rlen D 0 O bD b3h ex5)) fun a A=>?_
 obtain⟨x6,ex6,K⟩:=bnd K
 refine Vq A O (dQ O A O O (aN ex6)) fun a A=>Sq A 2 O fun a A=>?_
 refine jQ fun w D=>?_
 have D:=r4 D
 have A:=A.cut (E':=[(0,(Pv bp0 0)),(6,(Iv Q)),(7,(Iv R)),(8,vr1),(9,(Iv x4)),(10,(Iv x6))]) ⟨O,O,O,O,O,O,tv⟩
 obtain⟨b4,hc1,K⟩:=bnd K
 refine dM (fun a w=>∃(w2:Value) (w3:Value),Env 204 [] a∧Hp Z ρ (bM 73 3 vr1 usr1 (X:(List (List Int)))::Pt bp0 (.cells #[dA,dB,bY,dC,dD,bZ,dO,dW,dP,dX,bU,w2,w3] 88 (0,0))::aC 3 w2 b4.1::aC 3 w3 b4.2::L) w) ?_ ?_
 ·refine eQ hc1 (fun s a w=>∃(w2:Value) (w3:Value),Env 204 [(0,(Pv bp0 0)),(6,(Iv Q)),(7,(Iv R)),(8,vr1),(9,(Iv s.1)),(10,(Iv s.2.1))] a∧Hp Z ρ (bM 73 3 vr1 usr1 (X:(List (List Int)))::Pt bp0 (.cells #[dA,dB,bY,dC,dD,bZ,dO,dW,dP,dX,bU,w2,w3] 88 (0,0))::aC 3 w2 s.2.2.1::aC 3 w3 s.2.2.2::L) w) ?_ ?_
  ·exact⟨_,_,A.cut ⟨O,O,O,O,O,O,tv⟩,D⟩
  rintro⟨aQ,aU,dS,fK⟩ st a w ⟨w2,w3,A,D⟩ B
  dsimp only at A D B
  unfold jO at B
  refine aG (aG ?_)
  refine aA (S A 3 O fun a A=>?_)
  refine jI [_,_,_] (fun a w=>Env 204 [(45,(.bool ((decide (0<aQ))&&(decide (0<aU))))),(0,(Pv bp0 0)),(6,(Iv Q)),(7,(Iv R)),(8,vr1),(9,(Iv aQ)),(10,(Iv aU))] a∧Hp Z ρ (bM 73 3 vr1 usr1 (X:(List (List Int)))::Pt bp0 (.cells #[dA,dB,bY,dC,dD,bZ,dO,dW,dP,dX,bU,w2,w3] 88 (0,0))::aC 3 w2 dS::aC 3 w3 fK::L) w) ?_ ?_
  ·rcases vA (decide (0<aQ)) with J|J
   ·
    refine Gs A J O O fun a A=>Gs A J O O fun a A=>pk1 A J O O O O fun a A=>?_
    have A:=A.eqv (v':=(.bool ((decide (0<aQ))&&(decide (0<aU))))) (by rw[J];rfl)
    exact aB ⟨A.cut ⟨O,O,O,O,O,O,O,tv⟩,D⟩
   refine Gk A J O fun a A=>Gk A J O fun a A=>pk0 A J O O O O fun a A=>?_
   have A:=A.eqv (v':=(.bool ((decide (0<aQ))&&(decide (0<aU))))) (by rw[J];rfl)
   exact aB ⟨A.cut ⟨O,O,O,O,O,O,O,tv⟩,D⟩
  rintro a w ⟨A,D⟩
  refine aB ?_
  refine dK A O (fun x=>?_) (fun x=>?_)
  ·replace B:=(it x).symm.trans B
   refine bI (dN ?_)
   refine aG (aA ?_)
   refine S A 2 O fun a A=>?_
   obtain⟨x7,ex7,B⟩:=bnd B
   refine V A D O (bF O A O O (aN ex7)) fun a A=>?_
   obtain⟨y,ex8,B⟩:=bnd B
   refine V A D O (dQ O A O O (aN ex8)) fun a A=>S A 2 O fun a A=>?_
   obtain⟨x9,ex9,B⟩:=bnd B
   refine V A D O (bF O A O O (aN ex9)) fun a A=>?_
   obtain⟨M,ex10,B⟩:=bnd B
   refine V A D O (dQ O A O O (aN ex10)) fun a A=>S A 2 O fun a A=>aB (aG ?_)
   refine aA (S A 2 O fun a A=>?_)
   refine V A D O (xf A J6 O O) fun a A=>V A D O (xl A aT 1 O O O O) fun a A=>S A 1 O fun a A=>?_
   obtain⟨o,ex11,B⟩:=bnd B
   obtain⟨b5,b5o,b5c,b5r,b5k,b5f⟩:=aH.at lU bD ex11
   obtain rfl:b5c=Enc.enc o:=b5k
   have b5f:AtP ρ b5 b5o [(Iv o)]:=b5f
   refine V A D O (aO O A O O b5r) fun a A=>V A D O (aK O A O (fun w H=>aZ aW (b5f.c 0 O w H))) fun a A=>S A 3 O fun a A=>?_
   obtain⟨m1,hg1,B⟩:=bnd B
   refine jI [_,_,_,_,_,_,_,_,_,_] (fun a w=>Env 204 [(73,(.bool m1)),(0,(Pv bp0 0)),(6,(Iv Q)),(7,(Iv R)),(8,vr1),(9,(Iv aQ)),(10,(Iv aU)),(11,(Iv y)),(12,(Iv M))] a∧Hp Z ρ (bM 73 3 vr1 usr1 (X:(List (List Int)))::Pt bp0 (.cells #[dA,dB,bY,dC,dD,bZ,dO,dW,dP,dX,bU,w2,w3] 88 (0,0))::aC 3 w2 dS::aC 3 w3 fK::L) w) ?_ ?_
   ·rcases vA (decide (o=Q)) with F|F
    ·
     replace hg1:=(it F).symm.trans hg1
     refine Gs A F O O fun a A=>Gs A F O O fun a A=>G A D F O (xf A J7 O O) fun a A=>G A D F O (xl A aT 1 O O O O) fun a A=>Gs A F O O fun a A=>?_
     obtain⟨x12,ex12,hg1⟩:=bnd hg1
     obtain⟨b6,b6o,b6c,b6r,b6k,b6f⟩:=aH.at lV bD ex12
     obtain rfl:b6c=Enc.enc x12:=b6k
     have b6f:AtP ρ b6 b6o [(Iv x12)]:=b6f
     refine G A D F O (aO O A O O b6r) fun a A=>G A D F O (aK O A O (fun w H=>aZ aW (b6f.c 0 O w H))) fun a A=>Gs A F O O fun a A=>Gs A F O O fun a A=>pk1 A F O O O O fun a A=>?_
     obtain rfl:=oj hg1
     exact aB ⟨A.cut ⟨O,O,O,O,O,O,O,O,O,tv⟩,D⟩
    replace hg1:=(ie F).symm.trans hg1
    refine Gk A F O fun a A=>Gk A F O fun a A=>Gk A F O fun a A=>Gk A F O fun a A=>Gk A F O fun a A=>Gk A F O fun a A=>Gk A F O fun a A=>Gk A F O fun a A=>Gk A F O fun a A=>pk0 A F O O O O fun a A=>?_
    obtain rfl:=oj hg1
    exact aB ⟨A.cut ⟨O,O,O,O,O,O,O,O,O,tv⟩,D⟩
   rintro a w ⟨A,D⟩
   refine S A 1 O fun a A=>aB (dN ?_)
   refine aG ?_
   obtain⟨m2,hg2,B⟩:=bnd B
   have D:=D.drew
   refine gK ([([],At0 Z ρ),([],At1 Z ρ (bM 73 3 vr1 usr1 (X:(List (List Int)))))]:Facts) (fun a w=>Env 204 [(0,(Pv bp0 0)),(6,(Iv Q)),(7,(Iv R)),(8,vr1),(9,(Iv aQ)),(10,(Iv aU)),(11,(Iv y)),(12,(Iv M)),(96,(.bool m2))] a∧Hp Z ρ (bM 73 3 vr1 usr1 (X:(List (List Int)))::Pt bp0 (.cells #[dA,dB,bY,dC,dD,bZ,dO,dW,dP,dX,bU,w2,w3] 88 (0,0))::aC 3 w2 dS::aC 3 w3 fK::L) w) kr ⟨fun _=>⟨_,D⟩,fun _=>⟨_,(D.get 0 O)⟩,tv⟩ (fun C=>?_) ?_
   ·
    generalize w.drew=w at C D⊢
    refine Ts [0,1] A C O O kr fun a A C=>?_
    rcases vA m1 with E|E
    ·
     have hg2:=(it E).symm.trans hg2
     obtain⟨x13,l,hg2⟩:=bnd hg2
     obtain⟨x14,ex14,hg2⟩:=bnd hg2
     obtain⟨x15,ex15,hg2⟩:=bnd hg2
     obtain⟨x16,k,hg2⟩:=bnd hg2
     obtain⟨x17,ex17,hg2⟩:=bnd hg2
     obtain⟨x18,ex18,hg2⟩:=bnd hg2
     obtain⟨x19,ex19,hg2⟩:=bnd hg2
     obtain⟨x20,ex20,hg2⟩:=bnd hg2
     refine Tg0 2 A E C O O O kr (fun _=>iR O A O) fun a A C=>Tg0 3 A E C O O O kr (fun _=>iR O A O) fun a A C=>?_
     obtain⟨b11u,b11,b11o,b11h,b11r,b11v,b11f⟩:=bM.hdr D 0 O iE l
     refine Tg0 4 A E C O O O kr (fun _=>aO O A O O b11r) fun a A C=>Tg 5 1 A E C O O O kr (fun _=>aK O A O (fun w H=>aZ aT (b11f 0 _ O _ _ w (H.get 0 O)))) fun a A C=>Tg0 6 A E C O O O kr (fun _=>iR O A O) fun a A C=>?_
     obtain⟨b12,b12o,b12r,b12v,b12f⟩:=bM.at D 0 O bD b11h l ex14
     refine Tg0 7 A E C O O O kr (fun _=>aO O A O O b12r) fun a A C=>Tg 8 1 A E C O O O kr (fun _=>aK O A O (fun w H=>aZ aW (b12f 0 _ O _ _ w (H.get 0 O)))) fun a A C=>Tg0 9 A E C O O O kr (fun _=>iR O A O) fun a A C=>Tg0 10 A E C O O O kr (fun _=>iR O A O) fun a A C=>Tg0 11 A E C O O O kr (fun _=>dQ O A O O (aN ex15)) fun a A C=>?_
     obtain⟨b13u,b13,b13o,b13h,b13r,b13v,b13f⟩:=bM.hdr D 0 O iE k
     refine Tg0 12 A E C O O O kr (fun _=>aO O A O O b13r) fun a A C=>Tg 13 1 A E C O O O kr (fun _=>aK O A O (fun w H=>aZ aT (b13f 0 _ O _ _ w (H.get 0 O)))) fun a A C=>Tg0 14 A E C O O O kr (fun _=>iR O A O) fun a A C=>Tg0 15 A E C O O O kr (fun _=>dQ O A O O (aN ex17)) fun a A C=>?_
     obtain⟨b14,b14o,b14r,b14v,b14f⟩:=bM.at D 0 O bD b13h k ex18
     refine Tg0 16 A E C O O O kr (fun _=>aO O A O O b14r) fun a A C=>Tg 17 1 A E C O O O kr (fun _=>aK O A O (fun w H=>aZ aW (b14f 0 _ O _ _ w (H.get 0 O)))) fun a A C=>Tg0 18 A E C O O O kr (fun _=>iR O A O) fun a A C=>Tg0 19 A E C O O O kr (fun _=>iR O A O) fun a A C=>Tg0 20 A E C O O O kr (fun _=>iR O A O) fun a A C=>?_
     refine W1 21 kr O ?_
     refine Cg A E O O ent72 (D7 bp0 (Alg.mk I.a I.b I.orderA I.leftA I.orderB I.leftB I.distances dS fK) dA nJ dB oK bY lS dC nK dD oL bZ lT dO lI dW lU dP lJ dX lV bU jJ w2 w3 y M (((D.get 3 O).get 3 O).get 3 O) x19 ex19) ⟨O,O,O,tv⟩ fun v a w hR A=>?_
     obtain⟨rfl,D⟩:=hR
     have D:=r4 D
     refine aB (aF ⟨gp0 D,gp 3 D O,tv⟩ fun C=>?_)
     refine Tg0 22 A E C O O O kr (fun _=>bF O A O O (aN ex20)) fun a A C=>Tg0 23 A E C O O O kr (fun _=>ex_eql O A O O) fun a A C=>T0 24 A C O O O kr (fun _=>jM O A O E O) fun a A C=>?_
     have A:=A.eqv (v':=(.bool m2)) (congrArg Value.bool (oj hg2))
     refine Ts [25] A C O O kr fun a A C=>?_
     exact bT kr ⟨A.cut ⟨O,O,O,O,O,O,O,O,O,tv⟩,((((D.get 2 O).get 2 O).get 2 O).get 3 O)⟩
    have hg2:=(ie E).symm.trans hg2
    refine Tk 2 A E C O O O kr fun a A C=>Tk 3 A E C O O O kr fun a A C=>Tk 4 A E C O O O kr fun a A C=>Tk 5 A E C O O O kr fun a A C=>Tk 6 A E C O O O kr fun a A C=>Tk 7 A E C O O O kr fun a A C=>Tk 8 A E C O O O kr fun a A C=>Tk 9 A E C O O O kr fun a A C=>Tk 10 A E C O O O kr fun a A C=>Tk 11 A E C O O O kr fun a A C=>Tk 12 A E C O O O kr fun a A C=>Tk 13 A E C O O O kr fun a A C=>Tk 14 A E C O O O kr fun a A C=>Tk 15 A E C O O O kr fun a A C=>Tk 16 A E C O O O kr fun a A C=>Tk 17 A E C O O O kr fun a A C=>Tk 18 A E C O O O kr fun a A C=>Tk 19 A E C O O O kr fun a A C=>Tk 20 A E C O O O kr fun a A C=>Tk 21 A E C O O O kr fun a A C=>Tk 22 A E C O O O kr fun a A C=>Tk 23 A E C O O O kr fun a A C=>T0 24 A C O O O kr (fun _=>iV O A O E O) fun a A C=>?_
    have A:=A.eqv (v':=(.bool m2)) (congrArg Value.bool (oj hg2))
    refine Ts [25] A C O O kr fun a A C=>?_
    exact bT kr ⟨A.cut ⟨O,O,O,O,O,O,O,O,O,tv⟩,D⟩
   rintro a w ⟨A,D⟩
   refine dK A O (fun t=>?_) (fun t=>?_)
   ·replace B:=(it t).symm.trans B
    refine aG ?_
    obtain⟨n,ex21,B⟩:=bnd B
    obtain⟨m,ex22,B⟩:=bnd B
    obtain⟨W,ex23,B⟩:=bnd B
    obtain⟨U,ex24,B⟩:=bnd B
    obtain⟨x25,j,B⟩:=bnd B
    obtain⟨x26,i,B⟩:=bnd B
    have D:=D.drew
    refine gK ([([],At0 Z ρ),([],At1 Z ρ (Pt bp0 (.cells #[dA,dB,bY,dC,dD,bZ,dO,dW,dP,dX,bU,w2,w3] 88 (0,0))))]:Facts) (fun a w=>Env 204 [(0,(Pv bp0 0)),(6,(Iv Q)),(7,(Iv R)),(8,vr1),(9,(Iv aQ)),(10,(Iv aU))] a∧Hp Z ρ (bM 73 3 vr1 usr1 (X:(List (List Int)))::Pt bp0 (.cells #[dA,dB,bY,dC,dD,bZ,dO,dW,dP,dX,bU,w2,w3] 88 (0,0))::aC 3 w2 (dS.set n.toNat W)::aC 3 w3 (fK.set m.toNat U)::L) w) kr ⟨fun _=>⟨_,D⟩,fun _=>⟨_,(D.get 1 O)⟩,tv⟩ (fun C=>?_) ?_
    ·
     generalize w.drew=w at C D⊢
     refine Ts [0,1] A C O O kr fun a A C=>T0 2 A C O O O kr (fun _=>xf A aF8 O O) fun a A C=>T 3 1 A C O O O kr (fun _=>xl A aT 0 O O O O) fun a A C=>Ts [4,5] A C O O kr fun a A C=>T0 6 A C O O O kr (fun _=>xf A Y0 O O) fun a A C=>T 7 1 A C O O O kr (fun _=>xl A aT 0 O O O O) fun a A C=>Ts [8] A C O O kr fun a A C=>?_
     obtain⟨b21,b21o,b21c,b21r,b21k,b21f⟩:=aH.at lI bD ex21
     obtain rfl:b21c=Enc.enc n:=b21k
     have b21f:AtP ρ b21 b21o [(Iv n)]:=b21f
     refine T0 9 A C O O O kr (fun _=>aO O A O O b21r) fun a A C=>T0 10 A C O O O kr (fun _=>aK O A O (fun w H=>aZ aW (b21f.c 0 O w H))) fun a A C=>Ts [11,12] A C O O kr fun a A C=>T0 13 A C O O O kr (fun _=>xf A aF9 O O) fun a A C=>T 14 1 A C O O O kr (fun _=>xl A aT 0 O O O O) fun a A C=>Ts [15,16] A C O O kr fun a A C=>T0 17 A C O O O kr (fun _=>xf A Y1 O O) fun a A C=>T 18 1 A C O O O kr (fun _=>xl A aT 0 O O O O) fun a A C=>Ts [19] A C O O kr fun a A C=>?_
     obtain⟨b22,b22o,b22c,b22r,b22k,b22f⟩:=aH.at lJ bD ex22
     obtain rfl:b22c=Enc.enc m:=b22k
     have b22f:AtP ρ b22 b22o [(Iv m)]:=b22f
     refine T0 20 A C O O O kr (fun _=>aO O A O O b22r) fun a A C=>T0 21 A C O O O kr (fun _=>aK O A O (fun w H=>aZ aW (b22f.c 0 O w H))) fun a A C=>Ts [22,23] A C O O kr fun a A C=>T0 24 A C O O O kr (fun _=>xf A Y1 O O) fun a A C=>T 25 1 A C O O O kr (fun _=>xl A aT 0 O O O O) fun a A C=>Ts [26] A C O O kr fun a A C=>?_
     obtain⟨b23,b23o,b23c,b23r,b23k,b23f⟩:=aH.at lJ bD ex23
     obtain rfl:b23c=Enc.enc W:=b23k
     have b23f:AtP ρ b23 b23o [(Iv W)]:=b23f
     refine T0 27 A C O O O kr (fun _=>aO O A O O b23r) fun a A C=>T0 28 A C O O O kr (fun _=>aK O A O (fun w H=>aZ aW (b23f.c 0 O w H))) fun a A C=>Ts [29,30] A C O O kr fun a A C=>T0 31 A C O O O kr (fun _=>xf A Y0 O O) fun a A C=>T 32 1 A C O O O kr (fun _=>xl A aT 0 O O O O) fun a A C=>Ts [33] A C O O kr fun a A C=>?_
     obtain⟨b24,b24o,b24c,b24r,b24k,b24f⟩:=aH.at lI bD ex24
     obtain rfl:b24c=Enc.enc U:=b24k
     have b24f:AtP ρ b24 b24o [(Iv U)]:=b24f
     refine T0 34 A C O O O kr (fun _=>aO O A O O b24r) fun a A C=>T0 35 A C O O O kr (fun _=>aK O A O (fun w H=>aZ aW (b24f.c 0 O w H))) fun a A C=>?_
     obtain⟨b25,b25o,b25r,b25v,b25f⟩:=aC.at D 2 O bD j
     refine T0 36 A C O O O kr (fun _=>aO O A O O b25r) fun a A C=>?_
     refine W1 37 kr O ?_
     refine V7 (wk0 O) O A D O O O 2 O j b25v 0 (e':=W) aW.size_ O O O ⟨O,O⟩ ?_
     intro w D
     have D:=r4 D
     refine aB (aF ⟨gp0 D,gp 1 D O,tv⟩ fun C=>?_)
     obtain⟨b26,b26o,b26r,b26v,b26f⟩:=aC.at D 3 O bD i
     refine T0 38 A C O O O kr (fun _=>aO O A O O b26r) fun a A C=>?_
     refine W1 39 kr O ?_
     refine V7 (wk0 O) O A D O O O 3 O i b26v 0 (e':=U) aW.size_ O O O ⟨O,O⟩ ?_
     intro w D
     have D:=r4 D
     refine aB (aF ⟨gp0 D,gp 1 D O,tv⟩ fun C=>?_)
     exact bT kr ⟨A.cut ⟨O,O,O,O,O,O,tv⟩,D⟩
    rintro a w ⟨A,D⟩
    refine aA (S A 1 O fun a A=>?_)
    obtain⟨x27,ex27,B⟩:=bnd B
    refine V A D O (dQ O A O O (aN ex27)) fun a A=>S A 1 O fun a A=>?_
    obtain⟨x28,ex28,B⟩:=bnd B
    refine V A D O (dQ O A O O (aN ex28)) fun a A=>S A 2 O fun a A=>aB ?_
    exact⟨_,(oj B).symm,_,_,A.cut ⟨O,O,O,O,O,O,tv⟩,D⟩
   replace B:=(ie t).symm.trans B
   refine aG ?_
   refine jU kr kr D ?_
   refine Sq A 2 O fun a A=>?_
   obtain⟨x29,h,B⟩:=bnd B
   obtain⟨b27u,b27,b27o,b27h,b27r,b27v,b27f⟩:=bM.hdr D 0 O iE h
   refine Vq A O (aO O A O O b27r) fun a A=>Vq A O (aK O A O (fun w H=>aZ aT (b27f 0 _ O _ _ w (H.get 0 O)))) fun a A=>Sq A 1 O fun a A=>?_
   obtain⟨x30,ex30,B⟩:=bnd B
   obtain⟨b28,b28o,b28r,b28v,b28f⟩:=bM.at D 0 O bD b27h h ex30
   refine Vq A O (aO O A O O b28r) fun a A=>Vq A O (aK O A O (fun w H=>aZ aW (b28f 0 _ O _ _ w (H.get 0 O)))) fun a A=>Sq A 2 O fun a A=>?_
   obtain⟨x31,ex31,B⟩:=bnd B
   refine Vq A O (dQ O A O O (aN ex31)) fun a A=>?_
   obtain⟨x32,g,B⟩:=bnd B
   obtain⟨b29u,b29,b29o,b29h,b29r,b29v,b29f⟩:=bM.hdr D 0 O iE g
   refine Vq A O (aO O A O O b29r) fun a A=>Vq A O (aK O A O (fun w H=>aZ aT (b29f 0 _ O _ _ w (H.get 0 O)))) fun a A=>Sq A 1 O fun a A=>?_
   obtain⟨x33,ex33,B⟩:=bnd B
   obtain⟨b30,b30o,b30r,b30v,b30f⟩:=bM.at D 0 O bD b29h g ex33
   refine Vq A O (aO O A O O b30r) fun a A=>Vq A O (aK O A O (fun w H=>aZ aW (b30f 0 _ O _ _ w (H.get 0 O)))) fun a A=>?_
   obtain⟨x34,ex34,B⟩:=bnd B
   refine Vq A O (bF O A O O (aN ex34)) fun a A=>Sq A 2 O fun a A=>?_
   refine jQ fun w D=>?_
   have D:=r4 D
   have A:=A.cut (E':=[(0,(Pv bp0 0)),(6,(Iv Q)),(7,(Iv R)),(8,vr1),(9,(Iv aQ)),(10,(Iv aU)),(11,(Iv y)),(12,(Iv M)),(164,(.bool (decide (x30=x34))))]) ⟨O,O,O,O,O,O,O,O,O,tv⟩
   refine dK A O (fun q=>?_) (fun q=>?_)
   ·replace B:=(it q).symm.trans B
    refine aA (S A 1 O fun a A=>?_)
    obtain⟨x35,ex35,B⟩:=bnd B
    refine V A D O (dQ O A O O (aN ex35)) fun a A=>S A 1 O fun a A=>aB ?_
    exact⟨_,(oj B).symm,_,_,A.cut ⟨O,O,O,O,O,O,tv⟩,D⟩
   replace B:=(ie q).symm.trans B
   refine aG ?_
   refine jU kr kr D ?_
   refine Sq A 2 O fun a A=>?_
   obtain⟨x36,f,B⟩:=bnd B
   obtain⟨b31u,b31,b31o,b31h,b31r,b31v,b31f⟩:=bM.hdr D 0 O iE f
   refine Vq A O (aO O A O O b31r) fun a A=>Vq A O (aK O A O (fun w H=>aZ aT (b31f 0 _ O _ _ w (H.get 0 O)))) fun a A=>Sq A 1 O fun a A=>?_
   obtain⟨x37,ex37,B⟩:=bnd B
   obtain⟨b32,b32o,b32r,b32v,b32f⟩:=bM.at D 0 O bD b31h f ex37
   refine Vq A O (aO O A O O b32r) fun a A=>Vq A O (aK O A O (fun w H=>aZ aW (b32f 0 _ O _ _ w (H.get 0 O)))) fun a A=>Sq A 2 O fun a A=>?_
   obtain⟨x38,e,B⟩:=bnd B
   obtain⟨b33u,b33,b33o,b33h,b33r,b33v,b33f⟩:=bM.hdr D 0 O iE e
   refine Vq A O (aO O A O O b33r) fun a A=>Vq A O (aK O A O (fun w H=>aZ aT (b33f 0 _ O _ _ w (H.get 0 O)))) fun a A=>Sq A 1 O fun a A=>?_
   obtain⟨x39,ex39,B⟩:=bnd B
   refine Vq A O (dQ O A O O (aN ex39)) fun a A=>?_
   obtain⟨x40,ex40,B⟩:=bnd B
   obtain⟨b34,b34o,b34r,b34v,b34f⟩:=bM.at D 0 O bD b33h e ex40
   refine Vq A O (aO O A O O b34r) fun a A=>Vq A O (aK O A O (fun w H=>aZ aW (b34f 0 _ O _ _ w (H.get 0 O)))) fun a A=>?_
   obtain⟨x41,ex41,B⟩:=bnd B
   refine Vq A O (bF O A O O (aN ex41)) fun a A=>Sq A 2 O fun a A=>?_
   refine jQ fun w D=>?_
   have D:=r4 D
   have A:=A.cut (E':=[(0,(Pv bp0 0)),(6,(Iv Q)),(7,(Iv R)),(8,vr1),(9,(Iv aQ)),(10,(Iv aU)),(11,(Iv y)),(12,(Iv M)),(184,(.bool (decide (x37=x41))))]) ⟨O,O,O,O,O,O,O,O,O,tv⟩
   refine dK A O (fun p=>?_) (fun p=>?_)
   ·replace B:=(it p).symm.trans B
    refine aA (S A 1 O fun a A=>?_)
    obtain⟨x42,ex42,B⟩:=bnd B
    refine V A D O (dQ O A O O (aN ex42)) fun a A=>S A 1 O fun a A=>aB ?_
    exact⟨_,(oj B).symm,_,_,A.cut ⟨O,O,O,O,O,O,tv⟩,D⟩
   replace B:=(ie p).symm.trans B
   refine aG (aA ?_)
   refine S A 3 O fun a A=>?_
   obtain⟨x43,ex43,B⟩:=bnd B
   refine Cl A O O ent51 (hself bp0 (Alg.mk I.a I.b I.orderA I.leftA I.orderB I.leftB I.distances dS fK) dA nJ dB oK bY lS dC nK dD oL bZ lT dO lI dW lU dP lJ dX lV bU jJ w2 w3 y M (((D.get 3 O).get 3 O).get 3 O) x43 ex43) ⟨O,O,O,tv⟩ fun v a w hR A=>?_
   obtain⟨vz1_partner,vz1_back,rfl,D⟩:=hR
   have D:=r4 D
   refine aB ?_
   refine jU kr kr D ?_
   refine Sq A 2 O fun a A=>Vq A O (xf A J6 O O) fun a A=>Vq A O (xl A aT 0 O O O O) fun a A=>Sq A 1 O fun a A=>?_
   obtain⟨x44,ex44,B⟩:=bnd B
   obtain⟨b35,b35o,b35c,b35r,b35k,b35f⟩:=aH.at lU bD ex44
   obtain rfl:b35c=Enc.enc x44:=b35k
   have b35f:AtP ρ b35 b35o [(Iv x44)]:=b35f
   refine Vq A O (aO O A O O b35r) fun a A=>Vq A O (aK O A O (fun w H=>aZ aW (b35f.c 0 O w H))) fun a A=>Sq A 1 O fun a A=>?_
   obtain⟨x45,ex45,B⟩:=bnd B
   refine Vq A O (dQ O A O O (aN ex45)) fun a A=>Sq A 2 O fun a A=>Vq A O (xf A J7 O O) fun a A=>Vq A O (xl A aT 0 O O O O) fun a A=>Sq A 1 O fun a A=>?_
   obtain⟨z,ex46,B⟩:=bnd B
   obtain⟨b36,b36o,b36c,b36r,b36k,b36f⟩:=aH.at lV bD ex46
   obtain rfl:b36c=Enc.enc z:=b36k
   have b36f:AtP ρ b36 b36o [(Iv z)]:=b36f
   refine Vq A O (aO O A O O b36r) fun a A=>Vq A O (aK O A O (fun w H=>aZ aW (b36f.c 0 O w H))) fun a A=>Sq A 1 O fun a A=>?_
   obtain⟨x47,ex47,B⟩:=bnd B
   refine Vq A O (dQ O A O O (aN ex47)) fun a A=>Sq A 2 O fun a A=>?_
   refine jQ fun w D=>?_
   have D:=r4 D
   have A:=A.cut (E':=[(0,(Pv bp0 0)),(6,(Iv Q)),(7,(Iv R)),(8,vr1),(9,(Iv x45)),(10,(Iv x47))]) ⟨O,O,O,O,O,O,tv⟩
   exact⟨_,(oj B).symm,_,_,A.cut ⟨O,O,O,O,O,O,tv⟩,((((D.get 2 O).get 2 O).get 2 O).get 3 O)⟩
  replace B:=(ie x).symm.trans B
  refine dZ ?_
  refine⟨_,(oj B).symm,fun hbb=>?_⟩
  subst hbb
  exact⟨_,_,A.cut trivial,D⟩
 rintro a w ⟨w2,w3,A,D⟩
 obtain rfl:=oj K
 exact aD6 A O ⟨_,O,_,_,O,(D.drop)⟩
theorem aH5:∀(n:Nat),∀{Z:World} {ρ:PH} {L:List bQ} {w:World} (bp0:Nat) (A:Alg) (dA:Value) (nJ:aH ρ dA A.a.nodes) (dB:Value) (oK:aH ρ dB A.a.sizes) (bY:Value) (lS:aH ρ bY A.a.parent) (dC:Value) (nK:aH ρ dC A.b.nodes) (dD:Value) (oL:aH ρ dD A.b.sizes) (bZ:Value) (lT:aH ρ bZ A.b.parent) (dO:Value) (lI:aH ρ dO A.orderA) (dW:Value) (lU:aH ρ dW A.leftA) (dP:Value) (lJ:aH ρ dP A.orderB) (dX:Value) (lV:aH ρ dX A.leftB) (bU:Value) (jJ:aH ρ bU A.distances) (dL:Value) (fD:Value) (C:Int) (B:Int) (E:Hp Z ρ (Pt bp0 (.cells #[dA,dB,bY,dC,dD,bZ,dO,dW,dP,dX,bU,dL,fD] 88 (0,0))::aC 3 dL A.partner::aC 3 fD A.back::L) w) (r:Alg) (D:jV n A C B=some r),Calls Tryz.prog 51 #[(Pv bp0 0),(Iv C),(Iv B)] w (Ret fun v w'=>∃(pX:Value) (wH:Value),v= .tuple #[]∧Hp Z ρ (Pt bp0 (.cells #[dA,dB,bY,dC,dD,bZ,dO,dW,dP,dX,bU,pX,wH] 88 (0,0))::aC 3 pX r.partner::aC 3 wH r.back::L) w'):=by
 intro n
 induction n with
 |zero=>intro Z ρ L w bp0 A dA nJ dB oK bY lS dC nK dD oL bZ lT dO lI dW lU dP lJ dX lV bU jJ dL fD C B E r D;cases D
 |succ n ih=>intro Z ρ L w bp0 A dA nJ dB oK bY lS dC nK dD oL bZ lT dO lI dW lU dP lJ dX lV bU jJ dL fD C B E r D;exact aC7 (jV n) ih bp0 A dA nJ dB oK bY lS dC nK dD oL bZ lT dO lI dW lU dP lJ dX lV bU jJ dL fD C B E r D
theorem O9 {Z:World} {ρ:PH} {L:List bQ} {w:World} (bp0:Nat) (A:Alg) (dA:Value) (nJ:aH ρ dA A.a.nodes) (dB:Value) (oK:aH ρ dB A.a.sizes) (bY:Value) (lS:aH ρ bY A.a.parent) (dC:Value) (nK:aH ρ dC A.b.nodes) (dD:Value) (oL:aH ρ dD A.b.sizes) (bZ:Value) (lT:aH ρ bZ A.b.parent) (dO:Value) (lI:aH ρ dO A.orderA) (dW:Value) (lU:aH ρ dW A.leftA) (dP:Value) (lJ:aH ρ dP A.orderB) (dX:Value) (lV:aH ρ dX A.leftB) (bU:Value) (jJ:aH ρ bU A.distances) (dL:Value) (fD:Value) (C:Int) (B:Int) (D:Hp Z ρ (Pt bp0 (.cells #[dA,dB,bY,dC,dD,bZ,dO,dW,dP,dX,bU,dL,fD] 88 (0,0))::aC 3 dL A.partner::aC 3 fD A.back::L) w) (r:Alg) (E:uN A C B=some r):
  Calls Tryz.prog 51 #[(Pv bp0 0),(Iv C),(Iv B)] w (Ret fun v w'=>∃(pX:Value) (wH:Value),v= .tuple #[]∧Hp Z ρ (Pt bp0 (.cells #[dA,dB,bY,dC,dD,bZ,dO,dW,dP,dX,bU,pX,wH] 88 (0,0))::aC 3 pX r.partner::aC 3 wH r.back::L) w'):=aH5 _ bp0 A dA nJ dB oK bY lS dC nK dD oL bZ lT dO lI dW lU dP lJ dX lV bU jJ dL fD C B D r E
end Go.Proofs.YtopnldfjcciieaaGreat

/- The code goes as its model: assessor/assessorref38.before, assessor/assessorref38.Sorted, assessor/assessorref38.Invert, assessor/assessorref38.Compose, assesso -/
import Derived.Test.YtopnldfjcciieaaGreatKLeT
import Derived.Test.YtopnldfjcciieaaGreatKLe4
import Derived.Test.YtopnldfjcciieaaGreatKLe5
import Derived.Test.YtopnldfjcciieaaGreatKLe6
import Derived.Test.YtopnldfjcciieaaGreatKLe10
import Derived.Test.YtopnldfjcciieaaGreatKLe15
import Derived.Test.YtopnldfjcciieaaGreatKLe17
import Derived.Test.YtopnldfjcciieaaGreatKLe16
import Derived.Test.YtopnldfjcciieaaGreatKLe22
set_option linter.unusedVariables false
set_option linter.unusedSimpArgs false
set_option maxRecDepth 100000
set_option maxHeartbeats 4000000
namespace Go.Proofs.YtopnldfjcciieaaGreat
open Go.RowKit
theorem aK6 {Z:World} {ρ:PH} {L:List bQ} {w:World} (W:(List Chg)) (vp0:Value) (hp0:aH ρ vp0 W) (U:(List Chg)) (vp1:Value) (hp1:aH ρ vp1 U) (E:Hp Z ρ (L) w) (r:Bool) (F:xM W U=some r):
  Calls Tryz.prog 19 #[vp0,vp1] w (Ret fun v w'=>v=(.bool r)∧Hp Z ρ (L) w'):=by
 refine enter (N:=26) Tryz.func19 O O [(0,vp0),(1,vp1)] O (bH ⟨O,O,tv⟩) fun a A=>?_
 unfold xM at F
 refine aG (aA ?_)
 refine S A 1 O fun a A=>aB (aG ?_)
 refine aG (aA ?_)
 refine S A 1 O fun a A=>V A E O (bW O A O (aH.len hp0 zY)) fun a A=>S A 1 O fun a A=>V A E O (bW O A O (aH.len hp1 zY)) fun a A=>S A 1 O fun a A=>aB ?_
 refine dK A O (fun I=>?_) (fun I=>?_)
 ·replace F:=(it I).symm.trans F
  refine aG (aA ?_)
  refine S A 1 O fun a A=>aB (cZ ?_)
  obtain rfl:=oj F
  exact gY A O O ⟨_,O,O,E⟩
 replace F:=(ie I).symm.trans F
 refine bI (aG ?_)
 refine aG (aA ?_)
 refine S A 1 O fun a A=>aB ?_
 obtain⟨b1,M,F⟩:=bnd F
 refine dM (fun a w=>∃s:Unit,b1= .brk s∧(Env 26 [] a∧Hp Z ρ (L) w)) ?_ ?_
 ·refine eQ M (fun s a w=>Env 26 [(0,vp0),(1,vp1),(5,(Iv s))] a∧Hp Z ρ (L) w) ?_ ?_
  ·exact⟨A.cut ⟨O,O,O,tv⟩,E⟩
  rintro aQ st a w ⟨A,E⟩ B
  unfold zM at B
  refine aG (aG ?_)
  refine aA (S A 2 O fun a A=>?_)
  refine V A E O (bW O A O (aH.len hp0 zY)) fun a A=>S A 1 O fun a A=>aB ?_
  refine dK A O (fun H=>?_) (fun H=>?_)
  ·replace B:=(it H).symm.trans B
   refine bI (aG ?_)
   refine dN (aG ?_)
   refine jU kr kr E ?_
   refine Sq A 2 O fun a A=>?_
   obtain⟨D,T,B⟩:=bnd B
   obtain⟨b2,b2o,b2c,b2r,b2k,b2f⟩:=aH.at hp0 zY T
   obtain rfl:b2c=Enc.enc D:=b2k
   have b2f:AtP ρ b2 b2o [(Iv D.op),(Iv D.node),(Iv D.index),(Iv D.count),(Iv D.kind),(.string D.text)]:=b2f
   refine Vq A O (aO O A O O b2r) fun a A=>Vq A O (aK O A O (fun w J=>aX (cs:=[(Iv D.op),(Iv D.node),(Iv D.index),(Iv D.count),(Iv D.kind),(.string D.text)]) H7 (fun j u K=>cell_of J.le (b2f j u K)))) fun a A=>Sq A 2 O fun a A=>?_
   obtain⟨C,R,B⟩:=bnd B
   obtain⟨b3,b3o,b3c,b3r,b3k,b3f⟩:=aH.at hp1 zY R
   obtain rfl:b3c=Enc.enc C:=b3k
   have b3f:AtP ρ b3 b3o [(Iv C.op),(Iv C.node),(Iv C.index),(Iv C.count),(Iv C.kind),(.string C.text)]:=b3f
   refine Vq A O (aO O A O O b3r) fun a A=>Vq A O (aK O A O (fun w J=>aX (cs:=[(Iv C.op),(Iv C.node),(Iv C.index),(Iv C.count),(Iv C.kind),(.string C.text)]) H7 (fun j u K=>cell_of J.le (b3f j u K)))) fun a A=>Vq A O (v:=(.bool (!((decide (D.op=C.op))&&(decide (D.node=C.node))&&(decide (D.index=C.index))&&(decide (D.count=C.count))&&(decide (D.kind=C.kind))&&(decide (D.text=C.text)))))) (ex_stneq (eqst58 D.op D.node D.index D.count D.kind D.text C.op C.node C.index C.count C.kind C.text) O A O O) fun a A=>?_
   refine jQ fun w E=>?_
   have E:=r0 E
   refine dK A O (fun G=>?_) (fun G=>?_)
   ·replace B:=(it G).symm.trans B
    refine aG (aA ?_)
    refine S A 1 O fun a A=>aB (cZ ?_)
    refine⟨_,(oj B).symm,fun hb=>?_⟩
    subst hb
    obtain rfl:=oj F
    exact gY A O O ⟨_,O,O,E⟩
   replace B:=(ie G).symm.trans B
   refine bI (aA ?_)
   refine S A 1 O fun a A=>?_
   obtain⟨x3,Q,B⟩:=bnd B
   refine V A E O (bF O A O O (aN Q)) fun a A=>S A 1 O fun a A=>aB ?_
   exact⟨_,(oj B).symm,A.cut ⟨O,O,O,tv⟩,E⟩
  replace B:=(ie H).symm.trans B
  refine dZ ?_
  refine⟨_,(oj B).symm,fun hbb=>?_⟩
  exact⟨_,hbb.symm,A.cut trivial,E⟩
 rintro a w ⟨b1s,rfl,A,E⟩
 dsimp only at F
 refine aG (aA ?_)
 refine S A 1 O fun a A=>aB (cZ ?_)
 obtain rfl:=oj F
 exact gY A O O ⟨_,O,O,E⟩
theorem aK3 {Z:World} {ρ:PH} {L:List bQ} {w:World} (B:Hp Z ρ (L) w) (r:Bool) (H:uB=some r):
  Calls Tryz.prog 10 #[] w (Ret fun v w'=>v=(.bool r)∧Hp Z ρ (L) w'):=by
 refine enter (N:=124) Tryz.func10 O O [] O (bH trivial) fun a A=>?_
 unfold uB at H
 refine aG (aA ?_)
 refine S A 1 O fun a A=>aB (aG ?_)
 refine aA ?_
 obtain⟨x1,ex1,H⟩:=bnd H
 refine Cl A O O ent36 (rJ (ByteArray.mk #[97]) B x1 ex1) ⟨O,tv⟩ fun v a w I A=>?_
 obtain⟨ρ1,aC3,s,rfl,hr1_kids,B⟩:=I
 have B:=r0 B
 obtain⟨x2,ex2,H⟩:=bnd H
 refine Cl A O O ent36 (rJ (ByteArray.mk #[98]) B x2 ex2) ⟨O,tv⟩ fun v a w I A=>?_
 obtain⟨ρ2,vr2_kids,o,rfl,hr2_kids,B⟩:=I
 have B:=r0 B
 obtain⟨x3,ex3,H⟩:=bnd H
 refine Cl A O O ent36 (rJ (ByteArray.mk #[99]) B x3 ex3) ⟨O,tv⟩ fun v a w I A=>?_
 obtain⟨ρ3,vr3_kids,j,rfl,hr3_kids,B⟩:=I
 have B:=r0 B
 obtain⟨x4,ex4,H⟩:=bnd H
 refine Cl A O O ent35 (wS (ByteArray.mk #[42]) x2 vr2_kids (aH.mono hr2_kids j) x3 vr3_kids hr3_kids B x4 ex4) ⟨O,O,O,tv⟩ fun v a w I A=>?_
 obtain⟨ρ4,vr4_kids,m,rfl,hr4_kids,B⟩:=I
 have B:=r0 B
 obtain⟨E,ex5,H⟩:=bnd H
 refine Cl A O O ent35 (wS (ByteArray.mk #[43]) x1 aC3 (aH.mono (aH.mono (aH.mono hr1_kids o) j) m) x4 vr4_kids hr4_kids B E ex5) ⟨O,O,O,tv⟩ fun v a w I A=>?_
 obtain⟨ρ5,kH,q,rfl,aA5,B⟩:=I
 have B:=r0 B
 obtain⟨x6,ex6,H⟩:=bnd H
 refine Cl A O O ent36 (rJ (ByteArray.mk #[97]) B x6 ex6) ⟨O,tv⟩ fun v a w I A=>?_
 obtain⟨ρ6,vr6_kids,W,rfl,hr6_kids,B⟩:=I
 have B:=r0 B
 obtain⟨x7,ex7,H⟩:=bnd H
 refine Cl A O O ent36 (rJ (ByteArray.mk #[99]) B x7 ex7) ⟨O,tv⟩ fun v a w I A=>?_
 obtain⟨ρ7,vr7_kids,M,rfl,hr7_kids,B⟩:=I
 have B:=r0 B
 obtain⟨D,ex8,H⟩:=bnd H
 refine Cl A O O ent35 (wS (ByteArray.mk #[42]) x6 vr6_kids (aH.mono hr6_kids M) x7 vr7_kids hr7_kids B D ex8) ⟨O,O,O,tv⟩ fun v a w I A=>?_
 obtain⟨ρ8,kJ,U,rfl,aA6,B⟩:=I
 have B:=r0 B
 refine dF (wk0 O) O O A B O [(Iv 0),(.string ByteArray.empty),(Iv 0),(Iv 0),N0] (fun w=>by simp[Instr.alloc,go_sem]<;>rfl) ?_
 intro a w b1 A B
 have B:=r1 B
 refine dF (wk0 O) O O A B O [(Iv 0),(.string ByteArray.empty),(Iv 0),(Iv 0),N0] (fun w=>by simp[Instr.alloc,go_sem]<;>rfl) ?_
 intro a w b2 A B
 have B:=r2 B
 refine aV (wk0 O) O A B O O O 1 O cO.size_ O (aP ⟨O,O,O,O,(aH.one (aH.mono (aH.mono (aH.mono aA5 W) M) U)),tv⟩) [(Iv E.kind),(.string E.text),(Iv E.at_),(Iv E.fin),kH] O ?_
 intro w B
 have B:=r2 B
 refine aV (wk0 O) O A B O O O 0 O cO.size_ O (aP ⟨O,O,O,O,(aH.one aA6),tv⟩) [(Iv D.kind),(.string D.text),(Iv D.at_),(Iv D.fin),kJ] O ?_
 intro w B
 have B:=r2 B
 refine aB (aG ?_)
 refine aA (V A B O (v:=(.agg #[(Iv 0),(Iv 0)])) (oD O A [(0,(Iv 0)),(1,(Iv 0))] (by exact⟨⟨O,O⟩,⟨O,O⟩,tv⟩) (fun w=>by simp[Instr.build,Instr.fill,Value.cells,go_sem])) fun a A=>?_)
 refine V A B O (v:=(.agg #[(Iv 1),(Iv 1)])) (oD O A [(0,(Iv 1)),(1,(Iv 1))] (by exact⟨⟨O,O⟩,⟨O,O⟩,tv⟩) (fun w=>by simp[Instr.build,Instr.fill,Value.cells,go_sem])) fun a A=>V A B O (v:=(.agg #[(Iv 2),(Iv (-1))])) (oD O A [(0,(Iv 2)),(1,(Iv (-1)))] (by exact⟨⟨O,O⟩,⟨O,O⟩,tv⟩) (fun w=>by simp[Instr.build,Instr.fill,Value.cells,go_sem])) fun a A=>V A B O (v:=(.agg #[(Iv 3),(Iv (-1))])) (oD O A [(0,(Iv 3)),(1,(Iv (-1)))] (by exact⟨⟨O,O⟩,⟨O,O⟩,tv⟩) (fun w=>by simp[Instr.build,Instr.fill,Value.cells,go_sem])) fun a A=>V A B O (v:=(.agg #[(Iv 4),(Iv 2)])) (oD O A [(0,(Iv 4)),(1,(Iv 2))] (by exact⟨⟨O,O⟩,⟨O,O⟩,tv⟩) (fun w=>by simp[Instr.build,Instr.fill,Value.cells,go_sem])) fun a A=>?_
 refine fU (wk0 O) O O A B O [(0,(.agg #[(Iv 0),(Iv 0)])),(1,(.agg #[(Iv 1),(Iv 1)])),(2,(.agg #[(Iv 2),(Iv (-1))])),(3,(.agg #[(Iv 3),(Iv (-1))])),(4,(.agg #[(Iv 4),(Iv 2)]))] ⟨⟨O,O⟩,⟨O,O⟩,⟨O,O⟩,⟨O,O⟩,⟨O,O⟩,tv⟩ [(Iv 0),(Iv 0),(Iv 1),(Iv 1),(Iv 2),(Iv (-1)),(Iv 3),(Iv (-1)),(Iv 4),(Iv 2)] 46 (fun w=>by simp[Instr.buildSlice,Instr.fill,Value.cells,go_sem]) ?_
 intro a w b3 A B
 have B:=r3 B
 refine S A 1 O fun a A=>aB (aG ?_)
 refine aA (V A B O (aK O A O (fun w c=>aX (cs:=[(Iv E.kind),(.string E.text),(Iv E.at_),(Iv E.fin),kH]) cO (Hp.cN 2 O 0 _ (aS O) w c))) fun a A=>?_)
 refine V A B O (aK O A O (fun w c=>aX (cs:=[(Iv D.kind),(.string D.text),(Iv D.at_),(Iv D.fin),kJ]) cO (Hp.cN 1 O 0 _ (aS O) w c))) fun a A=>S A 1 O fun a A=>?_
 have B:=(B.get 0 O).imp (uJ (l:=(([(Opn.mk 0 0),(Opn.mk 1 1),(Opn.mk 2 (-1)),(Opn.mk 3 (-1)),(Opn.mk 4 2)]:List Opn):List Opn)) (n:=5) O (by decide) O)
 have B:=r3 B
 obtain⟨k1,k1a,k1d,k1h⟩:=(B.get 0 O).lend
 obtain⟨R,ex9,H⟩:=bnd H
 refine Cl A O O ent15 (aQ6 E kH (aH.mono (aH.mono (aH.mono (aH.mono aA5 W) M) U) (PH.le_un _ _)) D kJ (aH.mono aA6 (PH.le_un _ _)) ([(Opn.mk 0 0),(Opn.mk 1 1),(Opn.mk 2 (-1)),(Opn.mk 3 (-1)),(Opn.mk 4 2)]:List Opn) (.slice (some ⟨b3,0,none⟩) 5 5) (aC.ro k1d k1a) k1h R ex9) ⟨O,O,O,tv⟩ fun v a w I A=>?_
 obtain⟨rfl,B⟩:=I
 have B:=Hp.back k1a k1d B
 have B:=r3 B
 refine S A 5 O fun a A=>aB ?_
 have A:=A.cut (E':=[(1,(Pv b1 0)),(2,(Pv b2 0)),(3,(.slice (some ⟨b3,0,none⟩) 5 5)),(4,(Iv R.1)),(5,(Iv R.2))]) ⟨O,O,O,O,O,tv⟩
 refine aG (aA ?_)
 refine V A B O (aK O A O (fun w c=>aX (cs:=[(Iv E.kind),(.string E.text),(Iv E.at_),(Iv E.fin),kH]) cO (Hp.cN 2 O 0 _ (aS O) w c))) fun a A=>V A B O (aK O A O (fun w c=>aX (cs:=[(Iv D.kind),(.string D.text),(Iv D.at_),(Iv D.fin),kJ]) cO (Hp.cN 1 O 0 _ (aS O) w c))) fun a A=>S A 1 O fun a A=>?_
 obtain⟨k2,k2a,k2d,k2h⟩:=(B.get 0 O).lend
 obtain⟨Y,ex10,H⟩:=bnd H
 refine Cl A O O ent16 (c_align_Changes E kH (aH.mono (aH.mono (aH.mono (aH.mono aA5 W) M) U) (PH.le_un _ _)) D kJ (aH.mono aA6 (PH.le_un _ _)) ([(Opn.mk 0 0),(Opn.mk 1 1),(Opn.mk 2 (-1)),(Opn.mk 3 (-1)),(Opn.mk 4 2)]:List Opn) (.slice (some ⟨b3,0,none⟩) 5 5) (aC.ro k2d k2a) k2h Y ex10) ⟨O,O,O,tv⟩ fun v a w I A=>?_
 obtain⟨vr11,rfl,B⟩:=I
 have B:=Hp.back k2a k2d B
 have B:=r4 B
 refine S A 5 O fun a A=>aB (aG ?_)
 refine aA (V A B O (aK O A O (fun w c=>aX (cs:=[(Iv E.kind),(.string E.text),(Iv E.at_),(Iv E.fin),kH]) cO (Hp.cN 3 O 0 _ (aS O) w c))) fun a A=>?_)
 refine fU (wk0 O) O O A B O [(0,(.agg #[(Iv E.kind),(.string E.text),(Iv E.at_),(Iv E.fin),kH]))] ⟨⟨O,O⟩,tv⟩ [(Iv E.kind),(.string E.text),(Iv E.at_),(Iv E.fin),kH] 24 (fun w=>by have k:=aH.cells (aH.mono (aH.mono (aH.mono aA5 W) M) U);simp only[Value.cells] at k;simp[Instr.buildSlice,Instr.fill,Value.cells,k,go_sem]) ?_
 intro a w b4 A B
 have B:=r5 B
 refine S A 1 O fun a A=>?_
 obtain⟨k3,k3a,k3d,B⟩:=(B.get 0 O).lend
 have f1:aH (ρ8.un k3) (.slice (some ⟨b4,0,none⟩) 1 1) ([E]:List Node):=aH.of_all (l:=(([E]:List Node))) k3d k3a ⟨_,_,O,(show NodeAt (ρ8.un k3) E [(Iv E.kind),(.string E.text),(Iv E.at_),(Iv E.fin),kH] from NodeAt.shutv ((aH.mono (aH.mono (aH.mono (aH.mono aA5 W) M) U) (PH.le_un _ k3)))),O⟩
 have B:=r4 B
 obtain⟨k4,k4a,k4d,B⟩:=(B.get 1 O).lend
 have f2:aH ((ρ8.un k3).un k4) vr11 Y.1:=aC.ro k4d k4a
 have B:Hp Z ((ρ8.un k3).un k4) (_::_::_::L) w:=B
 obtain⟨X,ex11,H⟩:=bnd H
 refine Cl A O O ent24 (c_Apply ([E]:List Node) (.slice (some ⟨b4,0,none⟩) 1 1) (aH.mono f1 (PH.le_un _ k4)) Y.1 vr11 f2 B X ex11) ⟨O,O,tv⟩ fun v a w I A=>?_
 obtain⟨ρ9,vr13,T,rfl,hr13,B⟩:=I
 have B:=r3 B
 refine S A 5 O fun a A=>aB (aG ?_)
 refine aA (V A B O (aK O A O (fun w c=>aX (cs:=[(Iv E.kind),(.string E.text),(Iv E.at_),(Iv E.fin),kH]) cO (Hp.cN 2 O 0 _ (aS O) w c))) fun a A=>?_)
 refine V A B O (aK O A O (fun w c=>aX (cs:=[(Iv D.kind),(.string D.text),(Iv D.at_),(Iv D.fin),kJ]) cO (Hp.cN 1 O 0 _ (aS O) w c))) fun a A=>?_
 obtain⟨C,ex12,H⟩:=bnd H
 refine Cl A O O ent21 (aD9 E kH (aH.mono (aH.mono (aH.mono (aH.mono (aH.mono (aH.mono aA5 W) M) U) (PH.le_un _ k3)) (PH.le_un _ k4)) T) D kJ (aH.mono (aH.mono (aH.mono aA6 (PH.le_un _ k3)) (PH.le_un _ k4)) T) B C ex12) ⟨O,O,tv⟩ fun v a w I A=>?_
 obtain⟨vr15,rfl,B⟩:=I
 have B:=r4 B
 refine S A 5 O fun a A=>aB ?_
 have A:=A.cut (E':=[(1,(Pv b1 0)),(2,(Pv b2 0)),(3,(.slice (some ⟨b3,0,none⟩) 5 5)),(4,(Iv R.1)),(5,(Iv R.2)),(6,vr11),(7,(Iv Y.2)),(8,vr13),(9,(Iv X.2)),(10,vr15),(11,(Iv C.2))]) ⟨O,O,O,O,O,O,O,O,O,O,O,tv⟩
 refine aG (aA ?_)
 refine S A 1 O fun a A=>?_
 obtain⟨k5,k5a,k5d,k5h⟩:=(B.get 1 O).lend
 obtain⟨F,ex13,H⟩:=bnd H
 refine Cl A O O ent13 (aJ8 ([(Opn.mk 0 0),(Opn.mk 1 1),(Opn.mk 2 (-1)),(Opn.mk 3 (-1)),(Opn.mk 4 2)]:List Opn) (.slice (some ⟨b3,0,none⟩) 5 5) (aC.ro k5d k5a) 4 k5h F ex13) ⟨O,O,tv⟩ fun v a w I A=>?_
 obtain⟨rfl,B⟩:=I
 have B:=Hp.back k5a k5d B
 have B:=r4 B
 refine S A 5 O fun a A=>aB (aG ?_)
 refine aA (V A B O (aK O A O (fun w c=>aX (cs:=[(Iv E.kind),(.string E.text),(Iv E.at_),(Iv E.fin),kH]) cO (Hp.cN 3 O 0 _ (aS O) w c))) fun a A=>?_)
 refine V A B O (aK O A O (fun w c=>aX (cs:=[(Iv D.kind),(.string D.text),(Iv D.at_),(Iv D.fin),kJ]) cO (Hp.cN 2 O 0 _ (aS O) w c))) fun a A=>S A 1 O fun a A=>?_
 obtain⟨k6,k6a,k6d,k6h⟩:=(B.get 0 O).lend
 obtain⟨K,ex14,H⟩:=bnd H
 refine Cl A O O ent17 (aE0 E kH (aH.mono (aH.mono (aH.mono (aH.mono (aH.mono (aH.mono (aH.mono aA5 W) M) U) (PH.le_un _ k3)) (PH.le_un _ k4)) T) (PH.le_un _ _)) D kJ (aH.mono (aH.mono (aH.mono (aH.mono aA6 (PH.le_un _ k3)) (PH.le_un _ k4)) T) (PH.le_un _ _)) ([(Opn.mk 0 0),(Opn.mk 1 1),(Opn.mk 2 (-1)),(Opn.mk 3 (-1)),(Opn.mk 4 2)]:List Opn) (.slice (some ⟨b3,0,none⟩) 5 5) (aC.ro k6d k6a) k6h K ex14) ⟨O,O,O,tv⟩ fun v a w I A=>?_
 obtain⟨rfl,B⟩:=I
 have B:=Hp.back k6a k6d B
 have B:=r4 B
 refine S A 1 O fun a A=>?_
 refine jI [_,_,_] (fun a w=>Env 124 [(67,(.bool (K&&(decide (R.2=0))))),(2,(Pv b2 0)),(3,(.slice (some ⟨b3,0,none⟩) 5 5)),(4,(Iv R.1)),(6,vr11),(7,(Iv Y.2)),(8,vr13),(9,(Iv X.2)),(10,vr15),(11,(Iv C.2)),(12,(Iv F.1)),(13,(.bool F.2))] a∧Hp Z ρ9 (aC 46 (.slice (some ⟨b3,0,none⟩) 5 5) ([(Opn.mk 0 0),(Opn.mk 1 1),(Opn.mk 2 (-1)),(Opn.mk 3 (-1)),(Opn.mk 4 2)]:List Opn)::aC 46 vr15 C.1::Pt b2 (.cells #[(Iv D.kind),(.string D.text),(Iv D.at_),(Iv D.fin),kJ] 24 (0,0))::Pt b1 (.cells #[(Iv E.kind),(.string E.text),(Iv E.at_),(Iv E.fin),kH] 24 (0,0))::L) w) ?_ ?_
 ·rcases vA K with h|h
  ·
   refine Gs A h O O fun a A=>Gs A h O O fun a A=>pk1 A h O O O O fun a A=>?_
   have A:=A.eqv (v':=(.bool (K&&(decide (R.2=0))))) (by rw[h];rfl)
   exact aB ⟨A.cut ⟨O,O,O,O,O,O,O,O,O,O,O,O,tv⟩,B⟩
  refine Gk A h O fun a A=>Gk A h O fun a A=>pk0 A h O O O O fun a A=>?_
  have A:=A.eqv (v':=(.bool (K&&(decide (R.2=0))))) (by rw[h];rfl)
  exact aB ⟨A.cut ⟨O,O,O,O,O,O,O,O,O,O,O,O,tv⟩,B⟩
 rintro a w ⟨A,B⟩
 refine S A 1 O fun a A=>?_
 refine jI [_,_,_] (fun a w=>Env 124 [(71,(.bool ((K&&(decide (R.2=0)))&&(decide (R.1=3))))),(2,(Pv b2 0)),(3,(.slice (some ⟨b3,0,none⟩) 5 5)),(6,vr11),(7,(Iv Y.2)),(8,vr13),(9,(Iv X.2)),(10,vr15),(11,(Iv C.2)),(12,(Iv F.1)),(13,(.bool F.2))] a∧Hp Z ρ9 (aC 46 (.slice (some ⟨b3,0,none⟩) 5 5) ([(Opn.mk 0 0),(Opn.mk 1 1),(Opn.mk 2 (-1)),(Opn.mk 3 (-1)),(Opn.mk 4 2)]:List Opn)::aC 46 vr15 C.1::Pt b2 (.cells #[(Iv D.kind),(.string D.text),(Iv D.at_),(Iv D.fin),kJ] 24 (0,0))::Pt b1 (.cells #[(Iv E.kind),(.string E.text),(Iv E.at_),(Iv E.fin),kH] 24 (0,0))::L) w) ?_ ?_
 ·rcases vA (K&&(decide (R.2=0))) with g|g
  ·
   refine Gs A g O O fun a A=>Gs A g O O fun a A=>pk1 A g O O O O fun a A=>?_
   have A:=A.eqv (v':=(.bool ((K&&(decide (R.2=0)))&&(decide (R.1=3))))) (by rw[g];rfl)
   exact aB ⟨A.cut ⟨O,O,O,O,O,O,O,O,O,O,O,tv⟩,B⟩
  refine Gk A g O fun a A=>Gk A g O fun a A=>pk0 A g O O O O fun a A=>?_
  have A:=A.eqv (v':=(.bool ((K&&(decide (R.2=0)))&&(decide (R.1=3))))) (by rw[g];rfl)
  exact aB ⟨A.cut ⟨O,O,O,O,O,O,O,O,O,O,O,tv⟩,B⟩
 rintro a w ⟨A,B⟩
 refine S A 1 O fun a A=>?_
 refine jI [_,_,_] (fun a w=>Env 124 [(75,(.bool (((K&&(decide (R.2=0)))&&(decide (R.1=3)))&&(decide (Y.2=0))))),(2,(Pv b2 0)),(3,(.slice (some ⟨b3,0,none⟩) 5 5)),(6,vr11),(8,vr13),(9,(Iv X.2)),(10,vr15),(11,(Iv C.2)),(12,(Iv F.1)),(13,(.bool F.2))] a∧Hp Z ρ9 (aC 46 (.slice (some ⟨b3,0,none⟩) 5 5) ([(Opn.mk 0 0),(Opn.mk 1 1),(Opn.mk 2 (-1)),(Opn.mk 3 (-1)),(Opn.mk 4 2)]:List Opn)::aC 46 vr15 C.1::Pt b2 (.cells #[(Iv D.kind),(.string D.text),(Iv D.at_),(Iv D.fin),kJ] 24 (0,0))::Pt b1 (.cells #[(Iv E.kind),(.string E.text),(Iv E.at_),(Iv E.fin),kH] 24 (0,0))::L) w) ?_ ?_
 ·rcases vA ((K&&(decide (R.2=0)))&&(decide (R.1=3))) with f|f
  ·
   refine Gs A f O O fun a A=>Gs A f O O fun a A=>pk1 A f O O O O fun a A=>?_
   have A:=A.eqv (v':=(.bool (((K&&(decide (R.2=0)))&&(decide (R.1=3)))&&(decide (Y.2=0))))) (by rw[f];rfl)
   exact aB ⟨A.cut ⟨O,O,O,O,O,O,O,O,O,O,tv⟩,B⟩
  refine Gk A f O fun a A=>Gk A f O fun a A=>pk0 A f O O O O fun a A=>?_
  have A:=A.eqv (v':=(.bool (((K&&(decide (R.2=0)))&&(decide (R.1=3)))&&(decide (Y.2=0))))) (by rw[f];rfl)
  exact aB ⟨A.cut ⟨O,O,O,O,O,O,O,O,O,O,tv⟩,B⟩
 rintro a w ⟨A,B⟩
 refine S A 1 O fun a A=>?_
 obtain⟨m1,hg1,H⟩:=bnd H
 refine jI [_,_,_,_,_,_,_] (fun a w=>Env 124 [(83,(.bool m1)),(2,(Pv b2 0)),(3,(.slice (some ⟨b3,0,none⟩) 5 5)),(8,vr13),(9,(Iv X.2)),(10,vr15),(11,(Iv C.2)),(12,(Iv F.1)),(13,(.bool F.2))] a∧Hp Z ρ9 (aC 46 (.slice (some ⟨b3,0,none⟩) 5 5) ([(Opn.mk 0 0),(Opn.mk 1 1),(Opn.mk 2 (-1)),(Opn.mk 3 (-1)),(Opn.mk 4 2)]:List Opn)::aC 46 vr15 C.1::Pt b2 (.cells #[(Iv D.kind),(.string D.text),(Iv D.at_),(Iv D.fin),kJ] 24 (0,0))::Pt b1 (.cells #[(Iv E.kind),(.string E.text),(Iv E.at_),(Iv E.fin),kH] 24 (0,0))::L) w) ?_ ?_
 ·rcases vA (((K&&(decide (R.2=0)))&&(decide (R.1=3)))&&(decide (Y.2=0))) with J|J
  ·
   replace hg1:=(it J).symm.trans hg1
   refine Gs A J O O fun a A=>G A B J O (v:=(.agg #[(Iv 0),(Iv 0),(Iv 0),(Iv 0),(Iv 29),(.string (ByteArray.mk #[42]))])) (oD O A [(0,(Iv 0)),(4,(Iv 29)),(5,(.string (ByteArray.mk #[42])))] (by exact⟨⟨O,O⟩,⟨O,O⟩,⟨O,O⟩,tv⟩) (fun w=>by simp[Instr.build,Instr.fill,Value.cells,go_sem])) fun a A=>G A B J O (v:=(.agg #[(Iv 1),(Iv 3),(Iv 0),(Iv 0),(Iv 0),(.string ByteArray.empty)])) (oD O A [(0,(Iv 1)),(1,(Iv 3))] (by exact⟨⟨O,O⟩,⟨O,O⟩,tv⟩) (fun w=>by simp[Instr.build,Instr.fill,Value.cells,go_sem]<;>rfl)) fun a A=>G A B J O (v:=(.agg #[(Iv 1),(Iv 2),(Iv 0),(Iv 0),(Iv 0),(.string ByteArray.empty)])) (oD O A [(0,(Iv 1)),(1,(Iv 2))] (by exact⟨⟨O,O⟩,⟨O,O⟩,tv⟩) (fun w=>by simp[Instr.build,Instr.fill,Value.cells,go_sem]<;>rfl)) fun a A=>?_
   refine fU (wk1 A O O O J) O O A B O [(0,(.agg #[(Iv 0),(Iv 0),(Iv 0),(Iv 0),(Iv 29),(.string (ByteArray.mk #[42]))])),(1,(.agg #[(Iv 1),(Iv 3),(Iv 0),(Iv 0),(Iv 0),(.string ByteArray.empty)])),(2,(.agg #[(Iv 1),(Iv 2),(Iv 0),(Iv 0),(Iv 0),(.string ByteArray.empty)]))] ⟨⟨O,O⟩,⟨O,O⟩,⟨O,O⟩,tv⟩ [(Iv 0),(Iv 0),(Iv 0),(Iv 0),(Iv 29),(.string (ByteArray.mk #[42])),(Iv 1),(Iv 3),(Iv 0),(Iv 0),(Iv 0),(.string ByteArray.empty),(Iv 1),(Iv 2),(Iv 0),(Iv 0),(Iv 0),(.string ByteArray.empty)] 58 (fun w=>by simp[Instr.buildSlice,Instr.fill,Value.cells,go_sem]) ?_
   intro a w b5 A B
   have B:=r5 B
   have B:=(B.get 0 O).imp (uJ (l:=(([(Chg.mk 0 0 0 0 29 (ByteArray.mk #[42])),(Chg.mk 1 3 0 0 0 ByteArray.empty),(Chg.mk 1 2 0 0 0 ByteArray.empty)]:List Chg):List Chg)) (n:=3) O (by decide) O)
   have B:=r5 B
   obtain⟨k7,k7a,k7d,k7h⟩:=(B.get 0 O).lend
   obtain⟨x15,ex15,hg1⟩:=bnd hg1
   refine Cg A J O O ent19 (aK6 Y.1 vr11 (aH.mono (aH.mono f2 T) (PH.le_un _ _)) ([(Chg.mk 0 0 0 0 29 (ByteArray.mk #[42])),(Chg.mk 1 3 0 0 0 ByteArray.empty),(Chg.mk 1 2 0 0 0 ByteArray.empty)]:List Chg) (.slice (some ⟨b5,0,none⟩) 3 3) (aC.ro k7d k7a) k7h x15 ex15) ⟨O,O,tv⟩ fun v a w I A=>?_
   obtain⟨rfl,B⟩:=I
   have B:=Hp.back k7a k7d B
   have B:=r5 B
   refine pk1 A J O O O O fun a A=>?_
   obtain rfl:=oj hg1
   exact aB ⟨A.cut ⟨O,O,O,O,O,O,O,O,O,tv⟩,(B.drop)⟩
  replace hg1:=(ie J).symm.trans hg1
  refine Gk A J O fun a A=>Gk A J O fun a A=>Gk A J O fun a A=>Gk A J O fun a A=>Gk A J O fun a A=>Gk A J O fun a A=>pk0 A J O O O O fun a A=>?_
  obtain rfl:=oj hg1
  exact aB ⟨A.cut ⟨O,O,O,O,O,O,O,O,O,tv⟩,B⟩
 rintro a w ⟨A,B⟩
 refine S A 1 O fun a A=>?_
 refine jI [_,_,_] (fun a w=>Env 124 [(87,(.bool (m1&&(decide (X.2=0))))),(2,(Pv b2 0)),(3,(.slice (some ⟨b3,0,none⟩) 5 5)),(8,vr13),(10,vr15),(11,(Iv C.2)),(12,(Iv F.1)),(13,(.bool F.2))] a∧Hp Z ρ9 (aC 46 (.slice (some ⟨b3,0,none⟩) 5 5) ([(Opn.mk 0 0),(Opn.mk 1 1),(Opn.mk 2 (-1)),(Opn.mk 3 (-1)),(Opn.mk 4 2)]:List Opn)::aC 46 vr15 C.1::Pt b2 (.cells #[(Iv D.kind),(.string D.text),(Iv D.at_),(Iv D.fin),kJ] 24 (0,0))::Pt b1 (.cells #[(Iv E.kind),(.string E.text),(Iv E.at_),(Iv E.fin),kH] 24 (0,0))::L) w) ?_ ?_
 ·rcases vA m1 with e|e
  ·
   refine Gs A e O O fun a A=>Gs A e O O fun a A=>pk1 A e O O O O fun a A=>?_
   have A:=A.eqv (v':=(.bool (m1&&(decide (X.2=0))))) (by rw[e];rfl)
   exact aB ⟨A.cut ⟨O,O,O,O,O,O,O,O,tv⟩,B⟩
  refine Gk A e O fun a A=>Gk A e O fun a A=>pk0 A e O O O O fun a A=>?_
  have A:=A.eqv (v':=(.bool (m1&&(decide (X.2=0))))) (by rw[e];rfl)
  exact aB ⟨A.cut ⟨O,O,O,O,O,O,O,O,tv⟩,B⟩
 rintro a w ⟨A,B⟩
 refine S A 1 O fun a A=>?_
 obtain⟨m2,hg2,H⟩:=bnd H
 refine jI [_,_,_,_,_] (fun a w=>Env 124 [(93,(.bool m2)),(3,(.slice (some ⟨b3,0,none⟩) 5 5)),(10,vr15),(11,(Iv C.2)),(12,(Iv F.1)),(13,(.bool F.2))] a∧Hp Z ρ9 (aC 46 (.slice (some ⟨b3,0,none⟩) 5 5) ([(Opn.mk 0 0),(Opn.mk 1 1),(Opn.mk 2 (-1)),(Opn.mk 3 (-1)),(Opn.mk 4 2)]:List Opn)::aC 46 vr15 C.1::Pt b2 (.cells #[(Iv D.kind),(.string D.text),(Iv D.at_),(Iv D.fin),kJ] 24 (0,0))::Pt b1 (.cells #[(Iv E.kind),(.string E.text),(Iv E.at_),(Iv E.fin),kH] 24 (0,0))::L) w) ?_ ?_
 ·rcases vA (m1&&(decide (X.2=0))) with Q|Q
  ·
   replace hg2:=(it Q).symm.trans hg2
   refine Gs A Q O O fun a A=>G A B Q O (aK O A O (fun w c=>aX (cs:=[(Iv D.kind),(.string D.text),(Iv D.at_),(Iv D.fin),kJ]) cO (Hp.cN 2 O 0 _ (aS O) w c))) fun a A=>?_
   refine fU (wk1 A O O O Q) O O A B O [(0,(.agg #[(Iv D.kind),(.string D.text),(Iv D.at_),(Iv D.fin),kJ]))] ⟨⟨O,O⟩,tv⟩ [(Iv D.kind),(.string D.text),(Iv D.at_),(Iv D.fin),kJ] 24 (fun w=>by have k:=aH.cells (aH.mono (aH.mono (aH.mono aA6 (PH.le_un _ k3)) (PH.le_un _ k4)) T);simp only[Value.cells] at k;simp[Instr.buildSlice,Instr.fill,Value.cells,k,go_sem]) ?_
   intro a w b6 A B
   have B:=r5 B
   obtain⟨k8,k8a,k8d,B⟩:=(B.get 0 O).lend
   have f3:aH (ρ9.un k8) (.slice (some ⟨b6,0,none⟩) 1 1) ([D]:List Node):=aH.of_all (l:=(([D]:List Node))) k8d k8a ⟨_,_,O,(show NodeAt (ρ9.un k8) D [(Iv D.kind),(.string D.text),(Iv D.at_),(Iv D.fin),kJ] from NodeAt.shutv ((aH.mono (aH.mono (aH.mono (aH.mono aA6 (PH.le_un _ k3)) (PH.le_un _ k4)) T) (PH.le_un _ k8)))),O⟩
   have B:=r4 B
   obtain⟨x16,z,hg2⟩:=bnd hg2
   refine Cg A Q O O ent25 (aE4 X.1 vr13 (aH.mono hr13 (PH.le_un _ k8)) ([D]:List Node) (.slice (some ⟨b6,0,none⟩) 1 1) f3 B x16 z) ⟨O,O,tv⟩ fun v a w I A=>?_
   obtain⟨rfl,B⟩:=I
   have B:=r4 B
   refine pk1 A Q O O O O fun a A=>?_
   obtain rfl:=oj hg2
   exact aB ⟨A.cut ⟨O,O,O,O,O,O,tv⟩,(B.less (PH.le_un _ k8))⟩
  replace hg2:=(ie Q).symm.trans hg2
  refine Gk A Q O fun a A=>Gk A Q O fun a A=>Gk A Q O fun a A=>Gk A Q O fun a A=>pk0 A Q O O O O fun a A=>?_
  obtain rfl:=oj hg2
  exact aB ⟨A.cut ⟨O,O,O,O,O,O,tv⟩,B⟩
 rintro a w ⟨A,B⟩
 refine S A 1 O fun a A=>?_
 refine jI [_,_,_] (fun a w=>Env 124 [(97,(.bool (m2&&(decide (C.2=0))))),(3,(.slice (some ⟨b3,0,none⟩) 5 5)),(10,vr15),(12,(Iv F.1)),(13,(.bool F.2))] a∧Hp Z ρ9 (aC 46 (.slice (some ⟨b3,0,none⟩) 5 5) ([(Opn.mk 0 0),(Opn.mk 1 1),(Opn.mk 2 (-1)),(Opn.mk 3 (-1)),(Opn.mk 4 2)]:List Opn)::aC 46 vr15 C.1::Pt b2 (.cells #[(Iv D.kind),(.string D.text),(Iv D.at_),(Iv D.fin),kJ] 24 (0,0))::Pt b1 (.cells #[(Iv E.kind),(.string E.text),(Iv E.at_),(Iv E.fin),kH] 24 (0,0))::L) w) ?_ ?_
 ·rcases vA m2 with d|d
  ·
   refine Gs A d O O fun a A=>Gs A d O O fun a A=>pk1 A d O O O O fun a A=>?_
   have A:=A.eqv (v':=(.bool (m2&&(decide (C.2=0))))) (by rw[d];rfl)
   exact aB ⟨A.cut ⟨O,O,O,O,O,tv⟩,B⟩
  refine Gk A d O fun a A=>Gk A d O fun a A=>pk0 A d O O O O fun a A=>?_
  have A:=A.eqv (v':=(.bool (m2&&(decide (C.2=0))))) (by rw[d];rfl)
  exact aB ⟨A.cut ⟨O,O,O,O,O,tv⟩,B⟩
 rintro a w ⟨A,B⟩
 refine S A 1 O fun a A=>?_
 refine jI [_,_,_,_] (fun a w=>Env 124 [(102,(.bool ((m2&&(decide (C.2=0)))&&(decide (0<(C.1.length:Int)))))),(3,(.slice (some ⟨b3,0,none⟩) 5 5)),(12,(Iv F.1)),(13,(.bool F.2))] a∧Hp Z ρ9 (aC 46 (.slice (some ⟨b3,0,none⟩) 5 5) ([(Opn.mk 0 0),(Opn.mk 1 1),(Opn.mk 2 (-1)),(Opn.mk 3 (-1)),(Opn.mk 4 2)]:List Opn)::aC 46 vr15 C.1::Pt b2 (.cells #[(Iv D.kind),(.string D.text),(Iv D.at_),(Iv D.fin),kJ] 24 (0,0))::Pt b1 (.cells #[(Iv E.kind),(.string E.text),(Iv E.at_),(Iv E.fin),kH] 24 (0,0))::L) w) ?_ ?_
 ·rcases vA (m2&&(decide (C.2=0))) with b|b
  ·
   refine Gs A b O O fun a A=>G A B b O (bW O A O (aC.len B 1 O fE)) fun a A=>Gs A b O O fun a A=>pk1 A b O O O O fun a A=>?_
   have A:=A.eqv (v':=(.bool ((m2&&(decide (C.2=0)))&&(decide (0<(C.1.length:Int)))))) (by rw[b];rfl)
   exact aB ⟨A.cut ⟨O,O,O,O,tv⟩,B⟩
  refine Gk A b O fun a A=>Gk A b O fun a A=>Gk A b O fun a A=>pk0 A b O O O O fun a A=>?_
  have A:=A.eqv (v':=(.bool ((m2&&(decide (C.2=0)))&&(decide (0<(C.1.length:Int)))))) (by rw[b];rfl)
  exact aB ⟨A.cut ⟨O,O,O,O,tv⟩,B⟩
 rintro a w ⟨A,B⟩
 refine S A 1 O fun a A=>?_
 refine jI [_,_] (fun a w=>Env 124 [(105,(.bool (((m2&&(decide (C.2=0)))&&(decide (0<(C.1.length:Int))))&&F.2))),(3,(.slice (some ⟨b3,0,none⟩) 5 5)),(12,(Iv F.1))] a∧Hp Z ρ9 (aC 46 (.slice (some ⟨b3,0,none⟩) 5 5) ([(Opn.mk 0 0),(Opn.mk 1 1),(Opn.mk 2 (-1)),(Opn.mk 3 (-1)),(Opn.mk 4 2)]:List Opn)::aC 46 vr15 C.1::Pt b2 (.cells #[(Iv D.kind),(.string D.text),(Iv D.at_),(Iv D.fin),kJ] 24 (0,0))::Pt b1 (.cells #[(Iv E.kind),(.string E.text),(Iv E.at_),(Iv E.fin),kH] 24 (0,0))::L) w) ?_ ?_
 ·rcases vA ((m2&&(decide (C.2=0)))&&(decide (0<(C.1.length:Int)))) with i|i
  ·
   refine Gs A i O O fun a A=>pk1 A i O O O O fun a A=>?_
   have A:=A.eqv (v':=(.bool (((m2&&(decide (C.2=0)))&&(decide (0<(C.1.length:Int))))&&F.2))) (by rw[i];rfl)
   exact aB ⟨A.cut ⟨O,O,O,tv⟩,B⟩
  refine Gk A i O fun a A=>pk0 A i O O O O fun a A=>?_
  have A:=A.eqv (v':=(.bool (((m2&&(decide (C.2=0)))&&(decide (0<(C.1.length:Int))))&&F.2))) (by rw[i];rfl)
  exact aB ⟨A.cut ⟨O,O,O,tv⟩,B⟩
 rintro a w ⟨A,B⟩
 refine S A 1 O fun a A=>?_
 refine jI [_,_,_] (fun a w=>Env 124 [(109,(.bool ((((m2&&(decide (C.2=0)))&&(decide (0<(C.1.length:Int))))&&F.2)&&(decide (F.1=2))))),(3,(.slice (some ⟨b3,0,none⟩) 5 5))] a∧Hp Z ρ9 (aC 46 (.slice (some ⟨b3,0,none⟩) 5 5) ([(Opn.mk 0 0),(Opn.mk 1 1),(Opn.mk 2 (-1)),(Opn.mk 3 (-1)),(Opn.mk 4 2)]:List Opn)::aC 46 vr15 C.1::Pt b2 (.cells #[(Iv D.kind),(.string D.text),(Iv D.at_),(Iv D.fin),kJ] 24 (0,0))::Pt b1 (.cells #[(Iv E.kind),(.string E.text),(Iv E.at_),(Iv E.fin),kH] 24 (0,0))::L) w) ?_ ?_
 ·rcases vA (((m2&&(decide (C.2=0)))&&(decide (0<(C.1.length:Int))))&&F.2) with hc10|hc10
  ·
   refine Gs A hc10 O O fun a A=>Gs A hc10 O O fun a A=>pk1 A hc10 O O O O fun a A=>?_
   have A:=A.eqv (v':=(.bool ((((m2&&(decide (C.2=0)))&&(decide (0<(C.1.length:Int))))&&F.2)&&(decide (F.1=2))))) (by rw[hc10];rfl)
   exact aB ⟨A.cut ⟨O,O,tv⟩,B⟩
  refine Gk A hc10 O fun a A=>Gk A hc10 O fun a A=>pk0 A hc10 O O O O fun a A=>?_
  have A:=A.eqv (v':=(.bool ((((m2&&(decide (C.2=0)))&&(decide (0<(C.1.length:Int))))&&F.2)&&(decide (F.1=2))))) (by rw[hc10];rfl)
  exact aB ⟨A.cut ⟨O,O,tv⟩,B⟩
 rintro a w ⟨A,B⟩
 refine S A 1 O fun a A=>?_
 obtain⟨m3,hg3,H⟩:=bnd H
 refine jI [_,_,_,_,_] (fun a w=>Env 124 [(115,(.bool m3)),(3,(.slice (some ⟨b3,0,none⟩) 5 5))] a∧Hp Z ρ9 (aC 46 (.slice (some ⟨b3,0,none⟩) 5 5) ([(Opn.mk 0 0),(Opn.mk 1 1),(Opn.mk 2 (-1)),(Opn.mk 3 (-1)),(Opn.mk 4 2)]:List Opn)::aC 46 vr15 C.1::Pt b2 (.cells #[(Iv D.kind),(.string D.text),(Iv D.at_),(Iv D.fin),kJ] 24 (0,0))::Pt b1 (.cells #[(Iv E.kind),(.string E.text),(Iv E.at_),(Iv E.fin),kH] 24 (0,0))::L) w) ?_ ?_
 ·rcases vA ((((m2&&(decide (C.2=0)))&&(decide (0<(C.1.length:Int))))&&F.2)&&(decide (F.1=2))) with hc11|hc11
  ·
   replace hg3:=(it hc11).symm.trans hg3
   refine Gs A hc11 O O fun a A=>?_
   obtain⟨k9,k9a,k9d,k9h⟩:=(B.get 0 O).lend
   obtain⟨x17,y,hg3⟩:=bnd hg3
   refine s_call (wk1 A O O O hc11) O O A O [(.slice (some ⟨b3,0,none⟩) 5 5)] ⟨O,tv⟩ ent26 (aL1 ([(Opn.mk 0 0),(Opn.mk 1 1),(Opn.mk 2 (-1)),(Opn.mk 3 (-1)),(Opn.mk 4 2)]:List Opn) (.slice (some ⟨b3,0,none⟩) 5 5) (aC.ro k9d k9a) k9h x17 y) Ret.ret ?_
   intro vr22 a w I A
   obtain⟨u,rfl,B⟩:=Ret.of I
   have B:=Hp.back k9a k9d B
   have B:=r5 B
   refine G A B hc11 O (bW O A O (aC.len B 1 O fE)) fun a A=>Gs A hc11 O O fun a A=>pk1 A hc11 O O O O fun a A=>?_
   obtain rfl:=oj hg3
   exact aB ⟨A.cut ⟨O,O,tv⟩,((B.get 1 O).drop)⟩
  replace hg3:=(ie hc11).symm.trans hg3
  refine Gk A hc11 O fun a A=>Gk A hc11 O fun a A=>Gk A hc11 O fun a A=>Gk A hc11 O fun a A=>pk0 A hc11 O O O O fun a A=>?_
  obtain rfl:=oj hg3
  exact aB ⟨A.cut ⟨O,O,tv⟩,B⟩
 rintro a w ⟨A,B⟩
 refine S A 1 O fun a A=>?_
 obtain⟨m4,hg4,H⟩:=bnd H
 refine jI [_,_,_,_,_,_,_] (fun a w=>Env 124 [(123,(.bool m4))] a∧Hp Z ρ9 (aC 46 (.slice (some ⟨b3,0,none⟩) 5 5) ([(Opn.mk 0 0),(Opn.mk 1 1),(Opn.mk 2 (-1)),(Opn.mk 3 (-1)),(Opn.mk 4 2)]:List Opn)::aC 46 vr15 C.1::Pt b2 (.cells #[(Iv D.kind),(.string D.text),(Iv D.at_),(Iv D.fin),kJ] 24 (0,0))::Pt b1 (.cells #[(Iv E.kind),(.string E.text),(Iv E.at_),(Iv E.fin),kH] 24 (0,0))::L) w) ?_ ?_
 ·rcases vA m3 with hc12|hc12
  ·
   replace hg4:=(it hc12).symm.trans hg4
   refine Gs A hc12 O O fun a A=>Gs A hc12 O O fun a A=>?_
   obtain⟨k10,k10a,k10d,k10h⟩:=(B.get 0 O).lend
   obtain⟨p,x,hg4⟩:=bnd hg4
   refine s_call (wk1 A O O O hc12) O O A O [(.slice (some ⟨b3,0,none⟩) 5 5)] ⟨O,tv⟩ ent26 (aL1 ([(Opn.mk 0 0),(Opn.mk 1 1),(Opn.mk 2 (-1)),(Opn.mk 3 (-1)),(Opn.mk 4 2)]:List Opn) (.slice (some ⟨b3,0,none⟩) 5 5) (aC.ro k10d k10a) k10h p x) Ret.ret ?_
   intro vr23 a w I A
   obtain⟨u,rfl,B⟩:=Ret.of I
   have B:=Hp.back k10a k10d B
   have B:=r5 B
   obtain⟨k11,k11a,k11d,k11h⟩:=(B.get 0 O).lend
   obtain⟨k12,k12a,k12d,k12h⟩:=(k11h.get 0 O).lend
   obtain⟨x19,t,hg4⟩:=bnd hg4
   refine s_call (wk1 A O O O hc12) O O A O [(.slice (some ⟨b3,0,none⟩) 5 5),vr23] ⟨O,O,tv⟩ ent29 (c_align_Compose ([(Opn.mk 0 0),(Opn.mk 1 1),(Opn.mk 2 (-1)),(Opn.mk 3 (-1)),(Opn.mk 4 2)]:List Opn) (.slice (some ⟨b3,0,none⟩) 5 5) (aH.mono (aC.ro k11d k11a) (PH.le_un _ _)) p vr23 (aC.ro k12d k12a) k12h x19 t) Ret.ret ?_
   intro vr24 a w I A
   obtain⟨u,rfl,B⟩:=Ret.of I
   have B:=Hp.back k12a k12d B
   have B:=Hp.back k11a k11d B
   have B:=r6 B
   refine G A B hc12 O (bW O A O (aC.len B 2 O fE)) fun a A=>Gs A hc12 O O fun a A=>pk1 A hc12 O O O O fun a A=>?_
   obtain rfl:=oj hg4
   exact aB ⟨A.cut ⟨O,tv⟩,((((B.get 2 O).drop).get 1 O).drop)⟩
  replace hg4:=(ie hc12).symm.trans hg4
  refine Gk A hc12 O fun a A=>Gk A hc12 O fun a A=>Gk A hc12 O fun a A=>Gk A hc12 O fun a A=>Gk A hc12 O fun a A=>Gk A hc12 O fun a A=>pk0 A hc12 O O O O fun a A=>?_
  obtain rfl:=oj hg4
  exact aB ⟨A.cut ⟨O,tv⟩,B⟩
 rintro a w ⟨A,B⟩
 refine S A 1 O fun a A=>aB (cZ ?_)
 obtain rfl:=oj H
 exact gY A O O ⟨_,O,O,((((((((((((((((((B.get 3 O).drop).get 2 O).drop).get 1 O).drop).drop).less T).less (PH.le_un _ k4)).less (PH.le_un _ k3)).less U).less M).less W).less q).less m).less j).less o).less s)⟩
end Go.Proofs.YtopnldfjcciieaaGreat

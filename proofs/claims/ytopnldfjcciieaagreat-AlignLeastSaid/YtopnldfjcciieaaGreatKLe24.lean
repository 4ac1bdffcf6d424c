/- The code goes as its model: assessor/assessorref38.spans, assessor/assessorref38.Spans, assessor/assessorref38.Valid, assessor/assessorref38.Cost, assessor/asse -/
import Derived.Test.YtopnldfjcciieaaGreatKLeT
import Derived.Test.YtopnldfjcciieaaGreatKLe4
import Derived.Test.YtopnldfjcciieaaGreatKLe5
set_option linter.unusedVariables false
set_option linter.unusedSimpArgs false
set_option maxRecDepth 100000
set_option maxHeartbeats 4000000
namespace Go.Proofs.YtopnldfjcciieaaGreat
open Go.RowKit
theorem aA0 (self:(List Span)→Node→Int→Option (List Span)) (hself:∀{Z:World} {ρ:PH} {L:List bQ} {w:World} (G:(List Span)) (vp0:Value) (C:Node) (aJ:Value) (bG:aH ρ aJ C.kids) (F:Int) (B:Hp Z ρ (aC 70 vp0 G::L) w) (r:(List Span)) (H:self G C F=some r),Calls Tryz.prog 62 #[vp0,(.agg #[(Iv C.kind),(.string C.text),(Iv C.at_),(Iv C.fin),aJ]),(Iv F)] w (Ret fun v w'=>∃(vr1:Value),v=vr1∧Hp Z ρ (aC 70 vr1 r::L) w')) {Z:World} {ρ:PH} {L:List bQ} {w:World} (G:(List Span)) (vp0:Value) (C:Node) (aJ:Value) (bG:aH ρ aJ C.kids) (F:Int) (B:Hp Z ρ (aC 70 vp0 G::L) w) (r:(List Span)) (H:pO self G C F=some r):
  Calls Tryz.prog 62 #[vp0,(.agg #[(Iv C.kind),(.string C.text),(Iv C.at_),(Iv C.fin),aJ]),(Iv F)] w (Ret fun v w'=>∃(vr1:Value),v=vr1∧Hp Z ρ (aC 70 vr1 r::L) w'):=by
 refine enter (N:=42) Tryz.func62 O O [(0,vp0),(1,(.agg #[(Iv C.kind),(.string C.text),(Iv C.at_),(Iv C.fin),aJ])),(2,(Iv F))] O (bH ⟨O,O,O,tv⟩) fun a A=>?_
 unfold pO at H
 refine aG (aA ?_)
 refine iH (wk0 O) O O A B O (v:=(.agg #[(Iv C.kind),(.string C.text),(Iv C.at_),(Iv C.fin),aJ])) O ?_
 intro a w b1 A B
 have B:=r2 B
 refine S A 1 O fun a A=>aB (aG ?_)
 refine aA (S A 1 O fun a A=>?_)
 refine V A B O (bW O A O (aC.len B 1 O zQ)) fun a A=>S A 1 O fun a A=>aB (aG ?_)
 refine aA (S A 1 O fun a A=>?_)
 refine V A B O (xf A zH O O) fun a A=>V A B O (xl A aW 0 O O O O) fun a A=>V A B O (xf A xC O O) fun a A=>V A B O (xl A V8 0 O O O O) fun a A=>S A 1 O fun a A=>V A B O (v:=(.agg #[(Iv C.kind),(.string C.text),(Iv 0),(Iv F)])) (oD O A [(0,(Iv C.kind)),(1,(.string C.text)),(3,(Iv F))] (by exact⟨⟨O,O⟩,⟨O,O⟩,⟨O,O⟩,tv⟩) (fun w=>by simp[Instr.build,Instr.fill,Value.cells,go_sem])) fun a A=>?_
 refine fU (wk0 O) O O A B O [(0,(.agg #[(Iv C.kind),(.string C.text),(Iv 0),(Iv F)]))] ⟨⟨O,O⟩,tv⟩ [(Iv C.kind),(.string C.text),(Iv 0),(Iv F)] 70 (fun w=>by simp[Instr.buildSlice,Instr.fill,Value.cells,go_sem]) ?_
 intro a w b2 A B
 have B:=r3 B
 obtain⟨x1,W,H⟩:=bnd H
 refine gB (wk0 O) O O A B O zQ O O 2 O O (l2:=[(Span.mk C.kind C.text 0 F)]) O (fun j u M=>by have:=Hp.cN 0 O 0 _ (aS O) w B j u M;simpa using this) W ?_
 intro v1 a w A B
 have B:=r3 B
 refine S A 1 O fun a A=>aB (aG ?_)
 refine aG (aA ?_)
 refine S A 1 O fun a A=>aB ?_
 obtain⟨b3,Q,H⟩:=bnd H
 refine dM (fun a w=>∃(w1:Value),Env 42 [(0,w1),(7,(Iv (G.length:Int)))] a∧Hp Z ρ (Pt b2 (.cells #[(Iv C.kind),(.string C.text),(Iv 0),(Iv F)] 70 (0,0))::Pt b1 (.cells #[(Iv C.kind),(.string C.text),(Iv C.at_),(Iv C.fin),aJ] 24 (0,0))::aC 70 w1 b3::L) w) ?_ ?_
 ·refine eQ Q (fun s a w=>∃(w1:Value),Env 42 [(0,w1),(4,(Pv b1 0)),(7,(Iv (G.length:Int))),(8,(Iv s.1))] a∧Hp Z ρ (Pt b2 (.cells #[(Iv C.kind),(.string C.text),(Iv 0),(Iv F)] 70 (0,0))::Pt b1 (.cells #[(Iv C.kind),(.string C.text),(Iv C.at_),(Iv C.fin),aJ] 24 (0,0))::aC 70 w1 s.2::L) w) ?_ ?_
  ·exact⟨_,A.cut ⟨O,O,O,O,tv⟩,B⟩
  rintro⟨aQ,aU⟩ st a w ⟨w1,A,B⟩ D
  dsimp only at A B D
  unfold lZ at D
  refine aG (aG ?_)
  refine aA (S A 1 O fun a A=>?_)
  refine V A B O (xf A qA O O) fun a A=>V A B O (xl A iK 1 O O O O) fun a A=>V A B O (bW O A O (aH.len bG iZ)) fun a A=>S A 1 O fun a A=>aB ?_
  refine dK A O (fun I=>?_) (fun I=>?_)
  ·replace D:=(it I).symm.trans D
   refine bI (aG ?_)
   refine dN (aA ?_)
   refine S A 1 O fun a A=>V A B O (xf A qA O O) fun a A=>V A B O (xl A iK 1 O O O O) fun a A=>S A 1 O fun a A=>?_
   obtain⟨E,U,D⟩:=bnd D
   obtain⟨b4,b4o,b4c,b4r,b4k,b4f⟩:=aH.at bG iZ U
   obtain⟨uQ,rfl,aL8⟩:=NodeAt.opens b4k
   have b4f:AtP ρ b4 b4o [(Iv E.kind),(.string E.text),(Iv E.at_),(Iv E.fin),uQ]:=b4f
   refine V A B O (aO O A O O b4r) fun a A=>V A B O (aK O A O (fun w Y=>aX (cs:=[(Iv E.kind),(.string E.text),(Iv E.at_),(Iv E.fin),uQ]) cO (fun j u M=>cell_of Y.le (b4f j u M)))) fun a A=>S A 1 O fun a A=>?_
   obtain⟨X,T,D⟩:=bnd D
   refine s_call (wk0 O) O O A O [w1,(.agg #[(Iv E.kind),(.string E.text),(Iv E.at_),(Iv E.fin),uQ]),(Iv (G.length:Int))] ⟨O,O,O,tv⟩ ent62 (hself aU w1 E uQ aL8 (G.length:Int) (B.get 2 O) X T) Ret.ret ?_
   intro vr1 a w b A
   obtain⟨u,rfl,B⟩:=Ret.of b
   have B:=r3 B
   refine S A 1 O fun a A=>aB (aA ?_)
   refine S A 1 O fun a A=>?_
   obtain⟨x4,R,D⟩:=bnd D
   refine V A B O (bF O A O O (aN R)) fun a A=>S A 1 O fun a A=>aB ?_
   exact⟨_,(oj D).symm,_,A.cut ⟨O,O,O,O,tv⟩,(((B.get 0 O).get 2 O).get 2 O)⟩
  replace D:=(ie I).symm.trans D
  refine dZ ?_
  refine⟨_,(oj D).symm,fun hbb=>?_⟩
  subst hbb
  exact⟨_,A.cut ⟨O,O,tv⟩,B⟩
 rintro a w ⟨w1,A,B⟩
 refine aG (aA ?_)
 refine S A 3 O fun a A=>V A B O (bW O A O (aC.len B 2 O zQ)) fun a A=>?_
 obtain⟨K,J,H⟩:=bnd H
 obtain⟨b5,b5o,b5r,b5v,b5f⟩:=aC.at B 2 O zQ J
 refine V A B O (aO O A O O b5r) fun a A=>V A B O (xf A fldty70_2 O O) fun a A=>?_
 refine V7 (wk0 O) O A B O O O 2 O J b5v 2 (e':=(Span.mk K.kind K.text (b3.length:Int) K.parent)) aW.size_ O O O ⟨O,O⟩ ?_
 intro w B
 have B:=r3 B
 refine aB ?_
 have A:=A.cut (E':=[(0,w1)]) ⟨O,tv⟩
 refine aG (aA ?_)
 refine S A 2 O fun a A=>aB (cZ ?_)
 obtain rfl:=oj H
 exact gY A O O ⟨_,O,_,O,(((B.get 1 O).drop).drop)⟩
theorem aF3:∀(n:Nat),∀{Z:World} {ρ:PH} {L:List bQ} {w:World} (C:(List Span)) (vp0:Value) (A:Node) (aJ:Value) (bG:aH ρ aJ A.kids) (B:Int) (E:Hp Z ρ (aC 70 vp0 C::L) w) (r:(List Span)) (D:lC n C A B=some r),Calls Tryz.prog 62 #[vp0,(.agg #[(Iv A.kind),(.string A.text),(Iv A.at_),(Iv A.fin),aJ]),(Iv B)] w (Ret fun v w'=>∃(vr1:Value),v=vr1∧Hp Z ρ (aC 70 vr1 r::L) w'):=by
 intro n
 induction n with
 |zero=>intro Z ρ L w C vp0 A aJ bG B E r D;cases D
 |succ n ih=>intro Z ρ L w C vp0 A aJ bG B E r D;exact aA0 (lC n) ih C vp0 A aJ bG B E r D
theorem aK8 {Z:World} {ρ:PH} {L:List bQ} {w:World} (C:(List Span)) (vp0:Value) (A:Node) (aJ:Value) (bG:aH ρ aJ A.kids) (B:Int) (D:Hp Z ρ (aC 70 vp0 C::L) w) (r:(List Span)) (E:xN C A B=some r):
  Calls Tryz.prog 62 #[vp0,(.agg #[(Iv A.kind),(.string A.text),(Iv A.at_),(Iv A.fin),aJ]),(Iv B)] w (Ret fun v w'=>∃(vr1:Value),v=vr1∧Hp Z ρ (aC 70 vr1 r::L) w'):=aF3 _ C vp0 A aJ bG B D r E
theorem I7 {Z:World} {ρ:PH} {L:List bQ} {w:World} (A:Node) (aI:Value) (aY:aH ρ aI A.kids) (B:Hp Z ρ (L) w) (r:(List Span)) (D:nT A=some r):
  Calls Tryz.prog 37 #[(.agg #[(Iv A.kind),(.string A.text),(Iv A.at_),(Iv A.fin),aI])] w (Ret fun v w'=>∃(vr1:Value),v=vr1∧Hp Z ρ (aC 70 vr1 r::L) w'):=by
 refine enter (N:=6) Tryz.func37 O O [(0,(.agg #[(Iv A.kind),(.string A.text),(Iv A.at_),(Iv A.fin),aI]))] O (bH ⟨O,tv⟩) fun a C=>?_
 unfold nT at D
 refine aG (aA ?_)
 refine iH (wk0 O) O O C B O (v:=(.agg #[(Iv A.kind),(.string A.text),(Iv A.at_),(Iv A.fin),aI])) O ?_
 intro a w b1 C B
 have B:=r1 B
 refine S C 1 O fun a C=>aB (aG ?_)
 refine aA ?_
 refine fU (wk0 O) O O C B O [] trivial [] 70 (fun w=>by simp[Instr.buildSlice,Instr.fill,Value.cells,go_sem]) ?_
 intro a w b2 C B
 have B:=r2 B
 refine V C B O (aK O C O (fun w G=>aX (cs:=[(Iv A.kind),(.string A.text),(Iv A.at_),(Iv A.fin),aI]) cO (Hp.cN 1 O 0 _ (aS O) w G))) fun a C=>?_
 have B:=(B.get 0 O).imp (uJ (l:=(([]:List Span):List Span)) (n:=0) O (by decide) O)
 have B:=r2 B
 obtain⟨F,E,D⟩:=bnd D
 refine s_call (wk0 O) O O C O [(.slice (some ⟨b2,0,none⟩) 0 0),(.agg #[(Iv A.kind),(.string A.text),(Iv A.at_),(Iv A.fin),aI]),(Iv (-1))] ⟨O,O,O,tv⟩ ent62 (aK8 ([]:List Span) (.slice (some ⟨b2,0,none⟩) 0 0) A aI aY (-1) B F E) Ret.ret ?_
 intro vr1 a w H C
 obtain⟨u,rfl,B⟩:=Ret.of H
 have B:=r2 B
 refine S C 1 O fun a C=>aB (cZ ?_)
 obtain rfl:=oj D
 exact gY C O O ⟨_,O,_,O,((B.get 1 O).drop)⟩
theorem aK7 {Z:World} {ρ:PH} {L:List bQ} {w:World} (E:Node) (aI:Value) (aY:aH ρ aI E.kids) (D:Node) (aJ:Value) (bG:aH ρ aJ D.kids) (p2:(List Opn)) (vp2:Value) (hp2:aH ρ vp2 p2) (B:Hp Z ρ (L) w) (r:Bool) (J:qR E D p2=some r):
  Calls Tryz.prog 12 #[(.agg #[(Iv E.kind),(.string E.text),(Iv E.at_),(Iv E.fin),aI]),(.agg #[(Iv D.kind),(.string D.text),(Iv D.at_),(Iv D.fin),aJ]),vp2] w (Ret fun v w'=>v=(.bool r)∧Hp Z ρ (L) w'):=by
 refine enter (N:=169) Tryz.func12 O O [(0,(.agg #[(Iv E.kind),(.string E.text),(Iv E.at_),(Iv E.fin),aI])),(1,(.agg #[(Iv D.kind),(.string D.text),(Iv D.at_),(Iv D.fin),aJ])),(2,vp2)] O (bH ⟨O,O,O,tv⟩) fun a A=>?_
 unfold qR at J
 refine aG (aA ?_)
 refine iH (wk0 O) O O A B O (v:=(.agg #[(Iv E.kind),(.string E.text),(Iv E.at_),(Iv E.fin),aI])) O ?_
 intro a w b1 A B
 have B:=r1 B
 refine iH (wk0 O) O O A B O (v:=(.agg #[(Iv D.kind),(.string D.text),(Iv D.at_),(Iv D.fin),aJ])) O ?_
 intro a w b2 A B
 have B:=r2 B
 refine S A 1 O fun a A=>aB (aG ?_)
 obtain⟨W,ex1,J⟩:=bnd J
 obtain⟨Y,ex2,J⟩:=bnd J
 have B:=B.drew
 refine gK ([([],At0 Z ρ),([],At1 Z ρ (Pt b2 (.cells #[(Iv D.kind),(.string D.text),(Iv D.at_),(Iv D.fin),aJ] 24 (0,0)))),([],At1 Z ρ (Pt b1 (.cells #[(Iv E.kind),(.string E.text),(Iv E.at_),(Iv E.fin),aI] 24 (0,0))))]:Facts) (fun a w=>∃y4:Value,∃y3:Value,Env 169 [(2,vp2),(7,y3),(8,y4)] a∧Hp Z ρ (aC 70 y4 Y::aC 70 y3 W::Pt b2 (.cells #[(Iv D.kind),(.string D.text),(Iv D.at_),(Iv D.fin),aJ] 24 (0,0))::Pt b1 (.cells #[(Iv E.kind),(.string E.text),(Iv E.at_),(Iv E.fin),aI] 24 (0,0))::L) w) kr ⟨fun _=>⟨_,B⟩,fun _=>⟨_,(B.get 0 O)⟩,fun _=>⟨_,(B.get 1 O)⟩,tv⟩ (fun e=>?_) ?_
 ·
  generalize w.drew=w at e B⊢
  refine T 0 2 A e O O O kr (fun _=>aK O A O (fun w d=>aX (cs:=[(Iv E.kind),(.string E.text),(Iv E.at_),(Iv E.fin),aI]) cO (Hp.cN 0 O 0 _ (aS O) w d))) fun a A e=>T 2 1 A e O O O kr (fun _=>aK O A O (fun w d=>aX (cs:=[(Iv D.kind),(.string D.text),(Iv D.at_),(Iv D.fin),aJ]) cO (Hp.cN 0 O 0 _ (aS O) w d))) fun a A e=>?_
  refine W1 1 kr O ?_
  refine s_call (wk0 O) O O A O [(.agg #[(Iv E.kind),(.string E.text),(Iv E.at_),(Iv E.fin),aI])] ⟨O,tv⟩ ent37 (I7 E aI aY B W ex1) Ret.ret ?_
  intro vr3 a w hR A
  obtain⟨u,rfl,B⟩:=Ret.of hR
  have B:=r3 B
  refine aB (aF ⟨gp0 B,gp 1 B O,gp 2 B O,tv⟩ fun e=>?_)
  refine W1 3 kr O ?_
  refine s_call (wk0 O) O O A O [(.agg #[(Iv D.kind),(.string D.text),(Iv D.at_),(Iv D.fin),aJ])] ⟨O,tv⟩ ent37 (I7 D aJ bG B Y ex2) Ret.ret ?_
  intro vr4 a w hR A
  obtain⟨u,rfl,B⟩:=Ret.of hR
  have B:=r4 B
  refine aB (aF ⟨gp0 B,gp 2 B O,gp 3 B O,tv⟩ fun e=>?_)
  refine Ts [4,5] A e O O kr fun a A e=>?_
  exact bT kr ⟨_,_,A.cut ⟨O,O,O,tv⟩,B⟩
 rintro a w ⟨y4,y3,A,B⟩
 refine aG (aG ?_)
 refine aA (S A 1 O fun a A=>?_)
 refine V A B O (bW O A O (aH.len hp2 fE)) fun a A=>S A 1 O fun a A=>V A B O (bW O A O (aC.len B 1 O zQ)) fun a A=>S A 1 O fun a A=>V A B O (bW O A O (aC.len B 0 O zQ)) fun a A=>?_
 obtain⟨x3,ex3,J⟩:=bnd J
 refine V A B O (bF O A O O (aN ex3)) fun a A=>S A 1 O fun a A=>aB ?_
 refine dK A O (fun l=>?_) (fun l=>?_)
 ·replace J:=(it l).symm.trans J
  refine aG (aA ?_)
  refine S A 1 O fun a A=>aB (cZ ?_)
  obtain rfl:=oj J
  exact gY A O O ⟨_,O,O,(((((((B.get 3 O).drop).get 2 O).drop).get 1 O).drop).drop)⟩
 replace J:=(ie l).symm.trans J
 refine bI (aG ?_)
 refine aA (S A 1 O fun a A=>?_)
 refine aB (aG ?_)
 refine aA (S A 1 O fun a A=>?_)
 refine aB (aG ?_)
 refine aA (S A 1 O fun a A=>?_)
 refine V A B O (bW O A O (aC.len B 0 O zQ)) fun a A=>?_
 obtain⟨x4,ex4,J⟩:=bnd J
 refine aM4 (wk0 O) O O A B O (El:=4) (bytes:=1) kr (false:Bool) kr kr O O ex4 ?_
 intro v1 a w A B
 have B:=r5 B
 refine S A 1 O fun a A=>aB (aG ?_)
 refine aG (aA ?_)
 refine S A 1 O fun a A=>aB ?_
 obtain⟨b3,hc2,J⟩:=bnd J
 refine dM (fun a w=>∃s:(Int×(List Bool)),b3= .brk s∧(∃(w5:Value),Env 169 [(2,vp2),(7,y3),(8,y4),(9,(Iv s.1)),(11,w5)] a∧Hp Z ρ (aC 4 w5 s.2::aC 70 y4 Y::aC 70 y3 W::Pt b2 (.cells #[(Iv D.kind),(.string D.text),(Iv D.at_),(Iv D.fin),aJ] 24 (0,0))::Pt b1 (.cells #[(Iv E.kind),(.string E.text),(Iv E.at_),(Iv E.fin),aI] 24 (0,0))::L) w)) ?_ ?_
 ·refine eQ hc2 (fun s a w=>∃(w5:Value),Env 169 [(2,vp2),(7,y3),(8,y4),(9,(Iv s.1)),(10,(Iv s.2.1)),(11,w5),(12,(Iv s.2.2.1))] a∧Hp Z ρ (aC 4 w5 s.2.2.2::aC 70 y4 Y::aC 70 y3 W::Pt b2 (.cells #[(Iv D.kind),(.string D.text),(Iv D.at_),(Iv D.fin),aJ] 24 (0,0))::Pt b1 (.cells #[(Iv E.kind),(.string E.text),(Iv E.at_),(Iv E.fin),aI] 24 (0,0))::L) w) ?_ ?_
  ·exact⟨_,A.cut ⟨O,O,O,O,O,O,O,tv⟩,B⟩
  rintro⟨aQ,aU,dS,fK⟩ st a w ⟨w5,A,B⟩ C
  dsimp only at A B C
  unfold mO at C
  refine aG (aG ?_)
  refine aA (S A 2 O fun a A=>?_)
  refine V A B O (bW O A O (aH.len hp2 fE)) fun a A=>S A 1 O fun a A=>aB ?_
  refine dK A O (fun k=>?_) (fun k=>?_)
  ·replace C:=(it k).symm.trans C
   refine bI (aG ?_)
   refine dN (aG ?_)
   refine aA (S A 2 O fun a A=>?_)
   obtain⟨F,ex5,C⟩:=bnd C
   obtain⟨b4,b4o,b4c,b4r,b4k,b4f⟩:=aH.at hp2 fE ex5
   obtain rfl:b4c=Enc.enc F:=b4k
   have b4f:AtP ρ b4 b4o [(Iv F.a),(Iv F.b)]:=b4f
   refine V A B O (aO O A O O b4r) fun a A=>V A B O (aK O A O (fun w d=>aX (cs:=[(Iv F.a),(Iv F.b)]) fH (fun j u hj=>cell_of d.le (b4f j u hj)))) fun a A=>?_
   refine dF (wk0 O) O O A B O [(Iv 0),(Iv 0)] (fun w=>by simp[Instr.alloc,go_sem]<;>rfl) ?_
   intro a w b5 A B
   have B:=r6 B
   refine aV (wk0 O) O A B O O O 0 O fH.size_ O (aP ⟨O,O,tv⟩) [(Iv F.a),(Iv F.b)] O ?_
   intro w B
   have B:=r6 B
   refine aB (aG ?_)
   refine aG (aA ?_)
   refine V A B O (xf A fV O O) fun a A=>V A B O (xl A aW 0 O O O O) fun a A=>S A 1 O fun a A=>aB ?_
   have A:=A.cut (E':=[(2,vp2),(7,y3),(8,y4),(9,(Iv aQ)),(10,(Iv aU)),(11,w5),(12,(Iv dS)),(13,(Pv b5 0)),(46,(.bool (decide (0≤F.a))))]) ⟨O,O,O,O,O,O,O,O,O,tv⟩
   refine dK A O (fun i=>?_) (fun i=>?_)
   ·replace C:=(it i).symm.trans C
    refine aG (aG ?_)
    refine aA (V A B O (xf A fV O O) fun a A=>?_)
    refine V A B O (xl A aW 0 O O O O) fun a A=>S A 3 O fun a A=>?_
    refine jI [_,_,_,_,_,_] (fun a w=>Env 169 [(57,(.bool ((!decide (F.a=dS))||(decide ((W.length:Int)≤F.a))))),(2,vp2),(7,y3),(8,y4),(9,(Iv aQ)),(10,(Iv aU)),(11,w5),(12,(Iv dS)),(13,(Pv b5 0))] a∧Hp Z ρ (Pt b5 (.cells #[(Iv F.a),(Iv F.b)] 46 (0,0))::aC 4 w5 fK::aC 70 y4 Y::aC 70 y3 W::Pt b2 (.cells #[(Iv D.kind),(.string D.text),(Iv D.at_),(Iv D.fin),aJ] 24 (0,0))::Pt b1 (.cells #[(Iv E.kind),(.string E.text),(Iv E.at_),(Iv E.fin),aI] 24 (0,0))::L) w) ?_ ?_
    ·rcases vA (!decide (F.a=dS)) with U|U
     ·
      refine Gk A U O fun a A=>Gk A U O fun a A=>Gk A U O fun a A=>Gk A U O fun a A=>Gk A U O fun a A=>pk1 A U O O O O fun a A=>?_
      have A:=A.eqv (v':=(.bool ((!decide (F.a=dS))||(decide ((W.length:Int)≤F.a))))) (by rw[U];rfl)
      exact aB ⟨A.cut ⟨O,O,O,O,O,O,O,O,O,tv⟩,B⟩
     refine G A B U O (xf A fV O O) fun a A=>G A B U O (xl A aW 0 O O O O) fun a A=>Gs A U O O fun a A=>G A B U O (bW O A O (aC.len B 3 O zQ)) fun a A=>Gs A U O O fun a A=>pk0 A U O O O O fun a A=>?_
     have A:=A.eqv (v':=(.bool ((!decide (F.a=dS))||(decide ((W.length:Int)≤F.a))))) (by rw[U];rfl)
     exact aB ⟨A.cut ⟨O,O,O,O,O,O,O,O,O,tv⟩,B⟩
    rintro a w ⟨A,B⟩
    refine S A 1 O fun a A=>?_
    refine jI [_,_,_,_] (fun a w=>Env 169 [(62,(.bool (((!decide (F.a=dS))||(decide ((W.length:Int)≤F.a)))||(decide (F.b<(-1)))))),(2,vp2),(7,y3),(8,y4),(9,(Iv aQ)),(10,(Iv aU)),(11,w5),(12,(Iv dS)),(13,(Pv b5 0))] a∧Hp Z ρ (Pt b5 (.cells #[(Iv F.a),(Iv F.b)] 46 (0,0))::aC 4 w5 fK::aC 70 y4 Y::aC 70 y3 W::Pt b2 (.cells #[(Iv D.kind),(.string D.text),(Iv D.at_),(Iv D.fin),aJ] 24 (0,0))::Pt b1 (.cells #[(Iv E.kind),(.string E.text),(Iv E.at_),(Iv E.fin),aI] 24 (0,0))::L) w) ?_ ?_
    ·rcases vA ((!decide (F.a=dS))||(decide ((W.length:Int)≤F.a))) with X|X
     ·
      refine Gk A X O fun a A=>Gk A X O fun a A=>Gk A X O fun a A=>pk1 A X O O O O fun a A=>?_
      have A:=A.eqv (v':=(.bool (((!decide (F.a=dS))||(decide ((W.length:Int)≤F.a)))||(decide (F.b<(-1)))))) (by rw[X];rfl)
      exact aB ⟨A.cut ⟨O,O,O,O,O,O,O,O,O,tv⟩,B⟩
     refine G A B X O (xf A eF O O) fun a A=>G A B X O (xl A aW 0 O O O O) fun a A=>Gs A X O O fun a A=>pk0 A X O O O O fun a A=>?_
     have A:=A.eqv (v':=(.bool (((!decide (F.a=dS))||(decide ((W.length:Int)≤F.a)))||(decide (F.b<(-1)))))) (by rw[X];rfl)
     exact aB ⟨A.cut ⟨O,O,O,O,O,O,O,O,O,tv⟩,B⟩
    rintro a w ⟨A,B⟩
    refine S A 1 O fun a A=>?_
    refine jI [_,_,_,_,_,_] (fun a w=>Env 169 [(69,(.bool ((((!decide (F.a=dS))||(decide ((W.length:Int)≤F.a)))||(decide (F.b<(-1))))||(decide ((Y.length:Int)≤F.b))))),(2,vp2),(7,y3),(8,y4),(9,(Iv aQ)),(10,(Iv aU)),(11,w5),(12,(Iv dS)),(13,(Pv b5 0))] a∧Hp Z ρ (Pt b5 (.cells #[(Iv F.a),(Iv F.b)] 46 (0,0))::aC 4 w5 fK::aC 70 y4 Y::aC 70 y3 W::Pt b2 (.cells #[(Iv D.kind),(.string D.text),(Iv D.at_),(Iv D.fin),aJ] 24 (0,0))::Pt b1 (.cells #[(Iv E.kind),(.string E.text),(Iv E.at_),(Iv E.fin),aI] 24 (0,0))::L) w) ?_ ?_
    ·rcases vA (((!decide (F.a=dS))||(decide ((W.length:Int)≤F.a)))||(decide (F.b<(-1)))) with R|R
     ·
      refine Gk A R O fun a A=>Gk A R O fun a A=>Gk A R O fun a A=>Gk A R O fun a A=>Gk A R O fun a A=>pk1 A R O O O O fun a A=>?_
      have A:=A.eqv (v':=(.bool ((((!decide (F.a=dS))||(decide ((W.length:Int)≤F.a)))||(decide (F.b<(-1))))||(decide ((Y.length:Int)≤F.b))))) (by rw[R];rfl)
      exact aB ⟨A.cut ⟨O,O,O,O,O,O,O,O,O,tv⟩,B⟩
     refine G A B R O (xf A eF O O) fun a A=>G A B R O (xl A aW 0 O O O O) fun a A=>Gs A R O O fun a A=>G A B R O (bW O A O (aC.len B 2 O zQ)) fun a A=>Gs A R O O fun a A=>pk0 A R O O O O fun a A=>?_
     have A:=A.eqv (v':=(.bool ((((!decide (F.a=dS))||(decide ((W.length:Int)≤F.a)))||(decide (F.b<(-1))))||(decide ((Y.length:Int)≤F.b))))) (by rw[R];rfl)
     exact aB ⟨A.cut ⟨O,O,O,O,O,O,O,O,O,tv⟩,B⟩
    rintro a w ⟨A,B⟩
    refine aB ?_
    refine dK A O (fun h=>?_) (fun h=>?_)
    ·replace C:=(it h).symm.trans C
     refine aG (aA ?_)
     refine S A 1 O fun a A=>aB (cZ ?_)
     refine⟨_,(oj C).symm,fun hb=>?_⟩
     subst hb
     obtain rfl:=oj J
     exact gY A O O ⟨_,O,O,(((((((((((B.get 5 O).drop).get 4 O).drop).get 3 O).drop).get 2 O).drop).get 1 O).drop).drop)⟩
    replace C:=(ie h).symm.trans C
    refine bI (aA ?_)
    refine S A 1 O fun a A=>?_
    obtain⟨x6,ex6,C⟩:=bnd C
    refine V A B O (bF O A O O (aN ex6)) fun a A=>S A 1 O fun a A=>aB (aG ?_)
    refine aA (V A B O (xf A eF O O) fun a A=>?_)
    refine V A B O (xl A aW 0 O O O O) fun a A=>S A 1 O fun a A=>aB ?_
    refine dK A O (fun g=>?_) (fun g=>?_)
    ·replace C:=(it g).symm.trans C
     refine aG (aG ?_)
     refine aA (S A 1 O fun a A=>?_)
     refine V A B O (xf A eF O O) fun a A=>V A B O (xl A aW 0 O O O O) fun a A=>?_
     obtain⟨x7,ex7,C⟩:=bnd C
     obtain⟨b6,b6o,b6r,b6v,b6f⟩:=aC.at B 1 O yY ex7
     refine V A B O (aO O A O O b6r) fun a A=>V A B O (aK O A O (fun w d=>aZ N8 (b6f 0 _ O _ _ w (d.get 1 O)))) fun a A=>aB ?_
     refine dK A O (fun hc10=>?_) (fun hc10=>?_)
     ·replace C:=(it hc10).symm.trans C
      refine aG (aA ?_)
      refine S A 1 O fun a A=>aB (cZ ?_)
      refine⟨_,(oj C).symm,fun hb=>?_⟩
      subst hb
      obtain rfl:=oj J
      exact gY A O O ⟨_,O,O,(((((((((((B.get 5 O).drop).get 4 O).drop).get 3 O).drop).get 2 O).drop).get 1 O).drop).drop)⟩
     replace C:=(ie hc10).symm.trans C
     refine bI (aA ?_)
     refine S A 1 O fun a A=>V A B O (xf A eF O O) fun a A=>V A B O (xl A aW 0 O O O O) fun a A=>?_
     obtain⟨x8,o,C⟩:=bnd C
     obtain⟨b7,b7o,b7r,b7v,b7f⟩:=aC.at B 1 O yY o
     refine V A B O (aO O A O O b7r) fun a A=>?_
     refine V7 (wk0 O) O A B O O O 1 O o b7v 0 (e':=true) N8.size_ O O O ⟨O,O⟩ ?_
     intro w B
     have B:=r6 B
     refine aB ?_
     have A:=A.cut (E':=[(2,vp2),(7,y3),(8,y4),(9,(Iv x6)),(10,(Iv aU)),(11,w5),(12,(Iv dS))]) ⟨O,O,O,O,O,O,O,tv⟩
     refine aA (S A 1 O fun a A=>?_)
     obtain⟨x9,ex9,C⟩:=bnd C
     refine V A B O (bF O A O O (aN ex9)) fun a A=>S A 1 O fun a A=>aB ?_
     exact⟨_,(oj C).symm,_,A.cut ⟨O,O,O,O,O,O,O,tv⟩,(B.drop)⟩
    replace C:=(ie g).symm.trans C
    refine bI (aA ?_)
    refine S A 1 O fun a A=>?_
    obtain⟨x10,ex10,C⟩:=bnd C
    refine V A B O (bF O A O O (aN ex10)) fun a A=>S A 1 O fun a A=>aB ?_
    exact⟨_,(oj C).symm,_,A.cut ⟨O,O,O,O,O,O,O,tv⟩,(B.drop)⟩
   replace C:=(ie i).symm.trans C
   refine aG (aG ?_)
   refine aA (V A B O (xf A fV O O) fun a A=>?_)
   refine V A B O (xl A aW 0 O O O O) fun a A=>S A 2 O fun a A=>?_
   refine jI [_,_,_,_,_] (fun a w=>Env 169 [(80,(.bool ((!decide (F.a=(-1)))||(decide (F.b≤aU))))),(2,vp2),(7,y3),(8,y4),(9,(Iv aQ)),(11,w5),(12,(Iv dS)),(13,(Pv b5 0))] a∧Hp Z ρ (Pt b5 (.cells #[(Iv F.a),(Iv F.b)] 46 (0,0))::aC 4 w5 fK::aC 70 y4 Y::aC 70 y3 W::Pt b2 (.cells #[(Iv D.kind),(.string D.text),(Iv D.at_),(Iv D.fin),aJ] 24 (0,0))::Pt b1 (.cells #[(Iv E.kind),(.string E.text),(Iv E.at_),(Iv E.fin),aI] 24 (0,0))::L) w) ?_ ?_
   ·rcases vA (!decide (F.a=(-1))) with hc11|hc11
    ·
     refine Gk A hc11 O fun a A=>Gk A hc11 O fun a A=>Gk A hc11 O fun a A=>Gk A hc11 O fun a A=>pk1 A hc11 O O O O fun a A=>?_
     have A:=A.eqv (v':=(.bool ((!decide (F.a=(-1)))||(decide (F.b≤aU))))) (by rw[hc11];rfl)
     exact aB ⟨A.cut ⟨O,O,O,O,O,O,O,O,tv⟩,B⟩
    refine G A B hc11 O (xf A eF O O) fun a A=>G A B hc11 O (xl A aW 0 O O O O) fun a A=>Gs A hc11 O O fun a A=>Gs A hc11 O O fun a A=>pk0 A hc11 O O O O fun a A=>?_
    have A:=A.eqv (v':=(.bool ((!decide (F.a=(-1)))||(decide (F.b≤aU))))) (by rw[hc11];rfl)
    exact aB ⟨A.cut ⟨O,O,O,O,O,O,O,O,tv⟩,B⟩
   rintro a w ⟨A,B⟩
   refine S A 1 O fun a A=>?_
   refine jI [_,_,_,_,_,_] (fun a w=>Env 169 [(87,(.bool (((!decide (F.a=(-1)))||(decide (F.b≤aU)))||(decide ((Y.length:Int)≤F.b))))),(2,vp2),(7,y3),(8,y4),(9,(Iv aQ)),(11,w5),(12,(Iv dS)),(13,(Pv b5 0))] a∧Hp Z ρ (Pt b5 (.cells #[(Iv F.a),(Iv F.b)] 46 (0,0))::aC 4 w5 fK::aC 70 y4 Y::aC 70 y3 W::Pt b2 (.cells #[(Iv D.kind),(.string D.text),(Iv D.at_),(Iv D.fin),aJ] 24 (0,0))::Pt b1 (.cells #[(Iv E.kind),(.string E.text),(Iv E.at_),(Iv E.fin),aI] 24 (0,0))::L) w) ?_ ?_
   ·rcases vA ((!decide (F.a=(-1)))||(decide (F.b≤aU))) with hc12|hc12
    ·
     refine Gk A hc12 O fun a A=>Gk A hc12 O fun a A=>Gk A hc12 O fun a A=>Gk A hc12 O fun a A=>Gk A hc12 O fun a A=>pk1 A hc12 O O O O fun a A=>?_
     have A:=A.eqv (v':=(.bool (((!decide (F.a=(-1)))||(decide (F.b≤aU)))||(decide ((Y.length:Int)≤F.b))))) (by rw[hc12];rfl)
     exact aB ⟨A.cut ⟨O,O,O,O,O,O,O,O,tv⟩,B⟩
    refine G A B hc12 O (xf A eF O O) fun a A=>G A B hc12 O (xl A aW 0 O O O O) fun a A=>Gs A hc12 O O fun a A=>G A B hc12 O (bW O A O (aC.len B 2 O zQ)) fun a A=>Gs A hc12 O O fun a A=>pk0 A hc12 O O O O fun a A=>?_
    have A:=A.eqv (v':=(.bool (((!decide (F.a=(-1)))||(decide (F.b≤aU)))||(decide ((Y.length:Int)≤F.b))))) (by rw[hc12];rfl)
    exact aB ⟨A.cut ⟨O,O,O,O,O,O,O,O,tv⟩,B⟩
   rintro a w ⟨A,B⟩
   refine aB ?_
   refine dK A O (fun hc13=>?_) (fun hc13=>?_)
   ·replace C:=(it hc13).symm.trans C
    refine aG (aA ?_)
    refine S A 1 O fun a A=>aB (cZ ?_)
    refine⟨_,(oj C).symm,fun hb=>?_⟩
    subst hb
    obtain rfl:=oj J
    exact gY A O O ⟨_,O,O,(((((((((((B.get 5 O).drop).get 4 O).drop).get 3 O).drop).get 2 O).drop).get 1 O).drop).drop)⟩
   replace C:=(ie hc13).symm.trans C
   refine bI (aA ?_)
   refine V A B O (xf A eF O O) fun a A=>V A B O (xl A aW 0 O O O O) fun a A=>S A 1 O fun a A=>aB (aG ?_)
   refine aA (V A B O (xf A eF O O) fun a A=>?_)
   refine V A B O (xl A aW 0 O O O O) fun a A=>S A 1 O fun a A=>aB ?_
   refine dK A O (fun hc14=>?_) (fun hc14=>?_)
   ·replace C:=(it hc14).symm.trans C
    refine aG (aG ?_)
    refine aA (S A 1 O fun a A=>?_)
    refine V A B O (xf A eF O O) fun a A=>V A B O (xl A aW 0 O O O O) fun a A=>?_
    obtain⟨x11,ex11,C⟩:=bnd C
    obtain⟨b8,b8o,b8r,b8v,b8f⟩:=aC.at B 1 O yY ex11
    refine V A B O (aO O A O O b8r) fun a A=>V A B O (aK O A O (fun w d=>aZ N8 (b8f 0 _ O _ _ w (d.get 1 O)))) fun a A=>aB ?_
    refine dK A O (fun hc15=>?_) (fun hc15=>?_)
    ·replace C:=(it hc15).symm.trans C
     refine aG (aA ?_)
     refine S A 1 O fun a A=>aB (cZ ?_)
     refine⟨_,(oj C).symm,fun hb=>?_⟩
     subst hb
     obtain rfl:=oj J
     exact gY A O O ⟨_,O,O,(((((((((((B.get 5 O).drop).get 4 O).drop).get 3 O).drop).get 2 O).drop).get 1 O).drop).drop)⟩
    replace C:=(ie hc15).symm.trans C
    refine bI (aA ?_)
    refine S A 1 O fun a A=>V A B O (xf A eF O O) fun a A=>V A B O (xl A aW 0 O O O O) fun a A=>?_
    obtain⟨x12,f,C⟩:=bnd C
    obtain⟨b9,b9o,b9r,b9v,b9f⟩:=aC.at B 1 O yY f
    refine V A B O (aO O A O O b9r) fun a A=>?_
    refine V7 (wk0 O) O A B O O O 1 O f b9v 0 (e':=true) N8.size_ O O O ⟨O,O⟩ ?_
    intro w B
    have B:=r6 B
    refine aB ?_
    have A:=A.cut (E':=[(2,vp2),(7,y3),(8,y4),(9,(Iv aQ)),(10,(Iv F.b)),(11,w5),(12,(Iv dS))]) ⟨O,O,O,O,O,O,O,tv⟩
    refine aA (S A 1 O fun a A=>?_)
    obtain⟨x13,ex13,C⟩:=bnd C
    refine V A B O (bF O A O O (aN ex13)) fun a A=>S A 1 O fun a A=>aB ?_
    exact⟨_,(oj C).symm,_,A.cut ⟨O,O,O,O,O,O,O,tv⟩,(B.drop)⟩
   replace C:=(ie hc14).symm.trans C
   refine bI (aA ?_)
   refine S A 1 O fun a A=>?_
   obtain⟨x14,ex14,C⟩:=bnd C
   refine V A B O (bF O A O O (aN ex14)) fun a A=>S A 1 O fun a A=>aB ?_
   exact⟨_,(oj C).symm,_,A.cut ⟨O,O,O,O,O,O,O,tv⟩,(B.drop)⟩
  replace C:=(ie k).symm.trans C
  refine dZ ?_
  refine⟨_,(oj C).symm,fun hbb=>?_⟩
  exact⟨_,hbb.symm,_,A.cut ⟨O,O,O,O,O,tv⟩,B⟩
 rintro a w ⟨b3s,rfl,w5,A,B⟩
 dsimp only at J
 refine aG (aG ?_)
 refine aA (S A 2 O fun a A=>?_)
 refine V A B O (bW O A O (aC.len B 2 O zQ)) fun a A=>S A 1 O fun a A=>aB ?_
 refine dK A O (fun hc16=>?_) (fun hc16=>?_)
 ·replace J:=(it hc16).symm.trans J
  refine aG (aA ?_)
  refine S A 1 O fun a A=>aB (cZ ?_)
  obtain rfl:=oj J
  exact gY A O O ⟨_,O,O,(((((((((B.get 4 O).drop).get 3 O).drop).get 2 O).drop).get 1 O).drop).drop)⟩
 replace J:=(ie hc16).symm.trans J
 refine bI (aG ?_)
 refine aG (aA ?_)
 refine S A 1 O fun a A=>aB ?_
 obtain⟨b10,hc17,J⟩:=bnd J
 refine dM (fun a w=>∃s:Unit,b10= .brk s∧(Env 169 [(2,vp2),(7,y3),(8,y4)] a∧Hp Z ρ (aC 4 w5 b3s.2::aC 70 y4 Y::aC 70 y3 W::Pt b2 (.cells #[(Iv D.kind),(.string D.text),(Iv D.at_),(Iv D.fin),aJ] 24 (0,0))::Pt b1 (.cells #[(Iv E.kind),(.string E.text),(Iv E.at_),(Iv E.fin),aI] 24 (0,0))::L) w)) ?_ ?_
 ·refine eQ hc17 (fun s a w=>Env 169 [(2,vp2),(7,y3),(8,y4),(11,w5),(14,(Iv s))] a∧Hp Z ρ (aC 4 w5 b3s.2::aC 70 y4 Y::aC 70 y3 W::Pt b2 (.cells #[(Iv D.kind),(.string D.text),(Iv D.at_),(Iv D.fin),aJ] 24 (0,0))::Pt b1 (.cells #[(Iv E.kind),(.string E.text),(Iv E.at_),(Iv E.fin),aI] 24 (0,0))::L) w) ?_ ?_
  ·exact⟨A.cut ⟨O,O,O,O,O,tv⟩,B⟩
  rintro bP st a w ⟨A,B⟩ K
  unfold mP at K
  refine aG (aG ?_)
  refine aA (S A 2 O fun a A=>?_)
  refine V A B O (bW O A O (aC.len B 1 O zQ)) fun a A=>S A 1 O fun a A=>aB ?_
  refine dK A O (fun hc18=>?_) (fun hc18=>?_)
  ·replace K:=(it hc18).symm.trans K
   refine bI (aG ?_)
   refine dN (aG ?_)
   refine aA (S A 2 O fun a A=>?_)
   obtain⟨x15,ex15,K⟩:=bnd K
   obtain⟨b11,b11o,b11r,b11v,b11f⟩:=aC.at B 0 O yY ex15
   refine V A B O (aO O A O O b11r) fun a A=>V A B O (aK O A O (fun w d=>aZ N8 (b11f 0 _ O _ _ w (d.get 0 O)))) fun a A=>S A 1 O fun a A=>aB ?_
   refine dK A O (fun hc19=>?_) (fun hc19=>?_)
   ·replace K:=(it hc19).symm.trans K
    refine aG (aA ?_)
    refine S A 1 O fun a A=>aB (cZ ?_)
    refine⟨_,(oj K).symm,fun hb=>?_⟩
    subst hb
    obtain rfl:=oj J
    exact gY A O O ⟨_,O,O,(((((((((B.get 4 O).drop).get 3 O).drop).get 2 O).drop).get 1 O).drop).drop)⟩
   replace K:=(ie hc19).symm.trans K
   refine bI (aA ?_)
   refine S A 1 O fun a A=>?_
   obtain⟨x16,ex16,K⟩:=bnd K
   refine V A B O (bF O A O O (aN ex16)) fun a A=>S A 1 O fun a A=>aB ?_
   exact⟨_,(oj K).symm,A.cut ⟨O,O,O,O,O,tv⟩,B⟩
  replace K:=(ie hc18).symm.trans K
  refine dZ ?_
  refine⟨_,(oj K).symm,fun hbb=>?_⟩
  exact⟨_,hbb.symm,A.cut ⟨O,O,O,tv⟩,B⟩
 rintro a w ⟨b10s,rfl,A,B⟩
 dsimp only at J
 refine aG (aG ?_)
 refine aA (S A 1 O fun a A=>?_)
 refine aB ?_
 obtain⟨b12,hc20,J⟩:=bnd J
 refine dM (fun a w=>∃s:Unit,b12= .brk s∧(Env 169 [] a∧Hp Z ρ (aC 4 w5 b3s.2::aC 70 y4 Y::aC 70 y3 W::Pt b2 (.cells #[(Iv D.kind),(.string D.text),(Iv D.at_),(Iv D.fin),aJ] 24 (0,0))::Pt b1 (.cells #[(Iv E.kind),(.string E.text),(Iv E.at_),(Iv E.fin),aI] 24 (0,0))::L) w)) ?_ ?_
 ·refine eQ hc20 (fun s a w=>Env 169 [(2,vp2),(7,y3),(8,y4),(15,(Iv s))] a∧Hp Z ρ (aC 4 w5 b3s.2::aC 70 y4 Y::aC 70 y3 W::Pt b2 (.cells #[(Iv D.kind),(.string D.text),(Iv D.at_),(Iv D.fin),aJ] 24 (0,0))::Pt b1 (.cells #[(Iv E.kind),(.string E.text),(Iv E.at_),(Iv E.fin),aI] 24 (0,0))::L) w) ?_ ?_
  ·exact⟨A.cut ⟨O,O,O,O,tv⟩,B⟩
  rintro dR st a w ⟨A,B⟩ Q
  unfold iT at Q
  refine aG (aG ?_)
  refine aA (S A 2 O fun a A=>?_)
  refine V A B O (bW O A O (aC.len B 2 O zQ)) fun a A=>S A 1 O fun a A=>aB ?_
  refine dK A O (fun hc21=>?_) (fun hc21=>?_)
  ·replace Q:=(it hc21).symm.trans Q
   refine bI (aG ?_)
   refine dN (aG ?_)
   refine aA (S A 1 O fun a A=>?_)
   obtain⟨x17,ex17,Q⟩:=bnd Q
   refine V A B O (bF O A O O (aN ex17)) fun a A=>S A 1 O fun a A=>aB ?_
   obtain⟨b13,hc22,Q⟩:=bnd Q
   refine dM (fun a w=>∃s:Unit,b13= .brk s∧(Env 169 [(2,vp2),(7,y3),(8,y4),(15,(Iv dR))] a∧Hp Z ρ (aC 4 w5 b3s.2::aC 70 y4 Y::aC 70 y3 W::Pt b2 (.cells #[(Iv D.kind),(.string D.text),(Iv D.at_),(Iv D.fin),aJ] 24 (0,0))::Pt b1 (.cells #[(Iv E.kind),(.string E.text),(Iv E.at_),(Iv E.fin),aI] 24 (0,0))::L) w)) ?_ ?_
   ·refine eQ hc22 (fun s a w=>Env 169 [(2,vp2),(7,y3),(8,y4),(15,(Iv dR)),(16,(Iv s))] a∧Hp Z ρ (aC 4 w5 b3s.2::aC 70 y4 Y::aC 70 y3 W::Pt b2 (.cells #[(Iv D.kind),(.string D.text),(Iv D.at_),(Iv D.fin),aJ] 24 (0,0))::Pt b1 (.cells #[(Iv E.kind),(.string E.text),(Iv E.at_),(Iv E.fin),aI] 24 (0,0))::L) w) ?_ ?_
    ·exact⟨A.cut ⟨O,O,O,O,O,tv⟩,B⟩
    rintro fZ st a w ⟨A,B⟩ H
    unfold mQ at H
    refine aG (aG ?_)
    refine aA (S A 2 O fun a A=>?_)
    refine V A B O (bW O A O (aC.len B 2 O zQ)) fun a A=>S A 1 O fun a A=>aB ?_
    refine dK A O (fun hc23=>?_) (fun hc23=>?_)
    ·replace H:=(it hc23).symm.trans H
     refine bI (aG ?_)
     refine dN (aG ?_)
     refine jU kr kr B ?_
     refine Sq A 2 O fun a A=>?_
     obtain⟨M,z,H⟩:=bnd H
     obtain⟨b14,b14o,b14c,b14r,b14k,b14f⟩:=aH.at hp2 fE z
     obtain rfl:b14c=Enc.enc M:=b14k
     have b14f:AtP ρ b14 b14o [(Iv M.a),(Iv M.b)]:=b14f
     refine Vq A O (aO O A O O b14r) fun a A=>Vq A O (xf A eF O O) fun a A=>Vq A O (aK O A O (fun w d=>aZ aW (b14f.c 1 O w d))) fun a A=>Sq A 2 O fun a A=>?_
     obtain⟨I,y,H⟩:=bnd H
     obtain⟨b15,b15o,b15c,b15r,b15k,b15f⟩:=aH.at hp2 fE y
     obtain rfl:b15c=Enc.enc I:=b15k
     have b15f:AtP ρ b15 b15o [(Iv I.a),(Iv I.b)]:=b15f
     refine Vq A O (aO O A O O b15r) fun a A=>Vq A O (xf A eF O O) fun a A=>Vq A O (aK O A O (fun w d=>aZ aW (b15f.c 1 O w d))) fun a A=>Sq A 2 O fun a A=>?_
     refine jQ fun w B=>?_
     have B:=r5 B
     have A:=A.cut (E':=[(2,vp2),(7,y3),(8,y4),(15,(Iv dR)),(16,(Iv fZ)),(17,(Iv M.b)),(18,(Iv I.b))]) ⟨O,O,O,O,O,O,O,tv⟩
     refine aG ?_
     refine jU kr kr B ?_
     refine Sq A 3 O fun a A=>?_
     refine q_cut [_,_,_] (fun a=>Env 169 [(146,(.bool ((decide (0≤M.b))&&(decide (0≤I.b))))),(2,vp2),(7,y3),(8,y4),(15,(Iv dR)),(16,(Iv fZ)),(17,(Iv M.b)),(18,(Iv I.b))] a) ?_ ?_
     ·rcases vA (decide (0≤M.b)) with hc24|hc24
      ·
       refine Gq A hc24 O (iR O A O) fun a A=>Gq A hc24 O (ex_geq O A O O) fun a A=>Vq A O (v:=(.bool (decide (0≤I.b)))) (jM O A O hc24 O) fun a A=>?_
       have A:=A.eqv (v':=(.bool ((decide (0≤M.b))&&(decide (0≤I.b))))) (by rw[hc24];rfl)
       exact jQ (A.cut ⟨O,O,O,O,O,O,O,O,tv⟩)
      refine Gkq A hc24 O fun a A=>Gkq A hc24 O fun a A=>?_
      refine Vq A O (v:=(.bool false)) (iV O A O hc24 O) fun a A=>?_
      have A:=A.eqv (v':=(.bool ((decide (0≤M.b))&&(decide (0≤I.b))))) (by rw[hc24];rfl)
      exact jQ (A.cut ⟨O,O,O,O,O,O,O,O,tv⟩)
     intro a A
     refine Sq A 1 O fun a A=>?_
     obtain⟨m1,hg1,H⟩:=bnd H
     refine q_cut [_,_,_,_,_,_,_,_,_,_,_,_,_,_,_,_,_,_,_,_,_] (fun a=>Env 169 [(168,(.bool m1)),(2,vp2),(7,y3),(8,y4),(15,(Iv dR)),(16,(Iv fZ))] a) ?_ ?_
     ·rcases vA ((decide (0≤M.b))&&(decide (0≤I.b))) with hc25|hc25
      ·
       replace hg1:=(it hc25).symm.trans hg1
       refine Gq A hc25 O (iR O A O) fun a A=>Gq A hc25 O (iR O A O) fun a A=>Gq A hc25 O (aE5 O A O O) fun a A=>Gq A hc25 O (iR O A O) fun a A=>?_
       obtain⟨m2,hg2,hg1⟩:=bnd hg1
       refine q_cut [_,_,_,_,_,_,_,_,_,_,_,_,_,_,_,_] (fun a=>Env 169 [(167,(.bool m2)),(2,vp2),(7,y3),(8,y4),(15,(Iv dR)),(16,(Iv fZ)),(147,(.bool ((decide (0≤M.b))&&(decide (0≤I.b))))),(148,(Iv I.b)),(149,(Iv M.b)),(150,(.bool (decide (I.b<M.b)))),(151,(.bool (decide (I.b<M.b))))] a) ?_ ?_
       ·rcases vA (decide (I.b<M.b)) with hc26|hc26
        ·
         replace hg2:=(it hc26).symm.trans hg2
         refine Gkq A hc26 O fun a A=>Gkq A hc26 O fun a A=>Gkq A hc26 O fun a A=>Gkq A hc26 O fun a A=>Gkq A hc26 O fun a A=>Gkq A hc26 O fun a A=>Gkq A hc26 O fun a A=>Gkq A hc26 O fun a A=>Gkq A hc26 O fun a A=>Gkq A hc26 O fun a A=>Gkq A hc26 O fun a A=>Gkq A hc26 O fun a A=>Gkq A hc26 O fun a A=>Gkq A hc26 O fun a A=>Gkq A hc26 O fun a A=>Gq A hc25 O (v:=(.bool true)) (jM O A O hc26 O) fun a A=>?_
         obtain rfl:=oj hg2
         exact jQ (A.cut ⟨O,O,O,O,O,O,O,O,O,O,O,tv⟩)
        replace hg2:=(ie hc26).symm.trans hg2
        refine Gq A hc26 O (iR O A O) fun a A=>Gq A hc26 O (iR O A O) fun a A=>Gq A hc26 O (iR O A O) fun a A=>?_
        obtain⟨n,x,hg2⟩:=bnd hg2
        obtain⟨b16,b16o,b16r,b16v,b16f⟩:=aC.at B 2 O zQ x
        refine Gq A hc26 O (aO O A O O b16r) fun a A=>Gq A hc26 O (xf A fldty70_2 O O) fun a A=>Gq A hc26 O (aK O A O (fun w d=>aZ aW (b16f 2 _ O _ _ w (d.get 2 O)))) fun a A=>Gq A hc26 O (aE5 O A O O) fun a A=>Gq A hc26 O (iR O A O) fun a A=>Gq A hc26 O (iR O A O) fun a A=>Gq A hc26 O (iR O A O) fun a A=>?_
        obtain⟨m,t,hg2⟩:=bnd hg2
        obtain⟨b17,b17o,b17r,b17v,b17f⟩:=aC.at B 1 O zQ t
        refine Gq A hc26 O (aO O A O O b17r) fun a A=>Gq A hc26 O (xf A fldty70_2 O O) fun a A=>Gq A hc26 O (aK O A O (fun w d=>aZ aW (b17f 2 _ O _ _ w (d.get 1 O)))) fun a A=>Gq A hc26 O (aE5 O A O O) fun a A=>Gq A hc26 O (v:=(.bool (!((decide (fZ<n.last))==(decide (I.b<m.last)))))) (ex_bneq bty4 O A O O) fun a A=>Gq A hc25 O (v:=(.bool (!((decide (fZ<n.last))==(decide (I.b<m.last)))))) (iV O A O hc26 O) fun a A=>?_
        obtain rfl:=oj hg2
        exact jQ (A.cut ⟨O,O,O,O,O,O,O,O,O,O,O,tv⟩)
       intro a A
       refine Vq A O (v:=(.bool m2)) (jM O A O hc25 O) fun a A=>?_
       obtain rfl:=oj hg1
       exact jQ (A.cut ⟨O,O,O,O,O,O,tv⟩)
      replace hg1:=(ie hc25).symm.trans hg1
      refine Gkq A hc25 O fun a A=>Gkq A hc25 O fun a A=>Gkq A hc25 O fun a A=>Gkq A hc25 O fun a A=>?_
      refine q_skip (wk3 A O O O) O O A ?_
      intro a A
      refine q_skip (wk3 A O O O) O O A ?_
      intro a A
      refine q_skip (wk3 A O O O) O O A ?_
      intro a A
      refine q_skip (wk3 A O O O) O O A ?_
      intro a A
      refine q_skip (wk3 A O O O) O O A ?_
      intro a A
      refine q_skip (wk3 A O O O) O O A ?_
      intro a A
      refine q_skip (wk3 A O O O) O O A ?_
      intro a A
      refine q_skip (wk3 A O O O) O O A ?_
      intro a A
      refine q_skip (wk3 A O O O) O O A ?_
      intro a A
      refine q_skip (wk3 A O O O) O O A ?_
      intro a A
      refine q_skip (wk3 A O O O) O O A ?_
      intro a A
      refine q_skip (wk3 A O O O) O O A ?_
      intro a A
      refine q_skip (wk3 A O O O) O O A ?_
      intro a A
      refine q_skip (wk3 A O O O) O O A ?_
      intro a A
      refine q_skip (wk3 A O O O) O O A ?_
      intro a A
      refine Gkq A hc25 O fun a A=>?_
      refine Vq A O (v:=(.bool false)) (iV O A O hc25 O) fun a A=>?_
      obtain rfl:=oj hg1
      exact jQ (A.cut ⟨O,O,O,O,O,O,tv⟩)
     intro a A
     refine jQ fun w B=>?_
     have B:=r5 B
     refine dK A O (fun hc27=>?_) (fun hc27=>?_)
     ·replace H:=(it hc27).symm.trans H
      refine aG (aA ?_)
      refine S A 1 O fun a A=>aB (cZ ?_)
      refine⟨_,(oj H).symm,fun hb=>?_⟩
      subst hb
      refine⟨_,(oj Q).symm,fun hb=>?_⟩
      subst hb
      obtain rfl:=oj J
      exact gY A O O ⟨_,O,O,(((((((((B.get 4 O).drop).get 3 O).drop).get 2 O).drop).get 1 O).drop).drop)⟩
     replace H:=(ie hc27).symm.trans H
     refine bI (aA ?_)
     refine S A 1 O fun a A=>?_
     obtain⟨x22,q,H⟩:=bnd H
     refine V A B O (bF O A O O (aN q)) fun a A=>S A 1 O fun a A=>aB ?_
     exact⟨_,(oj H).symm,A.cut ⟨O,O,O,O,O,tv⟩,B⟩
    replace H:=(ie hc23).symm.trans H
    refine dZ ?_
    refine⟨_,(oj H).symm,fun hbb=>?_⟩
    exact⟨_,hbb.symm,A.cut ⟨O,O,O,O,tv⟩,B⟩
   rintro a w ⟨b13s,rfl,A,B⟩
   dsimp only at Q
   refine aA (S A 1 O fun a A=>?_)
   obtain⟨x23,p,Q⟩:=bnd Q
   refine V A B O (bF O A O O (aN p)) fun a A=>S A 1 O fun a A=>aB ?_
   exact⟨_,(oj Q).symm,A.cut ⟨O,O,O,O,tv⟩,B⟩
  replace Q:=(ie hc21).symm.trans Q
  refine dZ ?_
  refine⟨_,(oj Q).symm,fun hbb=>?_⟩
  exact⟨_,hbb.symm,A.cut trivial,B⟩
 rintro a w ⟨b12s,rfl,A,B⟩
 dsimp only at J
 refine aG (aA ?_)
 refine S A 1 O fun a A=>aB (cZ ?_)
 obtain rfl:=oj J
 exact gY A O O ⟨_,O,O,(((((((((B.get 4 O).drop).get 3 O).drop).get 2 O).drop).get 1 O).drop).drop)⟩
end Go.Proofs.YtopnldfjcciieaaGreat

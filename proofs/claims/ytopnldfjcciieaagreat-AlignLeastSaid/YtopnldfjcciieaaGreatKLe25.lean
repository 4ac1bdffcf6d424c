/- The code goes as its model: assessor/assessorref37.flat, assessor/assessorref37.table, assessor/assessorref37.forests. (Printed by wip/sp/gen.py.) -/
import Derived.Test.YtopnldfjcciieaaGreatKLeT
import Derived.Test.YtopnldfjcciieaaGreatKLe4
import Derived.Test.YtopnldfjcciieaaGreatKLe5
set_option linter.unusedVariables false
set_option linter.unusedSimpArgs false
set_option maxRecDepth 100000
set_option maxHeartbeats 4000000
namespace Go.Proofs.YtopnldfjcciieaaGreat
open Go.RowKit
theorem aD0 (self:RFlat→Node→Int→Option RFlat) (hself:∀{Z:World} {ρ:PH} {L:List bQ} {w:World} (E:RFlat) (fO:Value) (fP:Value) (eU:Value) (dH:Value) (C:Node) (aJ:Value) (bG:aH ρ aJ C.kids) (H:Int) (B:Hp Z ρ (aC 3 fO E.kinds::aC 9 fP E.texts::aC 3 eU E.left::aC 3 dH E.numbers::L) w) (r:RFlat) (G:self E C H=some r),Calls Tryz.prog 73 #[(.agg #[fO,fP,eU,dH]),(.agg #[(Iv C.kind),(.string C.text),(Iv C.at_),(Iv C.fin),aJ]),(Iv H)] w (Ret fun v w'=>∃(vZ:Value) (wC:Value) (uS:Value) (nR:Value),v=(.agg #[vZ,wC,uS,nR])∧Hp Z ρ (aC 3 vZ r.kinds::aC 9 wC r.texts::aC 3 uS r.left::aC 3 nR r.numbers::L) w')) {Z:World} {ρ:PH} {L:List bQ} {w:World} (E:RFlat) (fO:Value) (fP:Value) (eU:Value) (dH:Value) (C:Node) (aJ:Value) (bG:aH ρ aJ C.kids) (H:Int) (B:Hp Z ρ (aC 3 fO E.kinds::aC 9 fP E.texts::aC 3 eU E.left::aC 3 dH E.numbers::L) w) (r:RFlat) (G:qO self E C H=some r):
  Calls Tryz.prog 73 #[(.agg #[fO,fP,eU,dH]),(.agg #[(Iv C.kind),(.string C.text),(Iv C.at_),(Iv C.fin),aJ]),(Iv H)] w (Ret fun v w'=>∃(vZ:Value) (wC:Value) (uS:Value) (nR:Value),v=(.agg #[vZ,wC,uS,nR])∧Hp Z ρ (aC 3 vZ r.kinds::aC 9 wC r.texts::aC 3 uS r.left::aC 3 nR r.numbers::L) w'):=by
 refine enter (N:=65) Tryz.func73 O O [(0,(.agg #[fO,fP,eU,dH])),(1,(.agg #[(Iv C.kind),(.string C.text),(Iv C.at_),(Iv C.fin),aJ])),(2,(Iv H))] O (bH ⟨O,O,O,tv⟩) fun a A=>?_
 unfold qO at G
 refine aG (aA ?_)
 refine iH (wk0 O) O O A B O (v:=(.agg #[fO,fP,eU,dH])) O ?_
 intro a w b1 A B
 have B:=r5 B
 refine iH (wk0 O) O O A B O (v:=(.agg #[(Iv C.kind),(.string C.text),(Iv C.at_),(Iv C.fin),aJ])) O ?_
 intro a w b2 A B
 have B:=r6 B
 refine dF (wk0 O) O O A B O [N0,N0,N0,N0] (fun w=>by simp[Instr.alloc,go_sem]<;>rfl) ?_
 intro a w b3 A B
 have B:=r7 B
 refine aB (aG ?_)
 refine aA (V A B O (xf A qU O O) fun a A=>?_)
 refine V A B O (xl A aT 2 O O O O) fun a A=>V A B O (bW O A O (aC.len B 3 O bD)) fun a A=>S A 1 O fun a A=>aB (aG ?_)
 refine aA (S A 1 O fun a A=>?_)
 obtain⟨x1,k,G⟩:=bnd G
 refine V A B O (bF O A O O (aN k)) fun a A=>S A 1 O fun a A=>aB (aG ?_)
 refine aG (aA ?_)
 refine S A 1 O fun a A=>aB ?_
 obtain⟨b4,X,G⟩:=bnd G
 refine dM (fun a w=>∃(w1:Value) (w2:Value) (w3:Value) (w4:Value),Env 65 [(2,(Iv H)),(3,(Pv b1 0)),(4,(Pv b2 0)),(6,(Pv b3 0)),(7,(Iv (E.kinds.length:Int)))] a∧Hp Z ρ (Pt b3 (.cells #[N0,N0,N0,N0] 123 (0,0))::Pt b2 (.cells #[(Iv C.kind),(.string C.text),(Iv C.at_),(Iv C.fin),aJ] 24 (0,0))::Pt b1 (.cells #[w1,w2,w3,w4] 123 (0,0))::aC 3 w1 b4.1::aC 9 w2 b4.2.1::aC 3 w3 b4.2.2.1::aC 3 w4 b4.2.2.2::L) w) ?_ ?_
 ·refine eQ X (fun s a w=>∃(w1:Value) (w2:Value) (w3:Value) (w4:Value),Env 65 [(2,(Iv H)),(3,(Pv b1 0)),(4,(Pv b2 0)),(6,(Pv b3 0)),(7,(Iv (E.kinds.length:Int))),(8,(Iv s.1)),(9,(Iv s.2.1))] a∧Hp Z ρ (Pt b3 (.cells #[N0,N0,N0,N0] 123 (0,0))::Pt b2 (.cells #[(Iv C.kind),(.string C.text),(Iv C.at_),(Iv C.fin),aJ] 24 (0,0))::Pt b1 (.cells #[w1,w2,w3,w4] 123 (0,0))::aC 3 w1 s.2.2.1::aC 9 w2 s.2.2.2.1::aC 3 w3 s.2.2.2.2.1::aC 3 w4 s.2.2.2.2.2::L) w) ?_ ?_
  ·exact⟨_,_,_,_,A.cut ⟨O,O,O,O,O,O,O,tv⟩,B⟩
  rintro⟨aQ,aU,dS,fK,lp1_4,lp1_5⟩ st a w ⟨w1,w2,w3,w4,A,B⟩ D
  dsimp only at A B D
  unfold nN at D
  refine aG (aG ?_)
  refine aA (S A 1 O fun a A=>?_)
  refine V A B O (xf A qA O O) fun a A=>V A B O (xl A iK 1 O O O O) fun a A=>V A B O (bW O A O (aH.len bG iZ)) fun a A=>S A 1 O fun a A=>aB ?_
  refine dK A O (fun Q=>?_) (fun Q=>?_)
  ·replace D:=(it Q).symm.trans D
   refine bI (aG ?_)
   refine dN (aG ?_)
   obtain⟨K,i,D⟩:=bnd D
   obtain⟨R,h,D⟩:=bnd D
   have B:=B.drew
   refine gK ([([],At0 Z ρ),([],At1 Z ρ (Pt b2 (.cells #[(Iv C.kind),(.string C.text),(Iv C.at_),(Iv C.fin),aJ] 24 (0,0)))),([8],At1 Z ρ (Pt b1 (.cells #[w1,w2,w3,w4] 123 (0,0))))]:Facts) (fun a w=>∃y1:Value,∃y2:Value,∃y3:Value,∃y4:Value,Env 65 [(2,(Iv H)),(3,(Pv b1 0)),(4,(Pv b2 0)),(6,(Pv b3 0)),(7,(Iv (E.kinds.length:Int))),(8,(Iv aQ)),(9,(Iv aU))] a∧Hp Z ρ (aC 3 y1 R.kinds::aC 9 y2 R.texts::aC 3 y3 R.left::aC 3 y4 R.numbers::Pt b3 (.cells #[N0,N0,N0,N0] 123 (0,0))::Pt b2 (.cells #[(Iv C.kind),(.string C.text),(Iv C.at_),(Iv C.fin),aJ] 24 (0,0))::Pt b1 (.cells #[y1,y2,y3,y4] 123 (0,0))::L) w) kr ⟨fun _=>⟨_,B⟩,fun _=>⟨_,(B.get 1 O)⟩,fun _=>⟨_,(B.get 2 O)⟩,tv⟩ (fun F=>?_) ?_
   ·
    generalize w.drew=w at F B⊢
    refine T 0 2 A F O O O kr (fun _=>aK O A O (fun w M=>aX (cs:=[w1,w2,w3,w4]) iM (Hp.cN 0 O 0 _ (aS O) w M))) fun a A F=>T0 1 A F O O O kr (fun _=>xf A qA O O) fun a A F=>T 2 1 A F O O O kr (fun _=>xl A iK 0 O O O O) fun a A F=>Ts [3] A F O O kr fun a A F=>?_
    obtain⟨b6,b6o,b6c,b6r,b6k,b6f⟩:=aH.at bG iZ i
    obtain⟨aM5,rfl,hb6_kids⟩:=NodeAt.opens b6k
    have b6f:AtP ρ b6 b6o [(Iv K.kind),(.string K.text),(Iv K.at_),(Iv K.fin),aM5]:=b6f
    refine T0 4 A F O O O kr (fun _=>aO O A O O b6r) fun a A F=>T0 5 A F O O O kr (fun _=>aK O A O (fun w M=>aX (cs:=[(Iv K.kind),(.string K.text),(Iv K.at_),(Iv K.fin),aM5]) cO (fun j u I=>cell_of M.le (b6f j u I)))) fun a A F=>Ts [6] A F O O kr fun a A F=>?_
    refine W1 7 kr O ?_
    refine Cl A O O P5 (hself (RFlat.mk dS fK lp1_4 lp1_5) w1 w2 w3 w4 K aM5 hb6_kids aQ ((((B.get 6 O).get 6 O).get 6 O).get 6 O) R h) ⟨O,O,O,tv⟩ fun v a w Y A=>?_
    obtain⟨vr2_kinds,vr2_texts,vr2_left,vr2_numbers,rfl,B⟩:=Y
    have B:=r7 B
    refine aB (aF ⟨gp0 B,gp 5 B O,gp 6 B O,tv⟩ fun F=>?_)
    refine W1 8 kr O ?_
    refine aV (wk0 O) O A B O O O 6 O iM.size_ O (aP ⟨(aC.one B 0 O),(aC.one B 1 O),(aC.one B 2 O),(aC.one B 3 O),tv⟩) [vr2_kinds,vr2_texts,vr2_left,vr2_numbers] O ?_
    intro w B
    have B:=r7 B
    refine aB (aF ⟨gp0 B,gp 5 B O,dead kr,tv⟩ fun F=>?_)
    exact bT kr ⟨_,_,_,_,A.cut ⟨O,O,O,O,O,O,O,tv⟩,B⟩
   rintro a w ⟨y1,y2,y3,y4,A,B⟩
   refine aA (S A 1 O fun a A=>?_)
   refine V A B O (xf A qA O O) fun a A=>V A B O (xl A iK 5 O O O O) fun a A=>S A 1 O fun a A=>?_
   obtain⟨J,g,D⟩:=bnd D
   obtain⟨b7,b7o,b7c,b7r,b7k,b7f⟩:=aH.at bG iZ g
   obtain⟨aM6,rfl,hb7_kids⟩:=NodeAt.opens b7k
   have b7f:AtP ρ b7 b7o [(Iv J.kind),(.string J.text),(Iv J.at_),(Iv J.fin),aM6]:=b7f
   refine V A B O (aO O A O O b7r) fun a A=>V A B O (aK O A O (fun w M=>aX (cs:=[(Iv J.kind),(.string J.text),(Iv J.at_),(Iv J.fin),aM6]) cO (fun j u I=>cell_of M.le (b7f j u I)))) fun a A=>?_
   obtain⟨l,f,D⟩:=bnd D
   refine Cl A O O ent23 (I5 J aM6 hb7_kids B l f) ⟨O,tv⟩ fun v a w Y A=>?_
   obtain⟨rfl,B⟩:=Y
   have B:=r7 B
   obtain⟨x6,e,D⟩:=bnd D
   refine V A B O (bF O A O O (aN e)) fun a A=>S A 1 O fun a A=>aB (aA ?_)
   refine S A 1 O fun a A=>?_
   obtain⟨x7,d,D⟩:=bnd D
   refine V A B O (bF O A O O (aN d)) fun a A=>S A 1 O fun a A=>aB ?_
   exact⟨_,(oj D).symm,_,_,_,_,A.cut ⟨O,O,O,O,O,O,O,tv⟩,(((((((B.get 3 O).get 3 O).get 3 O).get 3 O).get 6 O).get 6 O).get 6 O)⟩
  replace D:=(ie Q).symm.trans D
  refine dZ ?_
  refine⟨_,(oj D).symm,fun hbb=>?_⟩
  subst hbb
  exact⟨_,_,_,_,A.cut ⟨O,O,O,O,O,tv⟩,B⟩
 rintro a w ⟨w1,w2,w3,w4,A,B⟩
 refine aG (aA ?_)
 refine V A B O (xf A qU O O) fun a A=>V A B O (xl A aT 2 O O O O) fun a A=>V A B O (xf A zH O O) fun a A=>V A B O (xl A aW 1 O O O O) fun a A=>?_
 refine fU (wk0 O) O O A B O [(0,(Iv C.kind))] ⟨⟨O,O⟩,tv⟩ [(Iv C.kind)] 3 (fun w=>by simp[Instr.buildSlice,Instr.fill,Value.cells,go_sem]) ?_
 intro a w b8 A B
 have B:=r8 B
 obtain⟨x8,c,G⟩:=bnd G
 refine gB (wk0 O) O O A B O bD O O 4 O O (l2:=[C.kind]) O (fun j u I=>by have:=Hp.cN 0 O 0 _ (aS O) w B j u I;simpa using this) c ?_
 intro v1 a w A B
 have B:=r8 B
 refine V A B O (xf A qU O O) fun a A=>?_
 refine bV (wk0 O) O A B O O O 3 O aT.size_ (aC.cells B 4 O) (aC.one B 4 O) O [v1,w2,w3,w4] O ?_
 intro w B
 have B:=r8 B
 refine aB ?_
 have A:=A.cut (E':=[(2,(Iv H)),(3,(Pv b1 0)),(4,(Pv b2 0)),(6,(Pv b3 0)),(7,(Iv (E.kinds.length:Int)))]) ⟨O,O,O,O,O,tv⟩
 refine aG (aA ?_)
 refine V A B O (xf A aI1 O O) fun a A=>V A B O (xl A aS3 3 O O O O) fun a A=>V A B O (xf A xC O O) fun a A=>V A B O (xl A V8 2 O O O O) fun a A=>?_
 refine fU (wk0 O) O O A B O [(0,(.string C.text))] ⟨⟨O,O⟩,tv⟩ [(.string C.text)] 9 (fun w=>by simp[Instr.buildSlice,Instr.fill,Value.cells,go_sem]) ?_
 intro a w b9 A B
 have B:=r9 B
 obtain⟨x9,b,G⟩:=bnd G
 refine gB (wk0 O) O O A B O slty121 O O 6 O O (l2:=[C.text]) O (fun j u I=>by have:=Hp.cN 0 O 0 _ (aS O) w B j u I;simpa using this) b ?_
 intro v2 a w A B
 have B:=r9 B
 refine V A B O (xf A aI1 O O) fun a A=>?_
 refine bV (wk0 O) O A B O O O 4 O aS3.size_ (aC.cells B 6 O) (aC.one B 6 O) O [v1,v2,w3,w4] O ?_
 intro w B
 have B:=r9 B
 refine aB (aG ?_)
 refine aA (V A B O (xf A yF O O) fun a A=>?_)
 refine V A B O (xl A aT 4 O O O O) fun a A=>S A 1 O fun a A=>?_
 refine fU (wk0 O) O O A B O [(0,(Iv (E.kinds.length:Int)))] ⟨⟨O,O⟩,tv⟩ [(Iv (E.kinds.length:Int))] 3 (fun w=>by simp[Instr.buildSlice,Instr.fill,Value.cells,go_sem]) ?_
 intro a w b10 A B
 have B:=r10 B
 obtain⟨n,W,G⟩:=bnd G
 refine gB (wk0 O) O O A B O bD O O 8 O O (l2:=[(E.kinds.length:Int)]) O (fun j u I=>by have:=Hp.cN 0 O 0 _ (aS O) w B j u I;simpa using this) W ?_
 intro v3 a w A B
 have B:=r10 B
 refine V A B O (xf A yF O O) fun a A=>?_
 refine bV (wk0 O) O A B O O O 5 O aT.size_ (aC.cells B 8 O) (aC.one B 8 O) O [v1,v2,v3,w4] O ?_
 intro w B
 have B:=r10 B
 refine aB (aG ?_)
 refine aA (V A B O (xf A aI2 O O) fun a A=>?_)
 refine V A B O (xl A aT 5 O O O O) fun a A=>S A 1 O fun a A=>?_
 refine fU (wk0 O) O O A B O [(0,(Iv H))] ⟨⟨O,O⟩,tv⟩ [(Iv H)] 3 (fun w=>by simp[Instr.buildSlice,Instr.fill,Value.cells,go_sem]) ?_
 intro a w b11 A B
 have B:=r11 B
 obtain⟨m,U,G⟩:=bnd G
 refine gB (wk0 O) O O A B O bD O O 10 O O (l2:=[H]) O (fun j u I=>by have:=Hp.cN 0 O 0 _ (aS O) w B j u I;simpa using this) U ?_
 intro v4 a w A B
 have B:=r11 B
 refine V A B O (xf A aI2 O O) fun a A=>?_
 refine bV (wk0 O) O A B O O O 6 O aT.size_ (aC.cells B 10 O) (aC.one B 10 O) O [v1,v2,v3,v4] O ?_
 intro w B
 have B:=r11 B
 refine aB (aG ?_)
 refine aA (V A B O (aK O A O (fun w M=>aX (cs:=[v1,v2,v3,v4]) iM (Hp.cN 6 O 0 _ (aS O) w M))) fun a A=>?_)
 refine aV (wk0 O) O A B O O O 4 O iM.size_ O (aP ⟨(aC.one B 7 O),(aC.one B 8 O),(aC.one B 9 O),(aC.one B 10 O),tv⟩) [v1,v2,v3,v4] O ?_
 intro w B
 have B:=r11 B
 refine aB ?_
 have A:=A.cut (E':=[(6,(Pv b3 0))]) ⟨O,tv⟩
 refine cZ ?_
 obtain rfl:=oj G
 exact retc1 A O O (aI6 (cs:=[v1,v2,v3,v4]) iM (Hp.cN 4 O 0 _ (aS O) _ B)) ⟨_,O,_,_,_,_,O,(((((((((((((B.get 6 O).drop).get 5 O).drop).get 4 O).drop).get 3 O).drop).get 2 O).drop).get 1 O).drop).drop)⟩
theorem aH7:∀(n:Nat),∀{Z:World} {ρ:PH} {L:List bQ} {w:World} (B:RFlat) (fO:Value) (fP:Value) (eU:Value) (dH:Value) (A:Node) (aJ:Value) (bG:aH ρ aJ A.kids) (C:Int) (E:Hp Z ρ (aC 3 fO B.kinds::aC 9 fP B.texts::aC 3 eU B.left::aC 3 dH B.numbers::L) w) (r:RFlat) (D:lY n B A C=some r),Calls Tryz.prog 73 #[(.agg #[fO,fP,eU,dH]),(.agg #[(Iv A.kind),(.string A.text),(Iv A.at_),(Iv A.fin),aJ]),(Iv C)] w (Ret fun v w'=>∃(vZ:Value) (wC:Value) (uS:Value) (nR:Value),v=(.agg #[vZ,wC,uS,nR])∧Hp Z ρ (aC 3 vZ r.kinds::aC 9 wC r.texts::aC 3 uS r.left::aC 3 nR r.numbers::L) w'):=by
 intro n
 induction n with
 |zero=>intro Z ρ L w B fO fP eU dH A aJ bG C E r D;cases D
 |succ n ih=>intro Z ρ L w B fO fP eU dH A aJ bG C E r D;exact aD0 (lY n) ih B fO fP eU dH A aJ bG C E r D
theorem eG {Z:World} {ρ:PH} {L:List bQ} {w:World} (B:RFlat) (fO:Value) (fP:Value) (eU:Value) (dH:Value) (A:Node) (aJ:Value) (bG:aH ρ aJ A.kids) (C:Int) (D:Hp Z ρ (aC 3 fO B.kinds::aC 9 fP B.texts::aC 3 eU B.left::aC 3 dH B.numbers::L) w) (r:RFlat) (E:rP B A C=some r):
  Calls Tryz.prog 73 #[(.agg #[fO,fP,eU,dH]),(.agg #[(Iv A.kind),(.string A.text),(Iv A.at_),(Iv A.fin),aJ]),(Iv C)] w (Ret fun v w'=>∃(vZ:Value) (wC:Value) (uS:Value) (nR:Value),v=(.agg #[vZ,wC,uS,nR])∧Hp Z ρ (aC 3 vZ r.kinds::aC 9 wC r.texts::aC 3 uS r.left::aC 3 nR r.numbers::L) w'):=aH7 _ B fO fP eU dH A aJ bG C D r E
theorem xJ {Z:World} {ρ:PH} {L:List bQ} {w:World} (G:Int) (F:Int) (B:Hp Z ρ (L) w) (r:(List (List Int))) (H:kR G F=some r):
  Calls Tryz.prog 74 #[(Iv G),(Iv F)] w (Ret fun v w'=>∃(vr1:Value) (usr1:List Sl),v=vr1∧Hp Z ρ (bM 73 3 vr1 usr1 (r:(List (List Int)))::L) w'):=by
 refine enter (N:=19) Tryz.func74 O O [(0,(Iv G)),(1,(Iv F))] O (bH ⟨O,O,tv⟩) fun a A=>?_
 unfold kR at H
 refine aG (aA ?_)
 refine S A 1 O fun a A=>aB (aG ?_)
 refine aA ?_
 refine fU (wk0 O) O O A B O [] trivial [] 73 (fun w=>by simp[Instr.buildSlice,Instr.fill,Value.cells,go_sem]) ?_
 intro a w b1 A B
 have B:=r1 B
 refine S A 1 O fun a A=>aB (aG ?_)
 refine aG (aA ?_)
 refine S A 1 O fun a A=>aB ?_
 have B:=B.emp (bM.none (α:=Int) 73 3 (some ⟨b1,0,none⟩))
 have B:=r2 B
 obtain⟨b2,I,H⟩:=bnd H
 refine dM (fun a w=>∃(w6:Value) (us6:List Sl),Env 19 [(5,w6)] a∧Hp Z ρ (bM 73 3 w6 us6 (b2:(List (List Int)))::Pt b1 (.cells #[] 73 (0,0))::L) w) ?_ ?_
 ·refine eQ I (fun s a w=>∃(w6:Value) (us6:List Sl),Env 19 [(0,(Iv G)),(1,(Iv F)),(5,w6),(6,(Iv s.1))] a∧Hp Z ρ (bM 73 3 w6 us6 (s.2:(List (List Int)))::Pt b1 (.cells #[] 73 (0,0))::L) w) ?_ ?_
  ·exact⟨_,_,A.cut ⟨O,O,O,O,tv⟩,B⟩
  rintro⟨aQ,aU⟩ st a w ⟨w6,us6,A,B⟩ C
  dsimp only at A B C
  unfold mM at C
  refine aG (aG ?_)
  refine aA (S A 3 O fun a A=>?_)
  refine aB ?_
  refine dK A O (fun D=>?_) (fun D=>?_)
  ·replace C:=(it D).symm.trans C
   refine bI (aG ?_)
   refine dN (aA ?_)
   refine S A 2 O fun a A=>?_
   obtain⟨x1,M,C⟩:=bnd C
   refine aM4 (wk0 O) O O A B O (El:=3) (bytes:=8) kr (0:Int) kr kr O O M ?_
   intro v1 a w A B
   have B:=r3 B
   refine fU (wk0 O) O O A B O [(0,v1)] ⟨⟨O,O⟩,tv⟩ [v1] 73 (fun w=>by have E:=aC.cells B 0 rfl;simp only[Value.cells] at E;simp[Instr.buildSlice,Instr.fill,Value.cells,E,go_sem]) ?_
   intro a w b3 A B
   have B:=r4 B
   obtain⟨x2,K,C⟩:=bnd C
   obtain⟨sl1,sl1e⟩:=aC.toSl B 1 O
   have hlo1:=fun(w:World) (ty:TypeId)=>aC.len B 1 O bD w ty
   refine s_tapp (wk0 O) O O A sl1e (B.get 1 O) O iE O O 1 O O (Hp.c 0 O 0 O w B) K ?_
   intro v2 us1 a w A B
   have B:=r3 B
   refine S A 1 O fun a A=>aB (aA ?_)
   refine S A 1 O fun a A=>?_
   obtain⟨x3,J,C⟩:=bnd C
   refine V A B O (bF O A O O (aN J)) fun a A=>S A 1 O fun a A=>aB ?_
   exact⟨_,(oj C).symm,_,_,A.cut ⟨O,O,O,O,tv⟩,(B.drop)⟩
  replace C:=(ie D).symm.trans C
  refine dZ ?_
  refine⟨_,(oj C).symm,fun hbb=>?_⟩
  subst hbb
  exact⟨_,_,A.cut ⟨O,tv⟩,B⟩
 rintro a w ⟨w6,us6,A,B⟩
 refine aG (aA ?_)
 refine S A 2 O fun a A=>aB (cZ ?_)
 obtain rfl:=oj H
 exact gY A O O ⟨_,O,_,_,O,((B.get 1 O).drop)⟩
theorem aF2 {Z:World} {ρ:PH} {L:List bQ} {w:World} (p0:RFlat) (fO:Value) (hp0_kinds:aH ρ fO p0.kinds) (fP:Value) (hp0_texts:aH ρ fP p0.texts) (eU:Value) (aA2:aH ρ eU p0.left) (dH:Value) (hp0_numbers:aH ρ dH p0.numbers) (p1:RFlat) (rE:Value) (hp1_kinds:aH ρ rE p1.kinds) (rF:Value) (hp1_texts:aH ρ rF p1.texts) (nY:Value) (aR6:aH ρ nY p1.left) (iI:Value) (hp1_numbers:aH ρ iI p1.numbers) (M:Int) (K:Int) (p4:(List (List Int))) (vp4:Value) (usp4:List Sl) (B:Hp Z ρ (bM 73 3 vp4 usp4 (p4:(List (List Int)))::L) w) (r:(List (List Int))) (Q:kZ p0 p1 M K p4=some r):
  Calls Tryz.prog 75 #[(.agg #[fO,fP,eU,dH]),(.agg #[rE,rF,nY,iI]),(Iv M),(Iv K),vp4] w (Ret fun v w'=>v= .tuple #[]∧Hp Z ρ (bM 73 3 vp4 usp4 (r:(List (List Int)))::L) w'):=by
 refine enter (N:=207) Tryz.func75 O O [(0,(.agg #[fO,fP,eU,dH])),(1,(.agg #[rE,rF,nY,iI])),(2,(Iv M)),(3,(Iv K)),(4,vp4)] O (bH ⟨O,O,O,O,O,tv⟩) fun a A=>?_
 unfold kZ at Q
 refine aG (aA ?_)
 refine iH (wk0 O) O O A B O (v:=(.agg #[fO,fP,eU,dH])) O ?_
 intro a w b1 A B
 have B:=r2 B
 refine iH (wk0 O) O O A B O (v:=(.agg #[rE,rF,nY,iI])) O ?_
 intro a w b2 A B
 have B:=r3 B
 refine aB (aG ?_)
 refine jU kr kr B ?_
 refine Vq A O (xf A yF O O) fun a A=>Vq A O (xl A aT 1 O O O O) fun a A=>Sq A 1 O fun a A=>?_
 obtain⟨J,ex1,Q⟩:=bnd Q
 obtain⟨b3,b3o,b3c,b3r,b3k,b3f⟩:=aH.at aA2 bD ex1
 obtain rfl:b3c=Enc.enc J:=b3k
 have b3f:AtP ρ b3 b3o [(Iv J)]:=b3f
 refine Vq A O (aO O A O O b3r) fun a A=>Vq A O (aK O A O (fun w D=>aZ aW (b3f.c 0 O w D))) fun a A=>Vq A O (xf A yF O O) fun a A=>Vq A O (xl A aT 0 O O O O) fun a A=>Sq A 1 O fun a A=>?_
 obtain⟨R,ex2,Q⟩:=bnd Q
 obtain⟨b4,b4o,b4c,b4r,b4k,b4f⟩:=aH.at aR6 bD ex2
 obtain rfl:b4c=Enc.enc R:=b4k
 have b4f:AtP ρ b4 b4o [(Iv R)]:=b4f
 refine Vq A O (aO O A O O b4r) fun a A=>Vq A O (aK O A O (fun w D=>aZ aW (b4f.c 0 O w D))) fun a A=>Sq A 2 O fun a A=>?_
 refine jQ fun w B=>?_
 have B:=r3 B
 refine aG (aA ?_)
 refine S A 2 O fun a A=>?_
 obtain⟨x3,ex3,Q⟩:=bnd Q
 refine V A B O (dQ O A O O (aN ex3)) fun a A=>?_
 obtain⟨x4,ex4,Q⟩:=bnd Q
 refine V A B O (bF O A O O (aN ex4)) fun a A=>S A 2 O fun a A=>?_
 obtain⟨x5,ex5,Q⟩:=bnd Q
 refine V A B O (dQ O A O O (aN ex5)) fun a A=>?_
 obtain⟨x6,ex6,Q⟩:=bnd Q
 refine V A B O (bF O A O O (aN ex6)) fun a A=>?_
 obtain⟨x7,ex7,Q⟩:=bnd Q
 refine s_call (wk0 O) O O A O [(Iv x4),(Iv x6)] ⟨O,O,tv⟩ ent74 (xJ x4 x6 B x7 ex7) Ret.ret ?_
 intro vr1 a w hR A
 obtain⟨u,usr1,rfl,B⟩:=Ret.of hR
 have B:=r4 B
 refine S A 1 O fun a A=>aB (aG ?_)
 refine aG (aA ?_)
 refine S A 1 O fun a A=>aB ?_
 have A:=A.cut (E':=[(2,(Iv M)),(3,(Iv K)),(4,vp4),(5,(Pv b1 0)),(6,(Pv b2 0)),(10,(Iv J)),(11,(Iv R)),(12,vr1),(13,(Iv 1))]) ⟨O,O,O,O,O,O,O,O,O,tv⟩
 obtain⟨b5,hc1,Q⟩:=bnd Q
 refine dM (fun a w=>Env 207 [(2,(Iv M)),(3,(Iv K)),(4,vp4),(5,(Pv b1 0)),(6,(Pv b2 0)),(10,(Iv J)),(11,(Iv R)),(12,vr1)] a∧Hp Z ρ (bM 73 3 vr1 usr1 (b5:(List (List Int)))::Pt b2 (.cells #[rE,rF,nY,iI] 123 (0,0))::Pt b1 (.cells #[fO,fP,eU,dH] 123 (0,0))::bM 73 3 vp4 usp4 (p4:(List (List Int)))::L) w) ?_ ?_
 ·refine eQ hc1 (fun s a w=>Env 207 [(2,(Iv M)),(3,(Iv K)),(4,vp4),(5,(Pv b1 0)),(6,(Pv b2 0)),(10,(Iv J)),(11,(Iv R)),(12,vr1),(13,(Iv s.1))] a∧Hp Z ρ (bM 73 3 vr1 usr1 (s.2:(List (List Int)))::Pt b2 (.cells #[rE,rF,nY,iI] 123 (0,0))::Pt b1 (.cells #[fO,fP,eU,dH] 123 (0,0))::bM 73 3 vp4 usp4 (p4:(List (List Int)))::L) w) ?_ ?_
  ·exact⟨A.cut ⟨O,O,O,O,O,O,O,O,O,tv⟩,B⟩
  rintro⟨aQ,aU⟩ st a w ⟨A,B⟩ H
  dsimp only at A B H
  unfold jB at H
  refine aG (aG ?_)
  refine aA (S A 3 O fun a A=>?_)
  obtain⟨x8,ex8,H⟩:=bnd H
  refine V A B O (dQ O A O O (aN ex8)) fun a A=>?_
  obtain⟨x9,ex9,H⟩:=bnd H
  refine V A B O (bF O A O O (aN ex9)) fun a A=>S A 1 O fun a A=>aB ?_
  have A:=A.cut (E':=[(2,(Iv M)),(3,(Iv K)),(4,vp4),(5,(Pv b1 0)),(6,(Pv b2 0)),(10,(Iv J)),(11,(Iv R)),(12,vr1),(13,(Iv aQ)),(45,(.bool (decide (aQ≤x9))))]) ⟨O,O,O,O,O,O,O,O,O,O,tv⟩
  refine dK A O (fun hc2=>?_) (fun hc2=>?_)
  ·replace H:=(it hc2).symm.trans H
   refine bI (aG ?_)
   refine dN (aA ?_)
   refine S A 2 O fun a A=>?_
   obtain⟨x10,d,H⟩:=bnd H
   obtain⟨b6u,b6,b6o,b6h,b6r,b6v,b6f⟩:=bM.hdr B 0 O iE d
   refine V A B O (aO O A O O b6r) fun a A=>V A B O (aK O A O (fun w D=>aZ aT (b6f 0 _ O _ _ w (D.get 0 O)))) fun a A=>S A 1 O fun a A=>?_
   obtain⟨x11,o,H⟩:=bnd H
   obtain⟨b7,b7o,b7r,b7v,b7f⟩:=bM.at B 0 O bD b6h d o
   refine V A B O (aO O A O O b7r) fun a A=>?_
   refine yA (wk0 O) O A B O O O 0 O b6h d o b7v 0 (e':=aQ) aW.size_ O O O ⟨O,O⟩ ?_
   intro w B
   have B:=r4 B
   refine aB (aA ?_)
   refine S A 1 O fun a A=>?_
   obtain⟨x12,ex12,H⟩:=bnd H
   refine V A B O (bF O A O O (aN ex12)) fun a A=>S A 1 O fun a A=>aB ?_
   exact⟨_,(oj H).symm,A.cut ⟨O,O,O,O,O,O,O,O,O,tv⟩,B⟩
  replace H:=(ie hc2).symm.trans H
  refine dZ ?_
  refine⟨_,(oj H).symm,fun hbb=>?_⟩
  subst hbb
  exact⟨A.cut ⟨O,O,O,O,O,O,O,O,tv⟩,B⟩
 rintro a w ⟨A,B⟩
 refine aG (aG ?_)
 refine aA (S A 1 O fun a A=>?_)
 refine aB ?_
 obtain⟨b8,hc3,Q⟩:=bnd Q
 refine dM (fun a w=>Env 207 [(2,(Iv M)),(3,(Iv K)),(4,vp4),(5,(Pv b1 0)),(6,(Pv b2 0)),(10,(Iv J)),(11,(Iv R)),(12,vr1)] a∧Hp Z ρ (bM 73 3 vr1 usr1 (b8:(List (List Int)))::Pt b2 (.cells #[rE,rF,nY,iI] 123 (0,0))::Pt b1 (.cells #[fO,fP,eU,dH] 123 (0,0))::bM 73 3 vp4 usp4 (p4:(List (List Int)))::L) w) ?_ ?_
 ·refine eQ hc3 (fun s a w=>Env 207 [(2,(Iv M)),(3,(Iv K)),(4,vp4),(5,(Pv b1 0)),(6,(Pv b2 0)),(10,(Iv J)),(11,(Iv R)),(12,vr1),(14,(Iv s.1))] a∧Hp Z ρ (bM 73 3 vr1 usr1 (s.2:(List (List Int)))::Pt b2 (.cells #[rE,rF,nY,iI] 123 (0,0))::Pt b1 (.cells #[fO,fP,eU,dH] 123 (0,0))::bM 73 3 vp4 usp4 (p4:(List (List Int)))::L) w) ?_ ?_
  ·exact⟨A.cut ⟨O,O,O,O,O,O,O,O,O,tv⟩,B⟩
  rintro⟨bP,eP⟩ st a w ⟨A,B⟩ F
  dsimp only at A B F
  unfold jC at F
  refine aG (aG ?_)
  refine aA (S A 3 O fun a A=>?_)
  obtain⟨x13,ex13,F⟩:=bnd F
  refine V A B O (dQ O A O O (aN ex13)) fun a A=>?_
  obtain⟨x14,ex14,F⟩:=bnd F
  refine V A B O (bF O A O O (aN ex14)) fun a A=>S A 1 O fun a A=>aB ?_
  have A:=A.cut (E':=[(2,(Iv M)),(3,(Iv K)),(4,vp4),(5,(Pv b1 0)),(6,(Pv b2 0)),(10,(Iv J)),(11,(Iv R)),(12,vr1),(14,(Iv bP)),(59,(.bool (decide (bP≤x14))))]) ⟨O,O,O,O,O,O,O,O,O,O,tv⟩
  refine dK A O (fun z=>?_) (fun z=>?_)
  ·replace F:=(it z).symm.trans F
   refine bI (aG ?_)
   refine dN (aA ?_)
   refine S A 1 O fun a A=>?_
   obtain⟨x15,b,F⟩:=bnd F
   obtain⟨b9u,b9,b9o,b9h,b9r,b9v,b9f⟩:=bM.hdr B 0 O iE b
   refine V A B O (aO O A O O b9r) fun a A=>V A B O (aK O A O (fun w D=>aZ aT (b9f 0 _ O _ _ w (D.get 0 O)))) fun a A=>S A 2 O fun a A=>?_
   obtain⟨x16,n,F⟩:=bnd F
   obtain⟨b10,b10o,b10r,b10v,b10f⟩:=bM.at B 0 O bD b9h b n
   refine V A B O (aO O A O O b10r) fun a A=>?_
   refine yA (wk0 O) O A B O O O 0 O b9h b n b10v 0 (e':=bP) aW.size_ O O O ⟨O,O⟩ ?_
   intro w B
   have B:=r4 B
   refine aB (aA ?_)
   refine S A 1 O fun a A=>?_
   obtain⟨x17,ex17,F⟩:=bnd F
   refine V A B O (bF O A O O (aN ex17)) fun a A=>S A 1 O fun a A=>aB ?_
   exact⟨_,(oj F).symm,A.cut ⟨O,O,O,O,O,O,O,O,O,tv⟩,B⟩
  replace F:=(ie z).symm.trans F
  refine dZ ?_
  refine⟨_,(oj F).symm,fun hbb=>?_⟩
  subst hbb
  exact⟨A.cut ⟨O,O,O,O,O,O,O,O,tv⟩,B⟩
 rintro a w ⟨A,B⟩
 refine aG (aA ?_)
 refine S A 1 O fun a A=>aB ?_
 obtain⟨b11,hc5,Q⟩:=bnd Q
 refine dM (fun a w=>Env 207 [] a∧Hp Z ρ (bM 73 3 vr1 usr1 (b11.1:(List (List Int)))::Pt b2 (.cells #[rE,rF,nY,iI] 123 (0,0))::Pt b1 (.cells #[fO,fP,eU,dH] 123 (0,0))::bM 73 3 vp4 usp4 (b11.2:(List (List Int)))::L) w) ?_ ?_
 ·refine eQ hc5 (fun s a w=>Env 207 [(2,(Iv M)),(3,(Iv K)),(4,vp4),(5,(Pv b1 0)),(6,(Pv b2 0)),(10,(Iv J)),(11,(Iv R)),(12,vr1),(15,(Iv s.1))] a∧Hp Z ρ (bM 73 3 vr1 usr1 (s.2.1:(List (List Int)))::Pt b2 (.cells #[rE,rF,nY,iI] 123 (0,0))::Pt b1 (.cells #[fO,fP,eU,dH] 123 (0,0))::bM 73 3 vp4 usp4 (s.2.2:(List (List Int)))::L) w) ?_ ?_
  ·exact⟨A.cut ⟨O,O,O,O,O,O,O,O,O,tv⟩,B⟩
  rintro⟨dR,vH,aK1⟩ st a w ⟨A,B⟩ I
  dsimp only at A B I
  unfold kV at I
  refine aG (aG ?_)
  refine aA (S A 3 O fun a A=>?_)
  obtain⟨x18,ex18,I⟩:=bnd I
  refine V A B O (dQ O A O O (aN ex18)) fun a A=>?_
  obtain⟨x19,ex19,I⟩:=bnd I
  refine V A B O (bF O A O O (aN ex19)) fun a A=>S A 1 O fun a A=>aB ?_
  have A:=A.cut (E':=[(2,(Iv M)),(3,(Iv K)),(4,vp4),(5,(Pv b1 0)),(6,(Pv b2 0)),(10,(Iv J)),(11,(Iv R)),(12,vr1),(15,(Iv dR)),(73,(.bool (decide (dR≤x19))))]) ⟨O,O,O,O,O,O,O,O,O,O,tv⟩
  refine dK A O (fun y=>?_) (fun y=>?_)
  ·replace I:=(it y).symm.trans I
   refine bI (aG ?_)
   refine dN (aG ?_)
   refine aA (S A 1 O fun a A=>?_)
   refine aB ?_
   obtain⟨b12,hc7,I⟩:=bnd I
   refine dM (fun a w=>Env 207 [(2,(Iv M)),(3,(Iv K)),(4,vp4),(5,(Pv b1 0)),(6,(Pv b2 0)),(10,(Iv J)),(11,(Iv R)),(12,vr1),(15,(Iv dR))] a∧Hp Z ρ (bM 73 3 vr1 usr1 (b12.1:(List (List Int)))::Pt b2 (.cells #[rE,rF,nY,iI] 123 (0,0))::Pt b1 (.cells #[fO,fP,eU,dH] 123 (0,0))::bM 73 3 vp4 usp4 (b12.2:(List (List Int)))::L) w) ?_ ?_
   ·refine eQ hc7 (fun s a w=>Env 207 [(2,(Iv M)),(3,(Iv K)),(4,vp4),(5,(Pv b1 0)),(6,(Pv b2 0)),(10,(Iv J)),(11,(Iv R)),(12,vr1),(15,(Iv dR)),(16,(Iv s.1))] a∧Hp Z ρ (bM 73 3 vr1 usr1 (s.2.1:(List (List Int)))::Pt b2 (.cells #[rE,rF,nY,iI] 123 (0,0))::Pt b1 (.cells #[fO,fP,eU,dH] 123 (0,0))::bM 73 3 vp4 usp4 (s.2.2:(List (List Int)))::L) w) ?_ ?_
    ·exact⟨A.cut ⟨O,O,O,O,O,O,O,O,O,O,tv⟩,B⟩
    rintro⟨fZ,jK,zU⟩ st a w ⟨A,B⟩ C
    dsimp only at A B C
    unfold jD at C
    refine aG (aG ?_)
    refine aA (S A 3 O fun a A=>?_)
    obtain⟨x20,ex20,C⟩:=bnd C
    refine V A B O (dQ O A O O (aN ex20)) fun a A=>?_
    obtain⟨x21,ex21,C⟩:=bnd C
    refine V A B O (bF O A O O (aN ex21)) fun a A=>S A 1 O fun a A=>aB ?_
    have A:=A.cut (E':=[(2,(Iv M)),(3,(Iv K)),(4,vp4),(5,(Pv b1 0)),(6,(Pv b2 0)),(10,(Iv J)),(11,(Iv R)),(12,vr1),(15,(Iv dR)),(16,(Iv fZ)),(81,(.bool (decide (fZ≤x21))))]) ⟨O,O,O,O,O,O,O,O,O,O,O,tv⟩
    refine dK A O (fun x=>?_) (fun x=>?_)
    ·replace C:=(it x).symm.trans C
     refine bI (aG ?_)
     refine dN (aG ?_)
     refine aA (S A 2 O fun a A=>?_)
     obtain⟨x22,ex22,C⟩:=bnd C
     refine V A B O (bF O A O O (aN ex22)) fun a A=>?_
     obtain⟨W,ex23,C⟩:=bnd C
     refine V A B O (dQ O A O O (aN ex23)) fun a A=>S A 2 O fun a A=>?_
     obtain⟨x24,ex24,C⟩:=bnd C
     refine V A B O (bF O A O O (aN ex24)) fun a A=>?_
     obtain⟨U,ex25,C⟩:=bnd C
     refine V A B O (dQ O A O O (aN ex25)) fun a A=>S A 2 O fun a A=>aB (aG ?_)
     refine jU kr kr B ?_
     refine Sq A 2 O fun a A=>?_
     obtain⟨x26,ex26,C⟩:=bnd C
     refine Vq A O (dQ O A O O (aN ex26)) fun a A=>?_
     obtain⟨x27,m,C⟩:=bnd C
     obtain⟨b13u,b13,b13o,b13h,b13r,b13v,b13f⟩:=bM.hdr B 0 O iE m
     refine Vq A O (aO O A O O b13r) fun a A=>Vq A O (aK O A O (fun w D=>aZ aT (b13f 0 _ O _ _ w (D.get 0 O)))) fun a A=>Sq A 1 O fun a A=>?_
     obtain⟨x28,ex28,C⟩:=bnd C
     obtain⟨b14,b14o,b14r,b14v,b14f⟩:=bM.at B 0 O bD b13h m ex28
     refine Vq A O (aO O A O O b14r) fun a A=>Vq A O (aK O A O (fun w D=>aZ aW (b14f 0 _ O _ _ w (D.get 0 O)))) fun a A=>Sq A 2 O fun a A=>?_
     obtain⟨x29,l,C⟩:=bnd C
     obtain⟨b15u,b15,b15o,b15h,b15r,b15v,b15f⟩:=bM.hdr B 0 O iE l
     refine Vq A O (aO O A O O b15r) fun a A=>Vq A O (aK O A O (fun w D=>aZ aT (b15f 0 _ O _ _ w (D.get 0 O)))) fun a A=>Sq A 1 O fun a A=>?_
     obtain⟨x30,ex30,C⟩:=bnd C
     refine Vq A O (dQ O A O O (aN ex30)) fun a A=>?_
     obtain⟨x31,ex31,C⟩:=bnd C
     obtain⟨b16,b16o,b16r,b16v,b16f⟩:=bM.at B 0 O bD b15h l ex31
     refine Vq A O (aO O A O O b16r) fun a A=>Vq A O (aK O A O (fun w D=>aZ aW (b16f 0 _ O _ _ w (D.get 0 O)))) fun a A=>Vq A O (v:=(Iv (min x28 x31))) (ex_min O A O O) fun a A=>?_
     obtain⟨T,ex32,C⟩:=bnd C
     refine Vq A O (bF O A O O (aN ex32)) fun a A=>Sq A 1 O fun a A=>?_
     refine jQ fun w B=>?_
     have B:=r4 B
     have A:=A.cut (E':=[(2,(Iv M)),(3,(Iv K)),(4,vp4),(5,(Pv b1 0)),(6,(Pv b2 0)),(10,(Iv J)),(11,(Iv R)),(12,vr1),(15,(Iv dR)),(16,(Iv fZ)),(17,(Iv W)),(18,(Iv U)),(19,(Iv T))]) ⟨O,O,O,O,O,O,O,O,O,O,O,O,O,tv⟩
     refine aG (aG ?_)
     refine aA (V A B O (xf A yF O O) fun a A=>?_)
     refine V A B O (xl A aT 2 O O O O) fun a A=>S A 1 O fun a A=>?_
     obtain⟨t,ex33,C⟩:=bnd C
     obtain⟨b17,b17o,b17c,b17r,b17k,b17f⟩:=aH.at aA2 bD ex33
     obtain rfl:b17c=Enc.enc t:=b17k
     have b17f:AtP ρ b17 b17o [(Iv t)]:=b17f
     refine V A B O (aO O A O O b17r) fun a A=>V A B O (aK O A O (fun w D=>aZ aW (b17f.c 0 O w D))) fun a A=>S A 3 O fun a A=>?_
     obtain⟨m1,hg1,C⟩:=bnd C
     refine jI [_,_,_,_,_,_,_,_] (fun a w=>Env 207 [(125,(.bool m1)),(2,(Iv M)),(3,(Iv K)),(4,vp4),(5,(Pv b1 0)),(6,(Pv b2 0)),(10,(Iv J)),(11,(Iv R)),(12,vr1),(15,(Iv dR)),(16,(Iv fZ)),(17,(Iv W)),(18,(Iv U)),(19,(Iv T))] a∧Hp Z ρ (bM 73 3 vr1 usr1 (jK:(List (List Int)))::Pt b2 (.cells #[rE,rF,nY,iI] 123 (0,0))::Pt b1 (.cells #[fO,fP,eU,dH] 123 (0,0))::bM 73 3 vp4 usp4 (zU:(List (List Int)))::L) w) ?_ ?_
     ·rcases vA (decide (t=J)) with E|E
      ·
       replace hg1:=(it E).symm.trans hg1
       refine G A B E O (xf A yF O O) fun a A=>G A B E O (xl A aT 1 O O O O) fun a A=>Gs A E O O fun a A=>?_
       obtain⟨x34,ex34,hg1⟩:=bnd hg1
       obtain⟨b18,b18o,b18c,b18r,b18k,b18f⟩:=aH.at aR6 bD ex34
       obtain rfl:b18c=Enc.enc x34:=b18k
       have b18f:AtP ρ b18 b18o [(Iv x34)]:=b18f
       refine G A B E O (aO O A O O b18r) fun a A=>G A B E O (aK O A O (fun w D=>aZ aW (b18f.c 0 O w D))) fun a A=>Gs A E O O fun a A=>Gs A E O O fun a A=>pk1 A E O O O O fun a A=>?_
       obtain rfl:=oj hg1
       exact aB ⟨A.cut ⟨O,O,O,O,O,O,O,O,O,O,O,O,O,O,tv⟩,B⟩
      replace hg1:=(ie E).symm.trans hg1
      refine Gk A E O fun a A=>Gk A E O fun a A=>Gk A E O fun a A=>Gk A E O fun a A=>Gk A E O fun a A=>Gk A E O fun a A=>Gk A E O fun a A=>pk0 A E O O O O fun a A=>?_
      obtain rfl:=oj hg1
      exact aB ⟨A.cut ⟨O,O,O,O,O,O,O,O,O,O,O,O,O,O,tv⟩,B⟩
     rintro a w ⟨A,B⟩
     refine aB ?_
     obtain⟨j1,hj1,C⟩:=bnd C
     refine aJ9 (fun a w=>Env 207 [(2,(Iv M)),(3,(Iv K)),(4,vp4),(5,(Pv b1 0)),(6,(Pv b2 0)),(10,(Iv J)),(11,(Iv R)),(12,vr1),(15,(Iv dR)),(16,(Iv fZ)),(19,(Iv j1.1))] a∧Hp Z ρ (bM 73 3 vr1 usr1 (jK:(List (List Int)))::Pt b2 (.cells #[rE,rF,nY,iI] 123 (0,0))::Pt b1 (.cells #[fO,fP,eU,dH] 123 (0,0))::bM 73 3 vp4 usp4 (j1.2:(List (List Int)))::L) w) ?_ ?_
     ·
      refine dK A O (fun hc10=>?_) (fun hc10=>?_)
      ·replace hj1:=(it hc10).symm.trans hj1
       refine aG (aA ?_)
       refine S A 2 O fun a A=>?_
       obtain⟨x35,ex35,hj1⟩:=bnd hj1
       refine V A B O (dQ O A O O (aN ex35)) fun a A=>?_
       obtain⟨x36,k,hj1⟩:=bnd hj1
       obtain⟨b19u,b19,b19o,b19h,b19r,b19v,b19f⟩:=bM.hdr B 0 O iE k
       refine V A B O (aO O A O O b19r) fun a A=>V A B O (aK O A O (fun w D=>aZ aT (b19f 0 _ O _ _ w (D.get 0 O)))) fun a A=>S A 1 O fun a A=>?_
       obtain⟨x37,ex37,hj1⟩:=bnd hj1
       refine V A B O (dQ O A O O (aN ex37)) fun a A=>?_
       obtain⟨x38,ex38,hj1⟩:=bnd hj1
       obtain⟨b20,b20o,b20r,b20v,b20f⟩:=bM.at B 0 O bD b19h k ex38
       refine V A B O (aO O A O O b20r) fun a A=>V A B O (aK O A O (fun w D=>aZ aW (b20f 0 _ O _ _ w (D.get 0 O)))) fun a A=>S A 1 O fun a A=>aB (aG ?_)
       refine aG ?_
       refine jU kr kr B ?_
       refine Vq A O (xf A qU O O) fun a A=>Vq A O (xl A aT 2 O O O O) fun a A=>Sq A 1 O fun a A=>?_
       obtain⟨q,ex39,hj1⟩:=bnd hj1
       obtain⟨b21,b21o,b21c,b21r,b21k,b21f⟩:=aH.at hp0_kinds bD ex39
       obtain rfl:b21c=Enc.enc q:=b21k
       have b21f:AtP ρ b21 b21o [(Iv q)]:=b21f
       refine Vq A O (aO O A O O b21r) fun a A=>Vq A O (aK O A O (fun w D=>aZ aW (b21f.c 0 O w D))) fun a A=>Vq A O (xf A qU O O) fun a A=>Vq A O (xl A aT 1 O O O O) fun a A=>Sq A 1 O fun a A=>?_
       obtain⟨p,ex40,hj1⟩:=bnd hj1
       obtain⟨b22,b22o,b22c,b22r,b22k,b22f⟩:=aH.at hp1_kinds bD ex40
       obtain rfl:b22c=Enc.enc p:=b22k
       have b22f:AtP ρ b22 b22o [(Iv p)]:=b22f
       refine Vq A O (aO O A O O b22r) fun a A=>Vq A O (aK O A O (fun w D=>aZ aW (b22f.c 0 O w D))) fun a A=>Sq A 2 O fun a A=>?_
       obtain⟨m2,hg2,hj1⟩:=bnd hj1
       refine q_cut [_,_,_,_,_,_,_,_,_,_,_,_] (fun a=>Env 207 [(158,(.bool m2)),(2,(Iv M)),(3,(Iv K)),(4,vp4),(5,(Pv b1 0)),(6,(Pv b2 0)),(10,(Iv J)),(11,(Iv R)),(12,vr1),(15,(Iv dR)),(16,(Iv fZ)),(17,(Iv W)),(18,(Iv U)),(19,(Iv T)),(20,(Iv x38))] a) ?_ ?_
       ·rcases vA (!decide (q=p)) with hc11|hc11
        ·
         replace hg2:=(it hc11).symm.trans hg2
         refine Gkq A hc11 O fun a A=>Gkq A hc11 O fun a A=>Gkq A hc11 O fun a A=>Gkq A hc11 O fun a A=>Gkq A hc11 O fun a A=>Gkq A hc11 O fun a A=>Gkq A hc11 O fun a A=>Gkq A hc11 O fun a A=>Gkq A hc11 O fun a A=>Gkq A hc11 O fun a A=>Gkq A hc11 O fun a A=>?_
         refine Vq A O (v:=(.bool true)) (jM O A O hc11 O) fun a A=>?_
         obtain rfl:=oj hg2
         exact jQ (A.cut ⟨O,O,O,O,O,O,O,O,O,O,O,O,O,O,O,tv⟩)
        replace hg2:=(ie hc11).symm.trans hg2
        refine Gq A hc11 O (xf A aI1 O O) fun a A=>Gq A hc11 O (xl A aS3 2 O O O O) fun a A=>Gq A hc11 O (iR O A O) fun a A=>?_
        obtain⟨f,ex41,hg2⟩:=bnd hg2
        obtain⟨b23,b23o,b23c,b23r,b23k,b23f⟩:=aH.at hp0_texts slty121 ex41
        obtain rfl:b23c=Enc.enc f:=b23k
        have b23f:AtP ρ b23 b23o [(.string f)]:=b23f
        refine Gq A hc11 O (aO O A O O b23r) fun a A=>Gq A hc11 O (aK O A O (fun w D=>aZ V8 (b23f.c 0 O w D))) fun a A=>Gq A hc11 O (xf A aI1 O O) fun a A=>Gq A hc11 O (xl A aS3 1 O O O O) fun a A=>Gq A hc11 O (iR O A O) fun a A=>?_
        obtain⟨e,ex42,hg2⟩:=bnd hg2
        obtain⟨b24,b24o,b24c,b24r,b24k,b24f⟩:=aH.at hp1_texts slty121 ex42
        obtain rfl:b24c=Enc.enc e:=b24k
        have b24f:AtP ρ b24 b24o [(.string e)]:=b24f
        refine Gq A hc11 O (aO O A O O b24r) fun a A=>Gq A hc11 O (aK O A O (fun w D=>aZ V8 (b24f.c 0 O w D))) fun a A=>Gq A hc11 O (v:=(.bool (!decide (f=e)))) (ex_sneq O A O O) fun a A=>Vq A O (v:=(.bool (!decide (f=e)))) (iV O A O hc11 O) fun a A=>?_
        obtain rfl:=oj hg2
        exact jQ (A.cut ⟨O,O,O,O,O,O,O,O,O,O,O,O,O,O,O,tv⟩)
       intro a A
       refine jQ fun w B=>?_
       have B:=r4 B
       obtain⟨j2,hj2,hj1⟩:=bnd hj1
       refine aJ9 (fun a w=>Env 207 [(2,(Iv M)),(3,(Iv K)),(4,vp4),(5,(Pv b1 0)),(6,(Pv b2 0)),(10,(Iv J)),(11,(Iv R)),(12,vr1),(15,(Iv dR)),(16,(Iv fZ)),(17,(Iv W)),(18,(Iv U)),(19,(Iv T)),(20,(Iv j2))] a∧Hp Z ρ (bM 73 3 vr1 usr1 (jK:(List (List Int)))::Pt b2 (.cells #[rE,rF,nY,iI] 123 (0,0))::Pt b1 (.cells #[fO,fP,eU,dH] 123 (0,0))::bM 73 3 vp4 usp4 (zU:(List (List Int)))::L) w) ?_ ?_
       ·
        refine dK A O (fun hc12=>?_) (fun hc12=>?_)
        ·replace hj2:=(it hc12).symm.trans hj2
         refine aA (S A 1 O fun a A=>?_)
         obtain⟨x43,ex43,hj2⟩:=bnd hj2
         refine V A B O (bF O A O O (aN ex43)) fun a A=>S A 1 O fun a A=>aB ?_
         obtain rfl:=oj hj2
         exact⟨A.cut ⟨O,O,O,O,O,O,O,O,O,O,O,O,O,O,tv⟩,B⟩
        replace hj2:=(ie hc12).symm.trans hj2
        refine bI ?_
        obtain rfl:=oj hj2
        exact⟨A.cut ⟨O,O,O,O,O,O,O,O,O,O,O,O,O,O,tv⟩,B⟩
       rintro a w ⟨A,B⟩
       refine aG (aA ?_)
       refine S A 2 O fun a A=>V A B O (v:=(Iv (min T j2))) (ex_min O A O O) fun a A=>S A 1 O fun a A=>aB ?_
       have A:=A.cut (E':=[(2,(Iv M)),(3,(Iv K)),(4,vp4),(5,(Pv b1 0)),(6,(Pv b2 0)),(10,(Iv J)),(11,(Iv R)),(12,vr1),(15,(Iv dR)),(16,(Iv fZ)),(17,(Iv W)),(18,(Iv U)),(19,(Iv (min T j2)))]) ⟨O,O,O,O,O,O,O,O,O,O,O,O,O,tv⟩
       refine aA (S A 2 O fun a A=>?_)
       obtain⟨x44,Y,hj1⟩:=bnd hj1
       obtain⟨b25u,b25,b25o,b25h,b25r,b25v,b25f⟩:=bM.hdr B 3 O iE Y
       refine V A B O (aO O A O O b25r) fun a A=>V A B O (aK O A O (fun w D=>aZ aT (b25f 0 _ O _ _ w (D.get 3 O)))) fun a A=>S A 2 O fun a A=>?_
       obtain⟨x45,j,hj1⟩:=bnd hj1
       obtain⟨b26,b26o,b26r,b26v,b26f⟩:=bM.at B 3 O bD b25h Y j
       refine V A B O (aO O A O O b26r) fun a A=>?_
       refine yA (wk0 O) O A B O O O 3 O b25h Y j b26v 0 (e':=min T j2) aW.size_ O O O ⟨O,O⟩ ?_
       intro w B
       have B:=r4 B
       refine aB ?_
       obtain rfl:=oj hj1
       exact⟨A.cut ⟨O,O,O,O,O,O,O,O,O,O,O,tv⟩,B⟩
      replace hj1:=(ie hc10).symm.trans hj1
      refine jU kr kr B ?_
      refine Sq A 2 O fun a A=>Vq A O (xf A yF O O) fun a A=>Vq A O (xl A aT 2 O O O O) fun a A=>Sq A 1 O fun a A=>?_
      obtain⟨x46,ex46,hj1⟩:=bnd hj1
      obtain⟨b27,b27o,b27c,b27r,b27k,b27f⟩:=aH.at aA2 bD ex46
      obtain rfl:b27c=Enc.enc x46:=b27k
      have b27f:AtP ρ b27 b27o [(Iv x46)]:=b27f
      refine Vq A O (aO O A O O b27r) fun a A=>Vq A O (aK O A O (fun w D=>aZ aW (b27f.c 0 O w D))) fun a A=>Sq A 1 O fun a A=>?_
      obtain⟨x47,ex47,hj1⟩:=bnd hj1
      refine Vq A O (dQ O A O O (aN ex47)) fun a A=>?_
      obtain⟨x48,i,hj1⟩:=bnd hj1
      obtain⟨b28u,b28,b28o,b28h,b28r,b28v,b28f⟩:=bM.hdr B 0 O iE i
      refine Vq A O (aO O A O O b28r) fun a A=>Vq A O (aK O A O (fun w D=>aZ aT (b28f 0 _ O _ _ w (D.get 0 O)))) fun a A=>Vq A O (xf A yF O O) fun a A=>Vq A O (xl A aT 1 O O O O) fun a A=>Sq A 1 O fun a A=>?_
      obtain⟨x49,ex49,hj1⟩:=bnd hj1
      obtain⟨b29,b29o,b29c,b29r,b29k,b29f⟩:=aH.at aR6 bD ex49
      obtain rfl:b29c=Enc.enc x49:=b29k
      have b29f:AtP ρ b29 b29o [(Iv x49)]:=b29f
      refine Vq A O (aO O A O O b29r) fun a A=>Vq A O (aK O A O (fun w D=>aZ aW (b29f.c 0 O w D))) fun a A=>Sq A 1 O fun a A=>?_
      obtain⟨x50,ex50,hj1⟩:=bnd hj1
      refine Vq A O (dQ O A O O (aN ex50)) fun a A=>?_
      obtain⟨x51,ex51,hj1⟩:=bnd hj1
      obtain⟨b30,b30o,b30r,b30v,b30f⟩:=bM.at B 0 O bD b28h i ex51
      refine Vq A O (aO O A O O b30r) fun a A=>Vq A O (aK O A O (fun w D=>aZ aW (b30f 0 _ O _ _ w (D.get 0 O)))) fun a A=>Sq A 2 O fun a A=>?_
      obtain⟨x52,h,hj1⟩:=bnd hj1
      obtain⟨b31u,b31,b31o,b31h,b31r,b31v,b31f⟩:=bM.hdr B 3 O iE h
      refine Vq A O (aO O A O O b31r) fun a A=>Vq A O (aK O A O (fun w D=>aZ aT (b31f 0 _ O _ _ w (D.get 3 O)))) fun a A=>Sq A 1 O fun a A=>?_
      obtain⟨x53,ex53,hj1⟩:=bnd hj1
      obtain⟨b32,b32o,b32r,b32v,b32f⟩:=bM.at B 3 O bD b31h h ex53
      refine Vq A O (aO O A O O b32r) fun a A=>Vq A O (aK O A O (fun w D=>aZ aW (b32f 0 _ O _ _ w (D.get 3 O)))) fun a A=>?_
      obtain⟨x54,ex54,hj1⟩:=bnd hj1
      refine Vq A O (bF O A O O (aN ex54)) fun a A=>Vq A O (v:=(Iv (min T x54))) (ex_min O A O O) fun a A=>Sq A 1 O fun a A=>?_
      refine jQ fun w B=>?_
      have B:=r4 B
      have A:=A.cut (E':=[(2,(Iv M)),(3,(Iv K)),(4,vp4),(5,(Pv b1 0)),(6,(Pv b2 0)),(10,(Iv J)),(11,(Iv R)),(12,vr1),(15,(Iv dR)),(16,(Iv fZ)),(19,(Iv (min T x54)))]) ⟨O,O,O,O,O,O,O,O,O,O,O,tv⟩
      obtain rfl:=oj hj1
      exact⟨A.cut ⟨O,O,O,O,O,O,O,O,O,O,O,tv⟩,B⟩
     rintro a w ⟨A,B⟩
     refine aA (S A 2 O fun a A=>?_)
     obtain⟨x55,X,C⟩:=bnd C
     obtain⟨b33u,b33,b33o,b33h,b33r,b33v,b33f⟩:=bM.hdr B 0 O iE X
     refine V A B O (aO O A O O b33r) fun a A=>V A B O (aK O A O (fun w D=>aZ aT (b33f 0 _ O _ _ w (D.get 0 O)))) fun a A=>S A 2 O fun a A=>?_
     obtain⟨x56,g,C⟩:=bnd C
     obtain⟨b34,b34o,b34r,b34v,b34f⟩:=bM.at B 0 O bD b33h X g
     refine V A B O (aO O A O O b34r) fun a A=>?_
     refine yA (wk0 O) O A B O O O 0 O b33h X g b34v 0 (e':=j1.1) aW.size_ O O O ⟨O,O⟩ ?_
     intro w B
     have B:=r4 B
     refine aB (aA ?_)
     refine S A 1 O fun a A=>?_
     obtain⟨x57,ex57,C⟩:=bnd C
     refine V A B O (bF O A O O (aN ex57)) fun a A=>S A 1 O fun a A=>aB ?_
     exact⟨_,(oj C).symm,A.cut ⟨O,O,O,O,O,O,O,O,O,O,tv⟩,B⟩
    replace C:=(ie x).symm.trans C
    refine dZ ?_
    refine⟨_,(oj C).symm,fun hbb=>?_⟩
    subst hbb
    exact⟨A.cut ⟨O,O,O,O,O,O,O,O,O,tv⟩,B⟩
   rintro a w ⟨A,B⟩
   refine aA (S A 1 O fun a A=>?_)
   obtain⟨x58,ex58,I⟩:=bnd I
   refine V A B O (bF O A O O (aN ex58)) fun a A=>S A 1 O fun a A=>aB ?_
   exact⟨_,(oj I).symm,A.cut ⟨O,O,O,O,O,O,O,O,O,tv⟩,B⟩
  replace I:=(ie y).symm.trans I
  refine dZ ?_
  refine⟨_,(oj I).symm,fun hbb=>?_⟩
  subst hbb
  exact⟨A.cut trivial,B⟩
 rintro a w ⟨A,B⟩
 obtain rfl:=oj Q
 exact aD6 A O ⟨_,O,O,(((((B.get 2 O).drop).get 1 O).drop).drop)⟩
end Go.Proofs.YtopnldfjcciieaaGreat

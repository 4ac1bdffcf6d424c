/- The code goes as its model: (assessor/align.numbered).above, assessor/align.sameLabel, assessor/align.number$1, assessor/align.number, (assessor/align.numbered) -/
import Derived.Test.YtopnldfjcciieaaGreatKLeT
import Derived.Test.YtopnldfjcciieaaGreatKLe3
import Derived.Test.YtopnldfjcciieaaGreatKLe5
import Derived.Test.YtopnldfjcciieaaGreatKLe6
import Derived.Test.YtopnldfjcciieaaGreatKLe4
set_option linter.unusedVariables false
set_option linter.unusedSimpArgs false
set_option maxRecDepth 100000
set_option maxHeartbeats 4000000
namespace Go.Proofs.YtopnldfjcciieaaGreat
open Go.RowKit
theorem lN {Z:World} {ρ:PH} {L:List bQ} {w:World} (F:Nmb) (gG:Value) (J8:aH ρ gG F.nodes) (gJ:Value) (Y2:aH ρ gJ F.sizes) (fC:Value) (sD:aH ρ fC F.parent) (E:Int) (D:Int) (C:Hp Z ρ (L) w) (r:Bool) (H:gX F E D=some r):
  Calls Tryz.prog 45 #[(.agg #[gG,gJ,fC]),(Iv E),(Iv D)] w (Ret fun v w'=>v=(.bool r)∧Hp Z ρ (L) w'):=by
 refine enter (N:=21) Tryz.func45 O O [(0,(.agg #[gG,gJ,fC])),(1,(Iv E)),(2,(Iv D))] O (bH ⟨O,O,O,tv⟩) fun a A=>?_
 unfold gX at H
 refine aG (aA ?_)
 refine iH (wk0 O) O O A C O (v:=(.agg #[gG,gJ,fC])) O ?_
 intro a w b1 A C
 have C:=r1 C
 refine S A 1 O fun a A=>aB (aG ?_)
 refine aA (S A 4 O fun a A=>?_)
 obtain⟨m1,hg1,H⟩:=bnd H
 refine jI [_,_,_,_,_,_,_,_,_,_] (fun a w=>Env 21 [(20,(.bool m1))] a∧Hp Z ρ (Pt b1 (.cells #[gG,gJ,fC] 75 (0,0))::L) w) ?_ ?_
 ·rcases vA (decide (E<D)) with B|B
  ·
   replace hg1:=(it B).symm.trans hg1
   refine Gs A B O O fun a A=>Gs A B O O fun a A=>G A C B O (xf A xE O O) fun a A=>G A C B O (xl A aT 0 O O O O) fun a A=>Gs A B O O fun a A=>?_
   obtain⟨K,J,hg1⟩:=bnd hg1
   obtain⟨b2,b2o,b2c,b2r,b2k,b2f⟩:=aH.at Y2 bD J
   obtain rfl:b2c=Enc.enc K:=b2k
   have b2f:AtP ρ b2 b2o [(Iv K)]:=b2f
   refine G A C B O (aO O A O O b2r) fun a A=>G A C B O (aK O A O (fun w M=>aZ aW (b2f.c 0 O w M))) fun a A=>?_
   obtain⟨x2,I,hg1⟩:=bnd hg1
   refine G A C B O (bF O A O O (aN I)) fun a A=>Gs A B O O fun a A=>pk1 A B O O O O fun a A=>?_
   obtain rfl:=oj hg1
   exact aB ⟨A.cut ⟨O,tv⟩,C⟩
  replace hg1:=(ie B).symm.trans hg1
  refine Gk A B O fun a A=>Gk A B O fun a A=>Gk A B O fun a A=>Gk A B O fun a A=>Gk A B O fun a A=>Gk A B O fun a A=>Gk A B O fun a A=>Gk A B O fun a A=>Gk A B O fun a A=>pk0 A B O O O O fun a A=>?_
  obtain rfl:=oj hg1
  exact aB ⟨A.cut ⟨O,tv⟩,C⟩
 rintro a w ⟨A,C⟩
 refine S A 1 O fun a A=>aB (cZ ?_)
 obtain rfl:=oj H
 exact gY A O O ⟨_,O,O,(C.drop)⟩
theorem F9 {Z:World} {ρ:PH} {L:List bQ} {w:World} (D:Node) (aI:Value) (aY:aH ρ aI D.kids) (C:Node) (aJ:Value) (bG:aH ρ aJ C.kids) (E:Hp Z ρ (L) w) (r:Bool) (F:nM D C=some r):
  Calls Tryz.prog 41 #[(.agg #[(Iv D.kind),(.string D.text),(Iv D.at_),(Iv D.fin),aI]),(.agg #[(Iv C.kind),(.string C.text),(Iv C.at_),(Iv C.fin),aJ])] w (Ret fun v w'=>v=(.bool r)∧Hp Z ρ (L) w'):=by
 refine enter (N:=17) Tryz.func41 O O [(0,(.agg #[(Iv D.kind),(.string D.text),(Iv D.at_),(Iv D.fin),aI])),(1,(.agg #[(Iv C.kind),(.string C.text),(Iv C.at_),(Iv C.fin),aJ]))] O (bH ⟨O,O,tv⟩) fun a A=>?_
 unfold nM at F
 refine aG (aA ?_)
 refine iH (wk0 O) O O A E O (v:=(.agg #[(Iv D.kind),(.string D.text),(Iv D.at_),(Iv D.fin),aI])) O ?_
 intro a w b1 A E
 have E:=r1 E
 refine iH (wk0 O) O O A E O (v:=(.agg #[(Iv C.kind),(.string C.text),(Iv C.at_),(Iv C.fin),aJ])) O ?_
 intro a w b2 A E
 have E:=r2 E
 refine S A 1 O fun a A=>aB (aG ?_)
 refine aA (V A E O (xf A zH O O) fun a A=>?_)
 refine V A E O (xl A aW 1 O O O O) fun a A=>V A E O (xf A zH O O) fun a A=>V A E O (xl A aW 0 O O O O) fun a A=>S A 2 O fun a A=>?_
 refine jI [_,_,_,_,_,_] (fun a w=>Env 17 [(16,(.bool ((decide (D.kind=C.kind))&&(decide (D.text=C.text)))))] a∧Hp Z ρ (Pt b2 (.cells #[(Iv C.kind),(.string C.text),(Iv C.at_),(Iv C.fin),aJ] 24 (0,0))::Pt b1 (.cells #[(Iv D.kind),(.string D.text),(Iv D.at_),(Iv D.fin),aI] 24 (0,0))::L) w) ?_ ?_
 ·rcases vA (decide (D.kind=C.kind)) with B|B
  ·
   refine G A E B O (xf A xC O O) fun a A=>G A E B O (xl A V8 1 O O O O) fun a A=>G A E B O (xf A xC O O) fun a A=>G A E B O (xl A V8 0 O O O O) fun a A=>G A E B O (v:=(.bool (decide (D.text=C.text)))) (ex_seql O A O O) fun a A=>pk1 A B O O O O fun a A=>?_
   have A:=A.eqv (v':=(.bool ((decide (D.kind=C.kind))&&(decide (D.text=C.text))))) (by rw[B];rfl)
   exact aB ⟨A.cut ⟨O,tv⟩,E⟩
  refine Gk A B O fun a A=>Gk A B O fun a A=>Gk A B O fun a A=>Gk A B O fun a A=>Gk A B O fun a A=>pk0 A B O O O O fun a A=>?_
  have A:=A.eqv (v':=(.bool ((decide (D.kind=C.kind))&&(decide (D.text=C.text))))) (by rw[B];rfl)
  exact aB ⟨A.cut ⟨O,tv⟩,E⟩
 rintro a w ⟨A,E⟩
 refine S A 1 O fun a A=>aB (cZ ?_)
 obtain rfl:=oj F
 exact gY A O O ⟨_,O,O,(((E.get 1 O).drop).drop)⟩
theorem aK2 (self:Node→Int→Nmb→Option Nmb) (hself:∀{Z:World} {ρ:PH} {L:List bQ} {w:World} (C:Node) (aI:Value) (aY:aH ρ aI C.kids) (G:Int) (bcp0:Nat) (cp0:Nmb) (nH:Value) (jE:List Value) (iU:Value) (fG:Value) (hRcp0_nodes:gU ρ (cp0.nodes:List Node) jE) (bcp1:Nat) (A:Hp Z ρ (Pt bcp0 (.cells #[nH,iU,fG] 75 (0,0))::sS 24 nH (cp0.nodes:(List Node)) jE::aC 3 iU cp0.sizes::aC 3 fG cp0.parent::Pt bcp1 (.cells #[(.func (.func 63) #[] #[(Pv bcp0 0),(Pv bcp1 0)])] 110 (0,0))::L) w) (r:Nmb) (J:self C G cp0=some r),Calls Tryz.prog 63 #[(.agg #[(Iv C.kind),(.string C.text),(Iv C.at_),(Iv C.fin),aI]),(Iv G),(Pv bcp0 0),(Pv bcp1 0)] w (Ret fun v w'=>∃(rV:Value) (pY:List Value) (rW:Value) (pV:Value),v= .tuple #[]∧gU ρ (r.nodes:List Node) pY∧Hp Z ρ (Pt bcp0 (.cells #[rV,rW,pV] 75 (0,0))::sS 24 rV (r.nodes:(List Node)) pY::aC 3 rW r.sizes::aC 3 pV r.parent::Pt bcp1 (.cells #[(.func (.func 63) #[] #[(Pv bcp0 0),(Pv bcp1 0)])] 110 (0,0))::L) w')) {Z:World} {ρ:PH} {L:List bQ} {w:World} (C:Node) (aI:Value) (aY:aH ρ aI C.kids) (G:Int) (bcp0:Nat) (cp0:Nmb) (nH:Value) (jE:List Value) (iU:Value) (fG:Value) (hRcp0_nodes:gU ρ (cp0.nodes:List Node) jE) (bcp1:Nat) (A:Hp Z ρ (Pt bcp0 (.cells #[nH,iU,fG] 75 (0,0))::sS 24 nH (cp0.nodes:(List Node)) jE::aC 3 iU cp0.sizes::aC 3 fG cp0.parent::Pt bcp1 (.cells #[(.func (.func 63) #[] #[(Pv bcp0 0),(Pv bcp1 0)])] 110 (0,0))::L) w) (r:Nmb) (J:uA self C G cp0=some r):
  Calls Tryz.prog 63 #[(.agg #[(Iv C.kind),(.string C.text),(Iv C.at_),(Iv C.fin),aI]),(Iv G),(Pv bcp0 0),(Pv bcp1 0)] w (Ret fun v w'=>∃(rV:Value) (pY:List Value) (rW:Value) (pV:Value),v= .tuple #[]∧gU ρ (r.nodes:List Node) pY∧Hp Z ρ (Pt bcp0 (.cells #[rV,rW,pV] 75 (0,0))::sS 24 rV (r.nodes:(List Node)) pY::aC 3 rW r.sizes::aC 3 pV r.parent::Pt bcp1 (.cells #[(.func (.func 63) #[] #[(Pv bcp0 0),(Pv bcp1 0)])] 110 (0,0))::L) w'):=by
 refine enter (N:=43) Tryz.func63 O O [(0,(.agg #[(Iv C.kind),(.string C.text),(Iv C.at_),(Iv C.fin),aI])),(1,(Iv G)),(2,(Pv bcp0 0)),(3,(Pv bcp1 0))] O (bH ⟨O,O,O,O,tv⟩) fun a B=>?_
 unfold uA at J
 refine aG (aA ?_)
 refine iH (wk0 O) O O B A O (v:=(.agg #[(Iv C.kind),(.string C.text),(Iv C.at_),(Iv C.fin),aI])) O ?_
 intro a w b1 B A
 have A:=r6 A
 refine aB (aG ?_)
 refine aA (V B A O (xf B lQ O O) fun a B=>?_)
 refine V B A O (xl B iK 1 O O O O) fun a B=>V B A O (bW O B O (sS.len A 2 O iZ)) fun a B=>S B 1 O fun a B=>aB (aG ?_)
 obtain⟨b,Q,J⟩:=bnd J
 obtain⟨H,W,J⟩:=bnd J
 obtain⟨k,M,J⟩:=bnd J
 obtain⟨i,K,J⟩:=bnd J
 have A:=A.drew
 refine gK ([([],At0 Z ρ),([],At1 Z ρ (Pt b1 (.cells #[(Iv C.kind),(.string C.text),(Iv C.at_),(Iv C.fin),aI] 24 (0,0)))),([17,19,21],At1 Z ρ (Pt bcp0 (.cells #[nH,iU,fG] 75 (0,0))))]:Facts) (fun a w=>∃y12:Nat,∃y11:Nat,∃y10:Nat,∃y3:Value,∃y4:Value,∃y2:Value,∃yxs2:List Value,gU ρ (b:(List Node)) yxs2∧Env 43 [(3,(Pv bcp1 0)),(4,(Pv b1 0)),(6,(Iv (cp0.nodes.length:Int)))] a∧Hp Z ρ (Pt y12 (.cells #[(Iv G)] 3 (0,0))::Pt y11 (.cells #[(Iv H)] 3 (0,0))::Pt y10 (.cells #[(Iv C.kind),(.string C.text),(Iv C.at_),(Iv C.fin),aI] 24 (0,0))::Pt b1 (.cells #[(Iv C.kind),(.string C.text),(Iv C.at_),(Iv C.fin),aI] 24 (0,0))::Pt bcp0 (.cells #[y2,y3,y4] 75 (0,0))::sS 24 y2 (b:(List Node)) yxs2::aC 3 y3 k::aC 3 y4 i::Pt bcp1 (.cells #[(.func (.func 63) #[] #[(Pv bcp0 0),(Pv bcp1 0)])] 110 (0,0))::L) w) kr ⟨fun _=>⟨_,A⟩,fun _=>⟨_,(A.get 0 O)⟩,fun _=>⟨_,(A.get 1 O)⟩,tv⟩ (fun D=>?_) ?_
 ·
  generalize w.drew=w at D A⊢
  refine T0 0 B D O O O kr (fun _=>xf B lQ O O) fun a B D=>T 1 2 B D O O O kr (fun _=>xl B iK 0 O O O O) fun a B D=>T 2 1 B D O O O kr (fun _=>aK O B O (fun w X=>aX (cs:=[(Iv C.kind),(.string C.text),(Iv C.at_),(Iv C.fin),aI]) cO (Hp.cN 0 O 0 _ (aS O) w X))) fun a B D=>T0 5 B D O O O kr (fun _=>xf B xE O O) fun a B D=>T 6 2 B D O O O kr (fun _=>xl B aT 0 O O O O) fun a B D=>T 7 1 B D O O O kr (fun _=>aK O B O (fun w X=>aX (cs:=[(Iv C.kind),(.string C.text),(Iv C.at_),(Iv C.fin),aI]) cO (Hp.cN 0 O 0 _ (aS O) w X))) fun a B D=>T0 11 B D O O O kr (fun _=>xf B rY O O) fun a B D=>T 12 2 B D O O O kr (fun _=>xl B aT 0 O O O O) fun a B D=>Ts [13] B D O O kr fun a B D=>?_
  refine fQ [3,14] kr O ?_
  refine uE.2 ⟨?_,uE.2 ⟨?_,fun _ h=>absurd h (by simp)⟩⟩
  ·
   refine dV O ?_
   refine fU (wk0 O) O O B A O [(0,(.agg #[(Iv C.kind),(.string C.text),(Iv C.at_),(Iv C.fin),aI]))] ⟨⟨O,O⟩,tv⟩ [(Iv C.kind),(.string C.text),(Iv C.at_),(Iv C.fin),aI] 24 (fun w=>by have R:=aH.cells aY;simp only[Value.cells] at R;simp[Instr.buildSlice,Instr.fill,Value.cells,R,go_sem]) ?_
   intro a w b5 B A
   have A:=r7 A
   refine aB (aF ⟨gp0 A,gp 1 A O,gp 2 A O,tv⟩ fun D=>?_)
   refine fQ [4,14] kr O ?_
   refine uE.2 ⟨?_,uE.2 ⟨?_,fun _ h=>absurd h (by simp)⟩⟩
   ·
    refine dV O ?_
    have hR4:gU ρ ([C]:List Node) [(Iv C.kind),(.string C.text),(Iv C.at_),(Iv C.fin),aI]:=⟨_,_,O,(show NodeAt ρ C [(Iv C.kind),(.string C.text),(Iv C.at_),(Iv C.fin),aI] from NodeAt.shutv (aY)),O⟩
    have hR3:gU ρ b (jE++[(Iv C.kind),(.string C.text),(Iv C.at_),(Iv C.fin),aI]):=(O8 Q).2▸gU.app hRcp0_nodes hR4
    refine s_appR (wk0 O) O O B A O iZ O O 3 O O (l2:=[C]) (ys:=[(Iv C.kind),(.string C.text),(Iv C.at_),(Iv C.fin),aI]) O hR4 (fun j u E=>by have:=Hp.cN 0 O 0 _ (aS O) w A j u E;simpa using this) Q ?_
    intro v4 a w B A
    have A:=r7 A
    refine aB (aF ⟨gp0 A,gp 1 A O,gp 2 A O,tv⟩ fun D=>?_)
    refine T0 16 B D O O O kr (fun _=>xf B lQ O O) fun a B D=>?_
    refine fQ [8,14] kr O ?_
    refine uE.2 ⟨?_,uE.2 ⟨?_,fun _ h=>absurd h (by simp)⟩⟩
    ·
     refine dV O ?_
     refine Cl B O O ent64 (aN5 C aI aY A H W) ⟨O,tv⟩ fun v a w U B=>?_
     obtain⟨rfl,A⟩:=U
     have A:=r7 A
     refine aB (aF ⟨gp0 A,gp 1 A O,gp 2 A O,tv⟩ fun D=>?_)
     refine fQ [9,14] kr O ?_
     refine uE.2 ⟨?_,uE.2 ⟨?_,fun _ h=>absurd h (by simp)⟩⟩
     ·
      refine dV O ?_
      refine fU (wk0 O) O O B A O [(0,(Iv H))] ⟨⟨O,O⟩,tv⟩ [(Iv H)] 3 (fun w=>by simp[Instr.buildSlice,Instr.fill,Value.cells,go_sem]) ?_
      intro a w b6 B A
      have A:=r8 A
      refine aB (aF ⟨gp0 A,gp 2 A O,gp 3 A O,tv⟩ fun D=>?_)
      refine fQ [10,14] kr O ?_
      refine uE.2 ⟨?_,uE.2 ⟨?_,fun _ h=>absurd h (by simp)⟩⟩
      ·
       refine dV O ?_
       refine gB (wk0 O) O O B A O bD O O 5 O O (l2:=[H]) O (fun j u E=>by have:=Hp.cN 0 O 0 _ (aS O) w A j u E;simpa using this) M ?_
       intro v5 a w B A
       have A:=r8 A
       refine aB (aF ⟨gp0 A,gp 2 A O,gp 3 A O,tv⟩ fun D=>?_)
       refine W1 14 kr O ?_
       refine fU (wk0 O) O O B A O [(0,(Iv G))] ⟨⟨O,O⟩,tv⟩ [(Iv G)] 3 (fun w=>by simp[Instr.buildSlice,Instr.fill,Value.cells,go_sem]) ?_
       intro a w b7 B A
       have A:=r9 A
       refine aB (aF ⟨gp0 A,gp 3 A O,gp 4 A O,tv⟩ fun D=>?_)
       refine W1 15 kr O ?_
       refine gB (wk0 O) O O B A O bD O O 7 O O (l2:=[G]) O (fun j u E=>by have:=Hp.cN 0 O 0 _ (aS O) w A j u E;simpa using this) K ?_
       intro v6 a w B A
       have A:=r9 A
       refine aB (aF ⟨gp0 A,gp 3 A O,gp 4 A O,tv⟩ fun D=>?_)
       refine W1 17 kr O ?_
       refine bV (wk0 O) O B A O O O 4 O iK.size_ (sS.cells A 5 O) (sS.one A 5 O) O [v4,iU,fG] O ?_
       intro w A
       have A:=r9 A
       refine aB (aF ⟨gp0 A,gp 3 A O,dead kr,tv⟩ fun D=>?_)
       refine T0 18 B D O O O kr (fun _=>xf B xE O O) fun a B D=>?_
       refine W1 19 kr O ?_
       refine bV (wk0 O) O B A O O O 4 O aT.size_ (aC.cells A 6 O) (aC.one A 6 O) O [v4,v5,fG] O ?_
       intro w A
       have A:=r9 A
       refine aB (aF ⟨gp0 A,gp 3 A O,dead kr,tv⟩ fun D=>?_)
       refine T0 20 B D O O O kr (fun _=>xf B rY O O) fun a B D=>?_
       refine W1 21 kr O ?_
       refine bV (wk0 O) O B A O O O 4 O aT.size_ (aC.cells A 7 O) (aC.one A 7 O) O [v4,v5,v6] O ?_
       intro w A
       have A:=r9 A
       refine aB (aF ⟨gp0 A,gp 3 A O,dead kr,tv⟩ fun D=>?_)
       exact bT kr ⟨_,_,_,_,_,_,_,hR3,B.cut ⟨O,O,O,tv⟩,A⟩
      refine dV O ?_
      refine fU (wk0 O) O O B A O [(0,(Iv G))] ⟨⟨O,O⟩,tv⟩ [(Iv G)] 3 (fun w=>by simp[Instr.buildSlice,Instr.fill,Value.cells,go_sem]) ?_
      intro a w b8 B A
      have A:=r9 A
      refine aB (aF ⟨gp0 A,gp 3 A O,gp 4 A O,tv⟩ fun D=>?_)
      refine W1 10 kr O ?_
      refine gB (wk0 O) O O B A O bD O O 6 O O (l2:=[H]) O (fun j u E=>by have:=Hp.cN 1 O 0 _ (aS O) w A j u E;simpa using this) M ?_
      intro v7 a w B A
      have A:=r9 A
      refine aB (aF ⟨gp0 A,gp 3 A O,gp 4 A O,tv⟩ fun D=>?_)
      refine W1 15 kr O ?_
      refine gB (wk0 O) O O B A O bD O O 7 O O (l2:=[G]) O (fun j u E=>by have:=Hp.cN 0 O 0 _ (aS O) w A j u E;simpa using this) K ?_
      intro v8 a w B A
      have A:=r9 A
      refine aB (aF ⟨gp0 A,gp 3 A O,gp 4 A O,tv⟩ fun D=>?_)
      refine W1 17 kr O ?_
      refine bV (wk0 O) O B A O O O 4 O iK.size_ (sS.cells A 5 O) (sS.one A 5 O) O [v4,iU,fG] O ?_
      intro w A
      have A:=r9 A
      refine aB (aF ⟨gp0 A,gp 3 A O,dead kr,tv⟩ fun D=>?_)
      refine T0 18 B D O O O kr (fun _=>xf B xE O O) fun a B D=>?_
      refine W1 19 kr O ?_
      refine bV (wk0 O) O B A O O O 4 O aT.size_ (aC.cells A 6 O) (aC.one A 6 O) O [v4,v7,fG] O ?_
      intro w A
      have A:=r9 A
      refine aB (aF ⟨gp0 A,gp 3 A O,dead kr,tv⟩ fun D=>?_)
      refine T0 20 B D O O O kr (fun _=>xf B rY O O) fun a B D=>?_
      refine W1 21 kr O ?_
      refine bV (wk0 O) O B A O O O 4 O aT.size_ (aC.cells A 7 O) (aC.one A 7 O) O [v4,v7,v8] O ?_
      intro w A
      have A:=r9 A
      refine aB (aF ⟨gp0 A,gp 3 A O,dead kr,tv⟩ fun D=>?_)
      exact bT kr ⟨_,_,_,_,_,_,_,hR3,B.cut ⟨O,O,O,tv⟩,A⟩
     refine dV O ?_
     refine fU (wk0 O) O O B A O [(0,(Iv G))] ⟨⟨O,O⟩,tv⟩ [(Iv G)] 3 (fun w=>by simp[Instr.buildSlice,Instr.fill,Value.cells,go_sem]) ?_
     intro a w b9 B A
     have A:=r8 A
     refine aB (aF ⟨gp0 A,gp 2 A O,gp 3 A O,tv⟩ fun D=>?_)
     refine W1 9 kr O ?_
     refine fU (wk0 O) O O B A O [(0,(Iv H))] ⟨⟨O,O⟩,tv⟩ [(Iv H)] 3 (fun w=>by simp[Instr.buildSlice,Instr.fill,Value.cells,go_sem]) ?_
     intro a w b10 B A
     have A:=r9 A
     refine aB (aF ⟨gp0 A,gp 3 A O,gp 4 A O,tv⟩ fun D=>?_)
     refine W1 10 kr O ?_
     refine gB (wk0 O) O O B A O bD O O 6 O O (l2:=[H]) O (fun j u E=>by have:=Hp.cN 0 O 0 _ (aS O) w A j u E;simpa using this) M ?_
     intro v9 a w B A
     have A:=r9 A
     refine aB (aF ⟨gp0 A,gp 3 A O,gp 4 A O,tv⟩ fun D=>?_)
     refine W1 15 kr O ?_
     refine gB (wk0 O) O O B A O bD O O 7 O O (l2:=[G]) O (fun j u E=>by have:=Hp.cN 1 O 0 _ (aS O) w A j u E;simpa using this) K ?_
     intro v10 a w B A
     have A:=r9 A
     refine aB (aF ⟨gp0 A,gp 3 A O,gp 4 A O,tv⟩ fun D=>?_)
     refine W1 17 kr O ?_
     refine bV (wk0 O) O B A O O O 4 O iK.size_ (sS.cells A 5 O) (sS.one A 5 O) O [v4,iU,fG] O ?_
     intro w A
     have A:=r9 A
     refine aB (aF ⟨gp0 A,gp 3 A O,dead kr,tv⟩ fun D=>?_)
     refine T0 18 B D O O O kr (fun _=>xf B xE O O) fun a B D=>?_
     refine W1 19 kr O ?_
     refine bV (wk0 O) O B A O O O 4 O aT.size_ (aC.cells A 6 O) (aC.one A 6 O) O [v4,v9,fG] O ?_
     intro w A
     have A:=r9 A
     refine aB (aF ⟨gp0 A,gp 3 A O,dead kr,tv⟩ fun D=>?_)
     refine T0 20 B D O O O kr (fun _=>xf B rY O O) fun a B D=>?_
     refine W1 21 kr O ?_
     refine bV (wk0 O) O B A O O O 4 O aT.size_ (aC.cells A 7 O) (aC.one A 7 O) O [v4,v9,v10] O ?_
     intro w A
     have A:=r9 A
     refine aB (aF ⟨gp0 A,gp 3 A O,dead kr,tv⟩ fun D=>?_)
     exact bT kr ⟨_,_,_,_,_,_,_,hR3,B.cut ⟨O,O,O,tv⟩,(((((((((A.get 8 O).get 8 O).get 8 O).get 8 O).get 8 O).get 8 O).get 8 O).get 7 O).get 8 O)⟩
    refine dV O ?_
    refine fU (wk0 O) O O B A O [(0,(Iv G))] ⟨⟨O,O⟩,tv⟩ [(Iv G)] 3 (fun w=>by simp[Instr.buildSlice,Instr.fill,Value.cells,go_sem]) ?_
    intro a w b11 B A
    have A:=r8 A
    refine aB (aF ⟨gp0 A,gp 2 A O,gp 3 A O,tv⟩ fun D=>?_)
    refine W1 8 kr O ?_
    refine Cl B O O ent64 (aN5 C aI aY A H W) ⟨O,tv⟩ fun v a w U B=>?_
    obtain⟨rfl,A⟩:=U
    have A:=r8 A
    refine aB (aF ⟨gp0 A,gp 2 A O,gp 3 A O,tv⟩ fun D=>?_)
    refine W1 9 kr O ?_
    refine fU (wk0 O) O O B A O [(0,(Iv H))] ⟨⟨O,O⟩,tv⟩ [(Iv H)] 3 (fun w=>by simp[Instr.buildSlice,Instr.fill,Value.cells,go_sem]) ?_
    intro a w b12 B A
    have A:=r9 A
    refine aB (aF ⟨gp0 A,gp 3 A O,gp 4 A O,tv⟩ fun D=>?_)
    refine W1 10 kr O ?_
    refine gB (wk0 O) O O B A O bD O O 6 O O (l2:=[H]) O (fun j u E=>by have:=Hp.cN 0 O 0 _ (aS O) w A j u E;simpa using this) M ?_
    intro v11 a w B A
    have A:=r9 A
    refine aB (aF ⟨gp0 A,gp 3 A O,gp 4 A O,tv⟩ fun D=>?_)
    refine W1 15 kr O ?_
    refine gB (wk0 O) O O B A O bD O O 7 O O (l2:=[G]) O (fun j u E=>by have:=Hp.cN 1 O 0 _ (aS O) w A j u E;simpa using this) K ?_
    intro v12 a w B A
    have A:=r9 A
    refine aB (aF ⟨gp0 A,gp 3 A O,gp 4 A O,tv⟩ fun D=>?_)
    refine W1 17 kr O ?_
    refine bV (wk0 O) O B A O O O 4 O iK.size_ (sS.cells A 5 O) (sS.one A 5 O) O [v4,iU,fG] O ?_
    intro w A
    have A:=r9 A
    refine aB (aF ⟨gp0 A,gp 3 A O,dead kr,tv⟩ fun D=>?_)
    refine T0 18 B D O O O kr (fun _=>xf B xE O O) fun a B D=>?_
    refine W1 19 kr O ?_
    refine bV (wk0 O) O B A O O O 4 O aT.size_ (aC.cells A 6 O) (aC.one A 6 O) O [v4,v11,fG] O ?_
    intro w A
    have A:=r9 A
    refine aB (aF ⟨gp0 A,gp 3 A O,dead kr,tv⟩ fun D=>?_)
    refine T0 20 B D O O O kr (fun _=>xf B rY O O) fun a B D=>?_
    refine W1 21 kr O ?_
    refine bV (wk0 O) O B A O O O 4 O aT.size_ (aC.cells A 7 O) (aC.one A 7 O) O [v4,v11,v12] O ?_
    intro w A
    have A:=r9 A
    refine aB (aF ⟨gp0 A,gp 3 A O,dead kr,tv⟩ fun D=>?_)
    exact bT kr ⟨_,_,_,_,_,_,_,hR3,B.cut ⟨O,O,O,tv⟩,(((((((((A.get 8 O).get 8 O).get 8 O).get 8 O).get 8 O).get 8 O).get 8 O).get 7 O).get 8 O)⟩
   refine dV O ?_
   refine fU (wk0 O) O O B A O [(0,(Iv G))] ⟨⟨O,O⟩,tv⟩ [(Iv G)] 3 (fun w=>by simp[Instr.buildSlice,Instr.fill,Value.cells,go_sem]) ?_
   intro a w b13 B A
   have A:=r8 A
   refine aB (aF ⟨gp0 A,gp 2 A O,gp 3 A O,tv⟩ fun D=>?_)
   refine W1 4 kr O ?_
   have hR6:gU ρ ([C]:List Node) [(Iv C.kind),(.string C.text),(Iv C.at_),(Iv C.fin),aI]:=⟨_,_,O,(show NodeAt ρ C [(Iv C.kind),(.string C.text),(Iv C.at_),(Iv C.fin),aI] from NodeAt.shutv (aY)),O⟩
   have hR5:gU ρ b (jE++[(Iv C.kind),(.string C.text),(Iv C.at_),(Iv C.fin),aI]):=(O8 Q).2▸gU.app hRcp0_nodes hR6
   refine s_appR (wk0 O) O O B A O iZ O O 4 O O (l2:=[C]) (ys:=[(Iv C.kind),(.string C.text),(Iv C.at_),(Iv C.fin),aI]) O hR6 (fun j u E=>by have:=Hp.cN 1 O 0 _ (aS O) w A j u E;simpa using this) Q ?_
   intro v13 a w B A
   have A:=r8 A
   refine aB (aF ⟨gp0 A,gp 2 A O,gp 3 A O,tv⟩ fun D=>?_)
   refine T0 16 B D O O O kr (fun _=>xf B lQ O O) fun a B D=>?_
   refine W1 8 kr O ?_
   refine Cl B O O ent64 (aN5 C aI aY A H W) ⟨O,tv⟩ fun v a w U B=>?_
   obtain⟨rfl,A⟩:=U
   have A:=r8 A
   refine aB (aF ⟨gp0 A,gp 2 A O,gp 3 A O,tv⟩ fun D=>?_)
   refine W1 9 kr O ?_
   refine fU (wk0 O) O O B A O [(0,(Iv H))] ⟨⟨O,O⟩,tv⟩ [(Iv H)] 3 (fun w=>by simp[Instr.buildSlice,Instr.fill,Value.cells,go_sem]) ?_
   intro a w b14 B A
   have A:=r9 A
   refine aB (aF ⟨gp0 A,gp 3 A O,gp 4 A O,tv⟩ fun D=>?_)
   refine W1 10 kr O ?_
   refine gB (wk0 O) O O B A O bD O O 6 O O (l2:=[H]) O (fun j u E=>by have:=Hp.cN 0 O 0 _ (aS O) w A j u E;simpa using this) M ?_
   intro v14 a w B A
   have A:=r9 A
   refine aB (aF ⟨gp0 A,gp 3 A O,gp 4 A O,tv⟩ fun D=>?_)
   refine W1 15 kr O ?_
   refine gB (wk0 O) O O B A O bD O O 7 O O (l2:=[G]) O (fun j u E=>by have:=Hp.cN 1 O 0 _ (aS O) w A j u E;simpa using this) K ?_
   intro v15 a w B A
   have A:=r9 A
   refine aB (aF ⟨gp0 A,gp 3 A O,gp 4 A O,tv⟩ fun D=>?_)
   refine W1 17 kr O ?_
   refine bV (wk0 O) O B A O O O 4 O iK.size_ (sS.cells A 5 O) (sS.one A 5 O) O [v13,iU,fG] O ?_
   intro w A
   have A:=r9 A
   refine aB (aF ⟨gp0 A,gp 3 A O,dead kr,tv⟩ fun D=>?_)
   refine T0 18 B D O O O kr (fun _=>xf B xE O O) fun a B D=>?_
   refine W1 19 kr O ?_
   refine bV (wk0 O) O B A O O O 4 O aT.size_ (aC.cells A 6 O) (aC.one A 6 O) O [v13,v14,fG] O ?_
   intro w A
   have A:=r9 A
   refine aB (aF ⟨gp0 A,gp 3 A O,dead kr,tv⟩ fun D=>?_)
   refine T0 20 B D O O O kr (fun _=>xf B rY O O) fun a B D=>?_
   refine W1 21 kr O ?_
   refine bV (wk0 O) O B A O O O 4 O aT.size_ (aC.cells A 7 O) (aC.one A 7 O) O [v13,v14,v15] O ?_
   intro w A
   have A:=r9 A
   refine aB (aF ⟨gp0 A,gp 3 A O,dead kr,tv⟩ fun D=>?_)
   exact bT kr ⟨_,_,_,_,_,_,_,hR5,B.cut ⟨O,O,O,tv⟩,(((((((((A.get 8 O).get 8 O).get 8 O).get 8 O).get 8 O).get 8 O).get 8 O).get 7 O).get 8 O)⟩
  refine dV O ?_
  refine fU (wk0 O) O O B A O [(0,(Iv G))] ⟨⟨O,O⟩,tv⟩ [(Iv G)] 3 (fun w=>by simp[Instr.buildSlice,Instr.fill,Value.cells,go_sem]) ?_
  intro a w b15 B A
  have A:=r7 A
  refine aB (aF ⟨gp0 A,gp 1 A O,gp 2 A O,tv⟩ fun D=>?_)
  refine W1 3 kr O ?_
  refine fU (wk0 O) O O B A O [(0,(.agg #[(Iv C.kind),(.string C.text),(Iv C.at_),(Iv C.fin),aI]))] ⟨⟨O,O⟩,tv⟩ [(Iv C.kind),(.string C.text),(Iv C.at_),(Iv C.fin),aI] 24 (fun w=>by have R:=aH.cells aY;simp only[Value.cells] at R;simp[Instr.buildSlice,Instr.fill,Value.cells,R,go_sem]) ?_
  intro a w b16 B A
  have A:=r8 A
  refine aB (aF ⟨gp0 A,gp 2 A O,gp 3 A O,tv⟩ fun D=>?_)
  refine W1 4 kr O ?_
  have hR8:gU ρ ([C]:List Node) [(Iv C.kind),(.string C.text),(Iv C.at_),(Iv C.fin),aI]:=⟨_,_,O,(show NodeAt ρ C [(Iv C.kind),(.string C.text),(Iv C.at_),(Iv C.fin),aI] from NodeAt.shutv (aY)),O⟩
  have hR7:gU ρ b (jE++[(Iv C.kind),(.string C.text),(Iv C.at_),(Iv C.fin),aI]):=(O8 Q).2▸gU.app hRcp0_nodes hR8
  refine s_appR (wk0 O) O O B A O iZ O O 4 O O (l2:=[C]) (ys:=[(Iv C.kind),(.string C.text),(Iv C.at_),(Iv C.fin),aI]) O hR8 (fun j u E=>by have:=Hp.cN 0 O 0 _ (aS O) w A j u E;simpa using this) Q ?_
  intro v16 a w B A
  have A:=r8 A
  refine aB (aF ⟨gp0 A,gp 2 A O,gp 3 A O,tv⟩ fun D=>?_)
  refine T0 16 B D O O O kr (fun _=>xf B lQ O O) fun a B D=>?_
  refine W1 8 kr O ?_
  refine Cl B O O ent64 (aN5 C aI aY A H W) ⟨O,tv⟩ fun v a w U B=>?_
  obtain⟨rfl,A⟩:=U
  have A:=r8 A
  refine aB (aF ⟨gp0 A,gp 2 A O,gp 3 A O,tv⟩ fun D=>?_)
  refine W1 9 kr O ?_
  refine fU (wk0 O) O O B A O [(0,(Iv H))] ⟨⟨O,O⟩,tv⟩ [(Iv H)] 3 (fun w=>by simp[Instr.buildSlice,Instr.fill,Value.cells,go_sem]) ?_
  intro a w b17 B A
  have A:=r9 A
  refine aB (aF ⟨gp0 A,gp 3 A O,gp 4 A O,tv⟩ fun D=>?_)
  refine W1 10 kr O ?_
  refine gB (wk0 O) O O B A O bD O O 6 O O (l2:=[H]) O (fun j u E=>by have:=Hp.cN 0 O 0 _ (aS O) w A j u E;simpa using this) M ?_
  intro v17 a w B A
  have A:=r9 A
  refine aB (aF ⟨gp0 A,gp 3 A O,gp 4 A O,tv⟩ fun D=>?_)
  refine W1 15 kr O ?_
  refine gB (wk0 O) O O B A O bD O O 7 O O (l2:=[G]) O (fun j u E=>by have:=Hp.cN 2 O 0 _ (aS O) w A j u E;simpa using this) K ?_
  intro v18 a w B A
  have A:=r9 A
  refine aB (aF ⟨gp0 A,gp 3 A O,gp 4 A O,tv⟩ fun D=>?_)
  refine W1 17 kr O ?_
  refine bV (wk0 O) O B A O O O 4 O iK.size_ (sS.cells A 5 O) (sS.one A 5 O) O [v16,iU,fG] O ?_
  intro w A
  have A:=r9 A
  refine aB (aF ⟨gp0 A,gp 3 A O,dead kr,tv⟩ fun D=>?_)
  refine T0 18 B D O O O kr (fun _=>xf B xE O O) fun a B D=>?_
  refine W1 19 kr O ?_
  refine bV (wk0 O) O B A O O O 4 O aT.size_ (aC.cells A 6 O) (aC.one A 6 O) O [v16,v17,fG] O ?_
  intro w A
  have A:=r9 A
  refine aB (aF ⟨gp0 A,gp 3 A O,dead kr,tv⟩ fun D=>?_)
  refine T0 20 B D O O O kr (fun _=>xf B rY O O) fun a B D=>?_
  refine W1 21 kr O ?_
  refine bV (wk0 O) O B A O O O 4 O aT.size_ (aC.cells A 7 O) (aC.one A 7 O) O [v16,v17,v18] O ?_
  intro w A
  have A:=r9 A
  refine aB (aF ⟨gp0 A,gp 3 A O,dead kr,tv⟩ fun D=>?_)
  exact bT kr ⟨_,_,_,_,_,_,_,hR7,B.cut ⟨O,O,O,tv⟩,(((((((((A.get 8 O).get 8 O).get 8 O).get 8 O).get 8 O).get 8 O).get 7 O).get 7 O).get 8 O)⟩
 rintro a w ⟨y12,y11,y10,y3,y4,y2,yxs2,yhR2,B,A⟩
 refine aG (aA ?_)
 refine V B A O (xf B qA O O) fun a B=>V B A O (xl B iK 3 O O O O) fun a B=>V B A O (bW O B O (aH.len aY iZ)) fun a B=>S B 1 O fun a B=>aB ?_
 obtain⟨b18,c,J⟩:=bnd J
 refine dM (fun a w=>∃(w2:Value) (xs2:List Value) (w3:Value) (w4:Value),gU ρ (b18.1:(List Node)) xs2∧Env 43 [] a∧Hp Z ρ (Pt y12 (.cells #[(Iv G)] 3 (0,0))::Pt y11 (.cells #[(Iv H)] 3 (0,0))::Pt y10 (.cells #[(Iv C.kind),(.string C.text),(Iv C.at_),(Iv C.fin),aI] 24 (0,0))::Pt b1 (.cells #[(Iv C.kind),(.string C.text),(Iv C.at_),(Iv C.fin),aI] 24 (0,0))::Pt bcp0 (.cells #[w2,w3,w4] 75 (0,0))::sS 24 w2 (b18.1:(List Node)) xs2::aC 3 w3 b18.2.1::aC 3 w4 b18.2.2::Pt bcp1 (.cells #[(.func (.func 63) #[] #[(Pv bcp0 0),(Pv bcp1 0)])] 110 (0,0))::L) w) ?_ ?_
 ·refine eQ c (fun s a w=>∃(w2:Value) (xs2:List Value) (w3:Value) (w4:Value),gU ρ (s.2.1:(List Node)) xs2∧Env 43 [(3,(Pv bcp1 0)),(6,(Iv (cp0.nodes.length:Int))),(32,aI),(33,(Iv (C.kids.length:Int))),(34,(Iv s.1))] a∧Hp Z ρ (Pt y12 (.cells #[(Iv G)] 3 (0,0))::Pt y11 (.cells #[(Iv H)] 3 (0,0))::Pt y10 (.cells #[(Iv C.kind),(.string C.text),(Iv C.at_),(Iv C.fin),aI] 24 (0,0))::Pt b1 (.cells #[(Iv C.kind),(.string C.text),(Iv C.at_),(Iv C.fin),aI] 24 (0,0))::Pt bcp0 (.cells #[w2,w3,w4] 75 (0,0))::sS 24 w2 (s.2.1:(List Node)) xs2::aC 3 w3 s.2.2.1::aC 3 w4 s.2.2.2::Pt bcp1 (.cells #[(.func (.func 63) #[] #[(Pv bcp0 0),(Pv bcp1 0)])] 110 (0,0))::L) w) ?_ ?_
  ·exact⟨_,_,_,_,yhR2,B.cut ⟨O,O,O,O,O,tv⟩,A⟩
  rintro⟨aQ,aU,dS,fK⟩ st a w ⟨w2,xs2,w3,w4,hR2w,B,A⟩ F
  dsimp only at B A hR2w F
  unfold qN at F
  refine aG (aA ?_)
  refine S B 1 O fun a B=>aB (aG ?_)
  refine dK B O (fun Y=>?_) (fun Y=>?_)
  ·replace F:=(it Y).symm.trans F
   refine bI (aG ?_)
   refine dN (aG ?_)
   refine aA ?_
   obtain⟨I,f,F⟩:=bnd F
   obtain⟨b19,b19o,b19c,b19r,b19k,b19f⟩:=aH.at aY iZ f
   obtain⟨Y3,rfl,hb19_kids⟩:=NodeAt.opens b19k
   have b19f:AtP ρ b19 b19o [(Iv I.kind),(.string I.text),(Iv I.at_),(Iv I.fin),Y3]:=b19f
   refine V B A O (aO O B O O b19r) fun a B=>V B A O (aK O B O (fun w X=>aX (cs:=[(Iv I.kind),(.string I.text),(Iv I.at_),(Iv I.fin),Y3]) cO (fun j u E=>cell_of X.le (b19f j u E)))) fun a B=>?_
   refine dF (wk0 O) O O B A O [(Iv 0),(.string ByteArray.empty),(Iv 0),(Iv 0),N0] (fun w=>by simp[Instr.alloc,go_sem]<;>rfl) ?_
   intro a w b20 B A
   have A:=r10 A
   refine aV (wk0 O) O B A O O O 0 O cO.size_ O (aP ⟨O,O,O,O,(aH.one hb19_kids),tv⟩) [(Iv I.kind),(.string I.text),(Iv I.at_),(Iv I.fin),Y3] O ?_
   intro w A
   have A:=r10 A
   refine aB (aA ?_)
   refine V B A O (xl B varty110 9 O O O O) fun a B=>V B A O (aK O B O (fun w X=>aX (cs:=[(Iv I.kind),(.string I.text),(Iv I.at_),(Iv I.fin),Y3]) cO (Hp.cN 0 O 0 _ (aS O) w X))) fun a B=>S B 1 O fun a B=>?_
   obtain⟨g,e,F⟩:=bnd F
   refine rZ (wk0 O) O O B O O [(.agg #[(Iv I.kind),(.string I.text),(Iv I.at_),(Iv I.fin),Y3]),(Iv (cp0.nodes.length:Int))] ⟨O,O,tv⟩ ent63 (hself I Y3 hb19_kids (cp0.nodes.length:Int) bcp0 (Nmb.mk aU dS fK) w2 xs2 w3 w4 hR2w bcp1 (((((A.get 9 O).get 9 O).get 9 O).get 9 O).get 9 O) g e) Ret.ret ?_
   intro v a w U B
   obtain⟨aH3,xsz1_nodes,aH4,aC6,rfl,hRz1_nodes,A⟩:=Ret.of U
   have A:=r10 A
   refine aB ?_
   have B:=B.cut (E':=[(3,(Pv bcp1 0)),(6,(Iv (cp0.nodes.length:Int))),(32,aI),(33,(Iv (C.kids.length:Int))),(34,(Iv aQ))]) ⟨O,O,O,O,O,tv⟩
   refine aA ?_
   obtain⟨x7,d,F⟩:=bnd F
   refine V B A O (bF O B O O (aN d)) fun a B=>S B 1 O fun a B=>aB ?_
   exact⟨_,(oj F).symm,_,_,_,_,hRz1_nodes,B.cut ⟨O,O,O,O,O,tv⟩,(((((((((((A.get 4 O).get 4 O).get 4 O).get 4 O).get 4 O).get 9 O).get 9 O).get 9 O).get 9 O).get 9 O).drop)⟩
  replace F:=(ie Y).symm.trans F
  refine dZ ?_
  refine⟨_,(oj F).symm,fun hbb=>?_⟩
  subst hbb
  exact⟨_,_,_,_,hR2w,B.cut trivial,A⟩
 rintro a w ⟨w2,xs2,w3,w4,hR2w,B,A⟩
 obtain rfl:=oj J
 exact aD6 B O ⟨_,O,_,_,_,_,O,hR2w,(((((((A.get 3 O).drop).get 2 O).drop).get 1 O).drop).drop)⟩
theorem aP8:∀(n:Nat),∀{Z:World} {ρ:PH} {L:List bQ} {w:World} (A:Node) (aI:Value) (aY:aH ρ aI A.kids) (B:Int) (bcp0:Nat) (cp0:Nmb) (nH:Value) (jE:List Value) (iU:Value) (fG:Value) (hRcp0_nodes:gU ρ (cp0.nodes:List Node) jE) (bcp1:Nat) (D:Hp Z ρ (Pt bcp0 (.cells #[nH,iU,fG] 75 (0,0))::sS 24 nH (cp0.nodes:(List Node)) jE::aC 3 iU cp0.sizes::aC 3 fG cp0.parent::Pt bcp1 (.cells #[(.func (.func 63) #[] #[(Pv bcp0 0),(Pv bcp1 0)])] 110 (0,0))::L) w) (r:Nmb) (C:qX n A B cp0=some r),Calls Tryz.prog 63 #[(.agg #[(Iv A.kind),(.string A.text),(Iv A.at_),(Iv A.fin),aI]),(Iv B),(Pv bcp0 0),(Pv bcp1 0)] w (Ret fun v w'=>∃(rV:Value) (pY:List Value) (rW:Value) (pV:Value),v= .tuple #[]∧gU ρ (r.nodes:List Node) pY∧Hp Z ρ (Pt bcp0 (.cells #[rV,rW,pV] 75 (0,0))::sS 24 rV (r.nodes:(List Node)) pY::aC 3 rW r.sizes::aC 3 pV r.parent::Pt bcp1 (.cells #[(.func (.func 63) #[] #[(Pv bcp0 0),(Pv bcp1 0)])] 110 (0,0))::L) w'):=by
 intro n
 induction n with
 |zero=>intro Z ρ L w A aI aY B bcp0 cp0 nH jE iU fG hRcp0_nodes bcp1 D r C;cases C
 |succ n ih=>intro Z ρ L w A aI aY B bcp0 cp0 nH jE iU fG hRcp0_nodes bcp1 D r C;exact aK2 (qX n) ih A aI aY B bcp0 cp0 nH jE iU fG hRcp0_nodes bcp1 D r C
theorem aS7 {Z:World} {ρ:PH} {L:List bQ} {w:World} (A:Node) (aI:Value) (aY:aH ρ aI A.kids) (B:Int) (bcp0:Nat) (cp0:Nmb) (nH:Value) (jE:List Value) (iU:Value) (fG:Value) (hRcp0_nodes:gU ρ (cp0.nodes:List Node) jE) (bcp1:Nat) (C:Hp Z ρ (Pt bcp0 (.cells #[nH,iU,fG] 75 (0,0))::sS 24 nH (cp0.nodes:(List Node)) jE::aC 3 iU cp0.sizes::aC 3 fG cp0.parent::Pt bcp1 (.cells #[(.func (.func 63) #[] #[(Pv bcp0 0),(Pv bcp1 0)])] 110 (0,0))::L) w) (r:Nmb) (D:L6 A B cp0=some r):
  Calls Tryz.prog 63 #[(.agg #[(Iv A.kind),(.string A.text),(Iv A.at_),(Iv A.fin),aI]),(Iv B),(Pv bcp0 0),(Pv bcp1 0)] w (Ret fun v w'=>∃(rV:Value) (pY:List Value) (rW:Value) (pV:Value),v= .tuple #[]∧gU ρ (r.nodes:List Node) pY∧Hp Z ρ (Pt bcp0 (.cells #[rV,rW,pV] 75 (0,0))::sS 24 rV (r.nodes:(List Node)) pY::aC 3 rW r.sizes::aC 3 pV r.parent::Pt bcp1 (.cells #[(.func (.func 63) #[] #[(Pv bcp0 0),(Pv bcp1 0)])] 110 (0,0))::L) w'):=aP8 _ A aI aY B bcp0 cp0 nH jE iU fG hRcp0_nodes bcp1 C r D
theorem bJ {Z:World} {ρ:PH} {L:List bQ} {w:World} (C:Node) (aI:Value) (aY:aH ρ aI C.kids) (A:Hp Z ρ (L) w) (r:Nmb) (E:jX C=some r):
  Calls Tryz.prog 40 #[(.agg #[(Iv C.kind),(.string C.text),(Iv C.at_),(Iv C.fin),aI])] w (Ret fun v w'=>∃(ρ':PH) (vr1_nodes:Value) (vr1_sizes:Value) (vr1_parent:Value),ρ.le ρ'∧v=(.agg #[vr1_nodes,vr1_sizes,vr1_parent])∧aH ρ' vr1_nodes r.nodes∧aH ρ' vr1_sizes r.sizes∧aH ρ' vr1_parent r.parent∧Hp Z ρ' (L) w'):=by
 refine enter (N:=10) Tryz.func40 O O [(0,(.agg #[(Iv C.kind),(.string C.text),(Iv C.at_),(Iv C.fin),aI]))] O (bH ⟨O,tv⟩) fun a B=>?_
 unfold jX at E
 refine aG (aA ?_)
 refine iH (wk0 O) O O B A O (v:=(.agg #[(Iv C.kind),(.string C.text),(Iv C.at_),(Iv C.fin),aI])) O ?_
 intro a w b1 B A
 have A:=r1 A
 refine dF (wk0 O) O O B A O [N0,N0,N0] (fun w=>by simp[Instr.alloc,go_sem]<;>rfl) ?_
 intro a w b2 B A
 have A:=r2 A
 refine aB (aG ?_)
 refine aA ?_
 refine dF (wk0 O) O O B A O [N0,N0,N0] (fun w=>by simp[Instr.alloc,go_sem]<;>rfl) ?_
 intro a w b3 B A
 have A:=r3 A
 refine aB (aG ?_)
 refine aA ?_
 refine dF (wk0 O) O O B A O [.nilFunc] (fun w=>by simp[Instr.alloc,go_sem]<;>rfl) ?_
 intro a w b4 B A
 have A:=r4 A
 refine aB (aG ?_)
 refine aA (V B A O (v:=(.func (.func 63) #[] #[(Pv b3 0),(Pv b4 0)])) (ex_fn O B [(Pv b3 0),(Pv b4 0)] (by exact⟨O,O,tv⟩)) fun a B=>?_)
 refine aV (wk0 O) O B A O O O 0 O varty110.size_ O (aP ⟨O,tv⟩) [(.func (.func 63) #[] #[(Pv b3 0),(Pv b4 0)])] O ?_
 intro w A
 have A:=r4 A
 refine aB (aG ?_)
 refine aA (V B A O (xl B varty110 0 O O O O) fun a B=>?_)
 refine V B A O (aK O B O (fun w F=>aX (cs:=[(Iv C.kind),(.string C.text),(Iv C.at_),(Iv C.fin),aI]) cO (Hp.cN 3 O 0 _ (aS O) w F))) fun a B=>?_
 have A:=A.emp (sS.nil (α:=Node) 24)
 have hR1:gU ρ ([]:List Node) []:=gU.nil
 have A:=r5 A
 have A:=A.emp (aC.nil (α:=Int) 3)
 have A:=r6 A
 have A:=A.emp (aC.nil (α:=Int) 3)
 have A:=r7 A
 have A:=r7 A
 obtain⟨D,G,E⟩:=bnd E
 refine rZ (wk0 O) O O B O O [(.agg #[(Iv C.kind),(.string C.text),(Iv C.at_),(Iv C.fin),aI]),(Iv (-1))] ⟨O,O,tv⟩ ent63 (aS7 C aI aY (-1) b3 (Nmb.mk ([]) ([]) ([])) N0 ([]) N0 N0 hR1 b4 (((((A.get 3 O).get 1 O).get 2 O).get 3 O).get 4 O) D G) Ret.ret ?_
 intro v a w H B
 obtain⟨aH3,xsz1_nodes,aH4,aC6,rfl,hRz1_nodes,A⟩:=Ret.of H
 have A:=r7 A
 refine aB (aG ?_)
 refine aA (V B A O (aK O B O (fun w F=>aX (cs:=[aH3,aH4,aC6]) dG (Hp.cN 0 O 0 _ (aS O) w F))) fun a B=>?_)
 refine aV (wk0 O) O B A O O O 5 O dG.size_ O (aP ⟨(sS.one A 1 O),(aC.one A 2 O),(aC.one A 3 O),tv⟩) [aH3,aH4,aC6] O ?_
 intro w A
 have A:=r7 A
 refine aB (cZ ?_)
 obtain⟨k1,k1a,k1d,A⟩:=(A.get 1 O).lend
 have f1:aH (ρ.un k1) aH3 D.nodes:=sS.ro k1d k1a hRz1_nodes
 have A:=r6 A
 obtain⟨k2,k2a,k2d,A⟩:=(A.get 1 O).lend
 have f2:aH ((ρ.un k1).un k2) aH4 D.sizes:=aC.ro k2d k2a
 have A:Hp Z ((ρ.un k1).un k2) (_::_::_::_::_::L) w:=A
 obtain⟨k3,k3a,k3d,A⟩:=(A.get 1 O).lend
 have f3:aH (((ρ.un k1).un k2).un k3) aC6 D.parent:=aC.ro k3d k3a
 have A:Hp Z (((ρ.un k1).un k2).un k3) (_::_::_::_::L) w:=A
 obtain rfl:=oj E
 exact retc1 B O O (aI6 (cs:=[aH3,aH4,aC6]) dG (Hp.cN 2 O 0 _ (aS O) _ A)) ⟨_,O,_,_,_,_,(PH.le.tr (PH.le.tr (PH.le_un _ k1) (PH.le_un _ k2)) (PH.le_un _ k3)),O,(aH.mono (aH.mono f1 (PH.le_un _ k2)) (PH.le_un _ k3)),(aH.mono f2 (PH.le_un _ k3)),f3,(((((((A.get 3 O).drop).get 2 O).drop).get 1 O).drop).drop)⟩
theorem U9 (self:Int→(List Int)→Nmb→(List Int)→Option ((List Int)×(List Int))) (hself:∀{Z:World} {ρ:PH} {L:List bQ} {w:World} (E:Int) (bcp0:Nat) (cp0:(List Int)) (vcp0:Value) (bcp1:Nat) (cp1:Nmb) (iP:Value) (yG:aH ρ iP cp1.nodes) (iQ:Value) (uT:aH ρ iQ cp1.sizes) (iD:Value) (wI:aH ρ iD cp1.parent) (bcp2:Nat) (bcp3:Nat) (cp3:(List Int)) (vcp3:Value) (A:Hp Z ρ (Pt bcp0 (.cells #[vcp0] 73 (0,0))::aC 3 vcp0 cp0::Pt bcp1 (.cells #[iP,iQ,iD] 75 (0,0))::Pt bcp2 (.cells #[(.func (.func 69) #[] #[(Pv bcp0 0),(Pv bcp1 0),(Pv bcp2 0),(Pv bcp3 0)])] 115 (0,0))::Pt bcp3 (.cells #[vcp3] 73 (0,0))::aC 3 vcp3 cp3::L) w) (r:((List Int)×(List Int))) (F:self E cp0 cp1 cp3=some r),Calls Tryz.prog 69 #[(Iv E),(Pv bcp0 0),(Pv bcp1 0),(Pv bcp2 0),(Pv bcp3 0)] w (Ret fun v w'=>∃(vzcp0:Value) (vzcp3:Value),v= .tuple #[]∧Hp Z ρ (Pt bcp0 (.cells #[vzcp0] 73 (0,0))::aC 3 vzcp0 r.1::Pt bcp1 (.cells #[iP,iQ,iD] 75 (0,0))::Pt bcp2 (.cells #[(.func (.func 69) #[] #[(Pv bcp0 0),(Pv bcp1 0),(Pv bcp2 0),(Pv bcp3 0)])] 115 (0,0))::Pt bcp3 (.cells #[vzcp3] 73 (0,0))::aC 3 vzcp3 r.2::L) w')) {Z:World} {ρ:PH} {L:List bQ} {w:World} (E:Int) (bcp0:Nat) (cp0:(List Int)) (vcp0:Value) (bcp1:Nat) (cp1:Nmb) (iP:Value) (yG:aH ρ iP cp1.nodes) (iQ:Value) (uT:aH ρ iQ cp1.sizes) (iD:Value) (wI:aH ρ iD cp1.parent) (bcp2:Nat) (bcp3:Nat) (cp3:(List Int)) (vcp3:Value) (A:Hp Z ρ (Pt bcp0 (.cells #[vcp0] 73 (0,0))::aC 3 vcp0 cp0::Pt bcp1 (.cells #[iP,iQ,iD] 75 (0,0))::Pt bcp2 (.cells #[(.func (.func 69) #[] #[(Pv bcp0 0),(Pv bcp1 0),(Pv bcp2 0),(Pv bcp3 0)])] 115 (0,0))::Pt bcp3 (.cells #[vcp3] 73 (0,0))::aC 3 vcp3 cp3::L) w) (r:((List Int)×(List Int))) (F:oC self E cp0 cp1 cp3=some r):
  Calls Tryz.prog 69 #[(Iv E),(Pv bcp0 0),(Pv bcp1 0),(Pv bcp2 0),(Pv bcp3 0)] w (Ret fun v w'=>∃(vzcp0:Value) (vzcp3:Value),v= .tuple #[]∧Hp Z ρ (Pt bcp0 (.cells #[vzcp0] 73 (0,0))::aC 3 vzcp0 r.1::Pt bcp1 (.cells #[iP,iQ,iD] 75 (0,0))::Pt bcp2 (.cells #[(.func (.func 69) #[] #[(Pv bcp0 0),(Pv bcp1 0),(Pv bcp2 0),(Pv bcp3 0)])] 115 (0,0))::Pt bcp3 (.cells #[vzcp3] 73 (0,0))::aC 3 vzcp3 r.2::L) w'):=by
 refine enter (N:=39) Tryz.func69 O O [(0,(Iv E)),(1,(Pv bcp0 0)),(2,(Pv bcp1 0)),(3,(Pv bcp2 0)),(4,(Pv bcp3 0))] O (bH ⟨O,O,O,O,O,tv⟩) fun a B=>?_
 unfold oC at F
 refine aG (aA ?_)
 refine V B A O (xl B aT 0 O O O O) fun a B=>V B A O (bW O B O (aC.len A 1 O bD)) fun a B=>S B 1 O fun a B=>aB (aG ?_)
 refine aG (aA ?_)
 refine S B 1 O fun a B=>?_
 obtain⟨x1,Y,F⟩:=bnd F
 refine V B A O (bF O B O O (aN Y)) fun a B=>S B 1 O fun a B=>aB ?_
 obtain⟨b1,M,F⟩:=bnd F
 refine dM (fun a w=>∃(w2:Value) (w6:Value),Env 39 [(0,(Iv E)),(1,(Pv bcp0 0)),(4,(Pv bcp3 0)),(6,(Iv (cp0.length:Int)))] a∧Hp Z ρ (Pt bcp0 (.cells #[w2] 73 (0,0))::aC 3 w2 b1.1::Pt bcp1 (.cells #[iP,iQ,iD] 75 (0,0))::Pt bcp2 (.cells #[(.func (.func 69) #[] #[(Pv bcp0 0),(Pv bcp1 0),(Pv bcp2 0),(Pv bcp3 0)])] 115 (0,0))::Pt bcp3 (.cells #[w6] 73 (0,0))::aC 3 w6 b1.2::L) w) ?_ ?_
 ·refine eQ M (fun s a w=>∃(w2:Value) (w6:Value),Env 39 [(0,(Iv E)),(1,(Pv bcp0 0)),(2,(Pv bcp1 0)),(3,(Pv bcp2 0)),(4,(Pv bcp3 0)),(6,(Iv (cp0.length:Int))),(7,(Iv s.1))] a∧Hp Z ρ (Pt bcp0 (.cells #[w2] 73 (0,0))::aC 3 w2 s.2.1::Pt bcp1 (.cells #[iP,iQ,iD] 75 (0,0))::Pt bcp2 (.cells #[(.func (.func 69) #[] #[(Pv bcp0 0),(Pv bcp1 0),(Pv bcp2 0),(Pv bcp3 0)])] 115 (0,0))::Pt bcp3 (.cells #[w6] 73 (0,0))::aC 3 w6 s.2.2::L) w) ?_ ?_
  ·exact⟨_,_,B.cut ⟨O,O,O,O,O,O,O,tv⟩,A⟩
  rintro⟨aQ,aU,dS⟩ st a w ⟨w2,w6,B,A⟩ C
  dsimp only at B A C
  unfold kU at C
  refine aG (aG ?_)
  refine aA (S B 2 O fun a B=>?_)
  refine V B A O (xf B xE O O) fun a B=>V B A O (xl B aT 2 O O O O) fun a B=>S B 1 O fun a B=>?_
  obtain⟨d,X,C⟩:=bnd C
  obtain⟨b2,b2o,b2c,b2r,b2k,b2f⟩:=aH.at uT bD X
  obtain rfl:b2c=Enc.enc d:=b2k
  have b2f:AtP ρ b2 b2o [(Iv d)]:=b2f
  refine V B A O (aO O B O O b2r) fun a B=>V B A O (aK O B O (fun w K=>aZ aW (b2f.c 0 O w K))) fun a B=>?_
  obtain⟨x3,W,C⟩:=bnd C
  refine V B A O (bF O B O O (aN W)) fun a B=>S B 1 O fun a B=>aB ?_
  refine dK B O (fun H=>?_) (fun H=>?_)
  ·replace C:=(it H).symm.trans C
   refine bI (aG ?_)
   refine dN (aA ?_)
   refine V B A O (xl B varty115 3 O O O O) fun a B=>S B 1 O fun a B=>?_
   obtain⟨i,U,C⟩:=bnd C
   refine rZ (wk0 O) O O B O O [(Iv aQ)] ⟨O,tv⟩ ent69 (hself aQ bcp0 aU w2 bcp1 cp1 iP yG iQ uT iD wI bcp2 bcp3 dS w6 ((((((A.get 5 O).get 5 O).get 5 O).get 5 O).get 5 O).get 5 O) i U) Ret.ret ?_
   intro v a w k B
   obtain⟨vz1,vz2,rfl,A⟩:=Ret.of k
   have A:=r6 A
   refine aB (aA ?_)
   refine S B 1 O fun a B=>V B A O (xf B xE O O) fun a B=>V B A O (xl B aT 2 O O O O) fun a B=>S B 1 O fun a B=>?_
   obtain⟨b,R,C⟩:=bnd C
   obtain⟨b3,b3o,b3c,b3r,b3k,b3f⟩:=aH.at uT bD R
   obtain rfl:b3c=Enc.enc b:=b3k
   have b3f:AtP ρ b3 b3o [(Iv b)]:=b3f
   refine V B A O (aO O B O O b3r) fun a B=>V B A O (aK O B O (fun w K=>aZ aW (b3f.c 0 O w K))) fun a B=>?_
   obtain⟨g,Q,C⟩:=bnd C
   refine V B A O (bF O B O O (aN Q)) fun a B=>S B 1 O fun a B=>aB ?_
   have B:=B.cut (E':=[(0,(Iv E)),(1,(Pv bcp0 0)),(2,(Pv bcp1 0)),(3,(Pv bcp2 0)),(4,(Pv bcp3 0)),(6,(Iv (cp0.length:Int))),(7,(Iv g))]) ⟨O,O,O,O,O,O,O,tv⟩
   exact⟨_,(oj C).symm,_,_,B.cut ⟨O,O,O,O,O,O,O,tv⟩,A⟩
  replace C:=(ie H).symm.trans C
  refine dZ ?_
  refine⟨_,(oj C).symm,fun hbb=>?_⟩
  subst hbb
  exact⟨_,_,B.cut ⟨O,O,O,O,tv⟩,A⟩
 rintro a w ⟨w2,w6,B,A⟩
 obtain⟨f,J,F⟩:=bnd F
 obtain⟨e,I,F⟩:=bnd F
 have A:=A.drew
 refine gK ([([],At0 Z ρ),([8],At1 Z ρ (Pt bcp0 (.cells #[w2] 73 (0,0)))),([9],At1 Z ρ (Pt bcp3 (.cells #[w6] 73 (0,0))))]:Facts) (fun a w=>∃y10:Nat,∃y9:Nat,∃y2:Value,∃y6:Value,Env 39 [] a∧Hp Z ρ (Pt y10 (.cells #[(Iv (cp0.length:Int))] 3 (0,0))::Pt y9 (.cells #[(Iv E)] 3 (0,0))::Pt bcp0 (.cells #[y2] 73 (0,0))::aC 3 y2 f::Pt bcp1 (.cells #[iP,iQ,iD] 75 (0,0))::Pt bcp2 (.cells #[(.func (.func 69) #[] #[(Pv bcp0 0),(Pv bcp1 0),(Pv bcp2 0),(Pv bcp3 0)])] 115 (0,0))::Pt bcp3 (.cells #[y6] 73 (0,0))::aC 3 y6 e::L) w) kr ⟨fun _=>⟨_,A⟩,fun _=>⟨_,(A.get 0 O)⟩,fun _=>⟨_,(A.get 4 O)⟩,tv⟩ (fun D=>?_) ?_
 ·
  generalize w.drew=w at D A⊢
  refine T 0 1 B D O O O kr (fun _=>xl B aT 0 O O O O) fun a B D=>Ts [1] B D O O kr fun a B D=>T 4 2 B D O O O kr (fun _=>xl B aT 0 O O O O) fun a B D=>Ts [5] B D O O kr fun a B D=>?_
  refine fQ [2,6] kr O ?_
  refine uE.2 ⟨?_,uE.2 ⟨?_,fun _ h=>absurd h (by simp)⟩⟩
  ·
   refine dV O ?_
   refine fU (wk0 O) O O B A O [(0,(Iv E))] ⟨⟨O,O⟩,tv⟩ [(Iv E)] 3 (fun w=>by simp[Instr.buildSlice,Instr.fill,Value.cells,go_sem]) ?_
   intro a w b6 B A
   have A:=r7 A
   refine aB (aF ⟨gp0 A,gp 1 A O,gp 5 A O,tv⟩ fun D=>?_)
   refine fQ [3,6] kr O ?_
   refine uE.2 ⟨?_,uE.2 ⟨?_,fun _ h=>absurd h (by simp)⟩⟩
   ·
    refine dV O ?_
    refine gB (wk0 O) O O B A O bD O O 2 O O (l2:=[E]) O (fun j u G=>by have:=Hp.cN 0 O 0 _ (aS O) w A j u G;simpa using this) J ?_
    intro v3 a w B A
    have A:=r7 A
    refine aB (aF ⟨gp0 A,gp 1 A O,gp 5 A O,tv⟩ fun D=>?_)
    refine W1 6 kr O ?_
    refine fU (wk0 O) O O B A O [(0,(Iv (cp0.length:Int)))] ⟨⟨O,O⟩,tv⟩ [(Iv (cp0.length:Int))] 3 (fun w=>by simp[Instr.buildSlice,Instr.fill,Value.cells,go_sem]) ?_
    intro a w b7 B A
    have A:=r8 A
    refine aB (aF ⟨gp0 A,gp 2 A O,gp 6 A O,tv⟩ fun D=>?_)
    refine W1 7 kr O ?_
    refine gB (wk0 O) O O B A O bD O O 7 O O (l2:=[(cp0.length:Int)]) O (fun j u G=>by have:=Hp.cN 0 O 0 _ (aS O) w A j u G;simpa using this) I ?_
    intro v4 a w B A
    have A:=r8 A
    refine aB (aF ⟨gp0 A,gp 2 A O,gp 6 A O,tv⟩ fun D=>?_)
    refine W1 8 kr O ?_
    refine bV (wk0 O) O B A O O O 2 O aT.size_ (aC.cells A 3 O) (aC.one A 3 O) O [v3] O ?_
    intro w A
    have A:=r8 A
    refine aB (aF ⟨gp0 A,dead kr,gp 6 A O,tv⟩ fun D=>?_)
    refine W1 9 kr O ?_
    refine bV (wk0 O) O B A O O O 6 O aT.size_ (aC.cells A 7 O) (aC.one A 7 O) O [v4] O ?_
    intro w A
    have A:=r8 A
    refine aB (aF ⟨gp0 A,dead kr,dead kr,tv⟩ fun D=>?_)
    exact bT kr ⟨_,_,_,_,B.cut trivial,A⟩
   refine dV O ?_
   refine fU (wk0 O) O O B A O [(0,(Iv (cp0.length:Int)))] ⟨⟨O,O⟩,tv⟩ [(Iv (cp0.length:Int))] 3 (fun w=>by simp[Instr.buildSlice,Instr.fill,Value.cells,go_sem]) ?_
   intro a w b8 B A
   have A:=r8 A
   refine aB (aF ⟨gp0 A,gp 2 A O,gp 6 A O,tv⟩ fun D=>?_)
   refine W1 3 kr O ?_
   refine gB (wk0 O) O O B A O bD O O 3 O O (l2:=[E]) O (fun j u G=>by have:=Hp.cN 1 O 0 _ (aS O) w A j u G;simpa using this) J ?_
   intro v5 a w B A
   have A:=r8 A
   refine aB (aF ⟨gp0 A,gp 2 A O,gp 6 A O,tv⟩ fun D=>?_)
   refine W1 7 kr O ?_
   refine gB (wk0 O) O O B A O bD O O 7 O O (l2:=[(cp0.length:Int)]) O (fun j u G=>by have:=Hp.cN 0 O 0 _ (aS O) w A j u G;simpa using this) I ?_
   intro v6 a w B A
   have A:=r8 A
   refine aB (aF ⟨gp0 A,gp 2 A O,gp 6 A O,tv⟩ fun D=>?_)
   refine W1 8 kr O ?_
   refine bV (wk0 O) O B A O O O 2 O aT.size_ (aC.cells A 3 O) (aC.one A 3 O) O [v5] O ?_
   intro w A
   have A:=r8 A
   refine aB (aF ⟨gp0 A,dead kr,gp 6 A O,tv⟩ fun D=>?_)
   refine W1 9 kr O ?_
   refine bV (wk0 O) O B A O O O 6 O aT.size_ (aC.cells A 7 O) (aC.one A 7 O) O [v6] O ?_
   intro w A
   have A:=r8 A
   refine aB (aF ⟨gp0 A,dead kr,dead kr,tv⟩ fun D=>?_)
   exact bT kr ⟨_,_,_,_,B.cut trivial,A⟩
  refine dV O ?_
  refine fU (wk0 O) O O B A O [(0,(Iv (cp0.length:Int)))] ⟨⟨O,O⟩,tv⟩ [(Iv (cp0.length:Int))] 3 (fun w=>by simp[Instr.buildSlice,Instr.fill,Value.cells,go_sem]) ?_
  intro a w b9 B A
  have A:=r7 A
  refine aB (aF ⟨gp0 A,gp 1 A O,gp 5 A O,tv⟩ fun D=>?_)
  refine W1 2 kr O ?_
  refine fU (wk0 O) O O B A O [(0,(Iv E))] ⟨⟨O,O⟩,tv⟩ [(Iv E)] 3 (fun w=>by simp[Instr.buildSlice,Instr.fill,Value.cells,go_sem]) ?_
  intro a w b10 B A
  have A:=r8 A
  refine aB (aF ⟨gp0 A,gp 2 A O,gp 6 A O,tv⟩ fun D=>?_)
  refine W1 3 kr O ?_
  refine gB (wk0 O) O O B A O bD O O 3 O O (l2:=[E]) O (fun j u G=>by have:=Hp.cN 0 O 0 _ (aS O) w A j u G;simpa using this) J ?_
  intro v7 a w B A
  have A:=r8 A
  refine aB (aF ⟨gp0 A,gp 2 A O,gp 6 A O,tv⟩ fun D=>?_)
  refine W1 7 kr O ?_
  refine gB (wk0 O) O O B A O bD O O 7 O O (l2:=[(cp0.length:Int)]) O (fun j u G=>by have:=Hp.cN 1 O 0 _ (aS O) w A j u G;simpa using this) I ?_
  intro v8 a w B A
  have A:=r8 A
  refine aB (aF ⟨gp0 A,gp 2 A O,gp 6 A O,tv⟩ fun D=>?_)
  refine W1 8 kr O ?_
  refine bV (wk0 O) O B A O O O 2 O aT.size_ (aC.cells A 3 O) (aC.one A 3 O) O [v7] O ?_
  intro w A
  have A:=r8 A
  refine aB (aF ⟨gp0 A,dead kr,gp 6 A O,tv⟩ fun D=>?_)
  refine W1 9 kr O ?_
  refine bV (wk0 O) O B A O O O 6 O aT.size_ (aC.cells A 7 O) (aC.one A 7 O) O [v8] O ?_
  intro w A
  have A:=r8 A
  refine aB (aF ⟨gp0 A,dead kr,dead kr,tv⟩ fun D=>?_)
  exact bT kr ⟨_,_,_,_,B.cut trivial,((((((((A.get 7 O).get 7 O).get 7 O).get 7 O).get 7 O).get 7 O).get 6 O).get 7 O)⟩
 rintro a w ⟨y10,y9,y2,y6,B,A⟩
 obtain rfl:=oj F
 exact aD6 B O ⟨_,O,_,_,O,(((A.get 1 O).drop).drop)⟩
theorem aC8:∀(n:Nat),∀{Z:World} {ρ:PH} {L:List bQ} {w:World} (A:Int) (bcp0:Nat) (cp0:(List Int)) (vcp0:Value) (bcp1:Nat) (cp1:Nmb) (iP:Value) (yG:aH ρ iP cp1.nodes) (iQ:Value) (uT:aH ρ iQ cp1.sizes) (iD:Value) (wI:aH ρ iD cp1.parent) (bcp2:Nat) (bcp3:Nat) (cp3:(List Int)) (vcp3:Value) (C:Hp Z ρ (Pt bcp0 (.cells #[vcp0] 73 (0,0))::aC 3 vcp0 cp0::Pt bcp1 (.cells #[iP,iQ,iD] 75 (0,0))::Pt bcp2 (.cells #[(.func (.func 69) #[] #[(Pv bcp0 0),(Pv bcp1 0),(Pv bcp2 0),(Pv bcp3 0)])] 115 (0,0))::Pt bcp3 (.cells #[vcp3] 73 (0,0))::aC 3 vcp3 cp3::L) w) (r:((List Int)×(List Int))) (B:jS n A cp0 cp1 cp3=some r),Calls Tryz.prog 69 #[(Iv A),(Pv bcp0 0),(Pv bcp1 0),(Pv bcp2 0),(Pv bcp3 0)] w (Ret fun v w'=>∃(vzcp0:Value) (vzcp3:Value),v= .tuple #[]∧Hp Z ρ (Pt bcp0 (.cells #[vzcp0] 73 (0,0))::aC 3 vzcp0 r.1::Pt bcp1 (.cells #[iP,iQ,iD] 75 (0,0))::Pt bcp2 (.cells #[(.func (.func 69) #[] #[(Pv bcp0 0),(Pv bcp1 0),(Pv bcp2 0),(Pv bcp3 0)])] 115 (0,0))::Pt bcp3 (.cells #[vzcp3] 73 (0,0))::aC 3 vzcp3 r.2::L) w'):=by
 intro n
 induction n with
 |zero=>intro Z ρ L w A bcp0 cp0 vcp0 bcp1 cp1 iP yG iQ uT iD wI bcp2 bcp3 cp3 vcp3 C r B;cases B
 |succ n ih=>intro Z ρ L w A bcp0 cp0 vcp0 bcp1 cp1 iP yG iQ uT iD wI bcp2 bcp3 cp3 vcp3 C r B;exact U9 (jS n) ih A bcp0 cp0 vcp0 bcp1 cp1 iP yG iQ uT iD wI bcp2 bcp3 cp3 vcp3 C r B
theorem aF0 {Z:World} {ρ:PH} {L:List bQ} {w:World} (A:Int) (bcp0:Nat) (cp0:(List Int)) (vcp0:Value) (bcp1:Nat) (cp1:Nmb) (iP:Value) (yG:aH ρ iP cp1.nodes) (iQ:Value) (uT:aH ρ iQ cp1.sizes) (iD:Value) (wI:aH ρ iD cp1.parent) (bcp2:Nat) (bcp3:Nat) (cp3:(List Int)) (vcp3:Value) (B:Hp Z ρ (Pt bcp0 (.cells #[vcp0] 73 (0,0))::aC 3 vcp0 cp0::Pt bcp1 (.cells #[iP,iQ,iD] 75 (0,0))::Pt bcp2 (.cells #[(.func (.func 69) #[] #[(Pv bcp0 0),(Pv bcp1 0),(Pv bcp2 0),(Pv bcp3 0)])] 115 (0,0))::Pt bcp3 (.cells #[vcp3] 73 (0,0))::aC 3 vcp3 cp3::L) w) (r:((List Int)×(List Int))) (C:vW A cp0 cp1 cp3=some r):
  Calls Tryz.prog 69 #[(Iv A),(Pv bcp0 0),(Pv bcp1 0),(Pv bcp2 0),(Pv bcp3 0)] w (Ret fun v w'=>∃(vzcp0:Value) (vzcp3:Value),v= .tuple #[]∧Hp Z ρ (Pt bcp0 (.cells #[vzcp0] 73 (0,0))::aC 3 vzcp0 r.1::Pt bcp1 (.cells #[iP,iQ,iD] 75 (0,0))::Pt bcp2 (.cells #[(.func (.func 69) #[] #[(Pv bcp0 0),(Pv bcp1 0),(Pv bcp2 0),(Pv bcp3 0)])] 115 (0,0))::Pt bcp3 (.cells #[vzcp3] 73 (0,0))::aC 3 vzcp3 r.2::L) w'):=aC8 _ A bcp0 cp0 vcp0 bcp1 cp1 iP yG iQ uT iD wI bcp2 bcp3 cp3 vcp3 B r C
theorem I4 {Z:World} {ρ:PH} {L:List bQ} {w:World} (C:Nmb) (gG:Value) (J8:aH ρ gG C.nodes) (gJ:Value) (Y2:aH ρ gJ C.sizes) (fC:Value) (sD:aH ρ fC C.parent) (A:Hp Z ρ (L) w) (r:((List Int)×(List Int))) (D:nS C=some r):
  Calls Tryz.prog 49 #[(.agg #[gG,gJ,fC])] w (Ret fun v w'=>∃(ρ':PH) (vr1:Value) (vr2:Value),ρ.le ρ'∧v= .tuple #[vr1,vr2]∧aH ρ' vr1 r.1∧aH ρ' vr2 r.2∧Hp Z ρ' (L) w'):=by
 refine enter (N:=12) Tryz.func49 O O [(0,(.agg #[gG,gJ,fC]))] O (bH ⟨O,tv⟩) fun a B=>?_
 unfold nS at D
 refine aG (aA ?_)
 refine iH (wk0 O) O O B A O (v:=(.agg #[gG,gJ,fC])) O ?_
 intro a w b1 B A
 have A:=r1 A
 refine S B 2 O fun a B=>aB (aG ?_)
 refine aA ?_
 refine dF (wk0 O) O O B A O [N0] (fun w=>by simp[Instr.alloc,go_sem]<;>rfl) ?_
 intro a w b2 B A
 have A:=r2 A
 refine dF (wk0 O) O O B A O [N0] (fun w=>by simp[Instr.alloc,go_sem]<;>rfl) ?_
 intro a w b3 B A
 have A:=r3 A
 refine aB (aG ?_)
 refine aA ?_
 refine dF (wk0 O) O O B A O [.nilFunc] (fun w=>by simp[Instr.alloc,go_sem]<;>rfl) ?_
 intro a w b4 B A
 have A:=r4 A
 refine aB (aG ?_)
 refine aA (V B A O (v:=(.func (.func 69) #[] #[(Pv b2 0),(Pv b1 0),(Pv b4 0),(Pv b3 0)])) (ex_fn O B [(Pv b2 0),(Pv b1 0),(Pv b4 0),(Pv b3 0)] (by exact⟨O,O,O,O,tv⟩)) fun a B=>?_)
 refine aV (wk0 O) O B A O O O 0 O varty115.size_ O (aP ⟨O,tv⟩) [(.func (.func 69) #[] #[(Pv b2 0),(Pv b1 0),(Pv b4 0),(Pv b3 0)])] O ?_
 intro w A
 have A:=r4 A
 refine aB (aG ?_)
 refine aA (V B A O (xl B varty115 0 O O O O) fun a B=>?_)
 have A:=A.emp (aC.nil (α:=Int) 3)
 have A:=r5 A
 have A:=r5 A
 have A:=A.emp (aC.nil (α:=Int) 3)
 have A:=r6 A
 have A:=r6 A
 obtain⟨E,F,D⟩:=bnd D
 refine rZ (wk0 O) O O B O O [(Iv 0)] ⟨O,tv⟩ ent69 (aF0 0 b2 [] N0 b1 C gG J8 gJ Y2 fC sD b4 b3 [] N0 (((((A.get 3 O).get 3 O).get 5 O).get 4 O).get 5 O) E F) Ret.ret ?_
 intro v a w G B
 obtain⟨vz1,vz2,rfl,A⟩:=Ret.of G
 have A:=r6 A
 refine aB (aG ?_)
 refine jU kr kr A ?_
 refine Vq B O (xl B aT 0 O O O O) fun a B=>Vq B O (xl B aT 4 O O O O) fun a B=>Sq B 2 O fun a B=>?_
 refine jQ fun w A=>?_
 have A:=r6 A
 refine cZ ?_
 obtain⟨k1,k1a,k1d,A⟩:=(A.get 1 O).lend
 have f1:aH (ρ.un k1) vz1 E.1:=aC.ro k1d k1a
 have A:=r5 A
 obtain⟨k2,k2a,k2d,A⟩:=(A.get 4 O).lend
 have f2:aH ((ρ.un k1).un k2) vz2 E.2:=aC.ro k2d k2a
 have A:Hp Z ((ρ.un k1).un k2) (_::_::_::_::L) w:=A
 obtain rfl:=oj D
 exact N7 B O O O ⟨_,O,_,_,_,(PH.le.tr (PH.le_un _ k1) (PH.le_un _ k2)),O,(aH.mono f1 (PH.le_un _ k2)),f2,(((((((A.get 3 O).drop).get 2 O).drop).get 1 O).drop).drop)⟩
end Go.Proofs.YtopnldfjcciieaaGreat

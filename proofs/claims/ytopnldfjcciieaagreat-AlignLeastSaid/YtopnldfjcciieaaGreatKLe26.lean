/- The code goes as its model: assessor/assessorref37.Subtrees, assessor/assessorref37.Distance. (Printed by wip/sp/gen.py.) -/
import Derived.Test.YtopnldfjcciieaaGreatKLeT
import Derived.Test.YtopnldfjcciieaaGreatKLe4
import Derived.Test.YtopnldfjcciieaaGreatKLe5
import Derived.Test.YtopnldfjcciieaaGreatKLe25
set_option linter.unusedVariables false
set_option linter.unusedSimpArgs false
set_option maxRecDepth 100000
set_option maxHeartbeats 4000000
namespace Go.Proofs.YtopnldfjcciieaaGreat
open Go.RowKit
theorem aE2 {Z:World} {ρ:PH} {L:List bQ} {w:World} (E:Node) (aI:Value) (aY:aH ρ aI E.kids) (D:Node) (aJ:Value) (bG:aH ρ aJ D.kids) (A:Hp Z ρ (L) w) (r:(List (List Int))) (U:nV E D=some r):
  Calls Tryz.prog 52 #[(.agg #[(Iv E.kind),(.string E.text),(Iv E.at_),(Iv E.fin),aI]),(.agg #[(Iv D.kind),(.string D.text),(Iv D.at_),(Iv D.fin),aJ])] w (Ret fun v w'=>∃(vr1:Value) (usr1:List Sl),v=vr1∧Hp Z ρ (bM 73 3 vr1 usr1 (r:(List (List Int)))::L) w'):=by
 refine enter (N:=89) Tryz.func52 O O [(0,(.agg #[(Iv E.kind),(.string E.text),(Iv E.at_),(Iv E.fin),aI])),(1,(.agg #[(Iv D.kind),(.string D.text),(Iv D.at_),(Iv D.fin),aJ]))] O (bH ⟨O,O,tv⟩) fun a B=>?_
 unfold nV at U
 refine aG (aA ?_)
 refine iH (wk0 O) O O B A O (v:=(.agg #[(Iv E.kind),(.string E.text),(Iv E.at_),(Iv E.fin),aI])) O ?_
 intro a w b1 B A
 have A:=r1 A
 refine iH (wk0 O) O O B A O (v:=(.agg #[(Iv D.kind),(.string D.text),(Iv D.at_),(Iv D.fin),aJ])) O ?_
 intro a w b2 B A
 have A:=r2 A
 refine S B 1 O fun a B=>aB (aG ?_)
 obtain⟨G,W,U⟩:=bnd U
 obtain⟨F,Q,U⟩:=bnd U
 have A:=A.drew
 refine gK ([([],At0 Z ρ),([],At1 Z ρ (Pt b2 (.cells #[(Iv D.kind),(.string D.text),(Iv D.at_),(Iv D.fin),aJ] 24 (0,0)))),([],At1 Z ρ (Pt b1 (.cells #[(Iv E.kind),(.string E.text),(Iv E.at_),(Iv E.fin),aI] 24 (0,0))))]:Facts) (fun a w=>∃y13:Nat,∃y12:Nat,∃y8:Value,∃y9:Value,∃y10:Value,∃y11:Value,∃y4:Value,∃y5:Value,∃y6:Value,∃y7:Value,Env 89 [(5,(Pv y12 0)),(6,(Pv y13 0))] a∧Hp Z ρ (Pt y13 (.cells #[y8,y9,y10,y11] 123 (0,0))::Pt y12 (.cells #[y4,y5,y6,y7] 123 (0,0))::aC 3 y8 F.kinds::aC 9 y9 F.texts::aC 3 y10 F.left::aC 3 y11 F.numbers::aC 3 y4 G.kinds::aC 9 y5 G.texts::aC 3 y6 G.left::aC 3 y7 G.numbers::Pt b2 (.cells #[(Iv D.kind),(.string D.text),(Iv D.at_),(Iv D.fin),aJ] 24 (0,0))::Pt b1 (.cells #[(Iv E.kind),(.string E.text),(Iv E.at_),(Iv E.fin),aI] 24 (0,0))::L) w) kr ⟨fun _=>⟨_,A⟩,fun _=>⟨_,(A.get 0 O)⟩,fun _=>⟨_,(A.get 1 O)⟩,tv⟩ (fun C=>?_) ?_
 ·
  generalize w.drew=w at C A⊢
  refine T0 0 B C O O O kr (v:=(.agg #[N0,N0,N0,N0])) (fun _=>oD O B [] (by exact trivial) (fun w=>by simp[Instr.build,Instr.fill,Value.cells,go_sem])) fun a B C=>T 1 2 B C O O O kr (fun _=>aK O B O (fun w R=>aX (cs:=[(Iv E.kind),(.string E.text),(Iv E.at_),(Iv E.fin),aI]) cO (Hp.cN 0 O 0 _ (aS O) w R))) fun a B C=>T0 3 B C O O O kr (v:=(.agg #[N0,N0,N0,N0])) (fun _=>oD O B [] (by exact trivial) (fun w=>by simp[Instr.build,Instr.fill,Value.cells,go_sem])) fun a B C=>T 4 1 B C O O O kr (fun _=>aK O B O (fun w R=>aX (cs:=[(Iv D.kind),(.string D.text),(Iv D.at_),(Iv D.fin),aJ]) cO (Hp.cN 0 O 0 _ (aS O) w R))) fun a B C=>?_
  refine fQ [2,6,7] kr O ?_
  refine uE.2 ⟨?_,uE.2 ⟨?_,uE.2 ⟨?_,fun _ h=>absurd h (by simp)⟩⟩⟩
  ·
   refine dV O ?_
   have A:=A.emp (aC.nil (α:=Int) 3)
   have A:=r3 A
   have A:=A.emp (aC.nil (α:=ByteArray) 9)
   have A:=r4 A
   have A:=A.emp (aC.nil (α:=Int) 3)
   have A:=r5 A
   have A:=A.emp (aC.nil (α:=Int) 3)
   have A:=r6 A
   refine Cl B O O P5 (eG (RFlat.mk ([]) ([]) ([]) ([])) N0 N0 N0 N0 E aI aY 0 (((A.get 1 O).get 2 O).get 3 O) G W) ⟨O,O,O,tv⟩ fun v a w I B=>?_
   obtain⟨Y5,Y8,wE,oZ,rfl,A⟩:=I
   have A:=r6 A
   refine aB (aF ⟨gp0 A,gp 4 A O,gp 5 A O,tv⟩ fun C=>?_)
   refine fQ [5,6,7] kr O ?_
   refine uE.2 ⟨?_,uE.2 ⟨?_,uE.2 ⟨?_,fun _ h=>absurd h (by simp)⟩⟩⟩
   ·
    refine dV O ?_
    have A:=A.emp (aC.nil (α:=Int) 3)
    have A:=r7 A
    have A:=A.emp (aC.nil (α:=ByteArray) 9)
    have A:=r8 A
    have A:=A.emp (aC.nil (α:=Int) 3)
    have A:=r9 A
    have A:=A.emp (aC.nil (α:=Int) 3)
    have A:=r10 A
    refine Cl B O O P5 (eG (RFlat.mk ([]) ([]) ([]) ([])) N0 N0 N0 N0 D aJ bG 0 (((A.get 1 O).get 2 O).get 3 O) F Q) ⟨O,O,O,tv⟩ fun v a w I B=>?_
    obtain⟨vr4_kinds,vr4_texts,aM8,U5,rfl,A⟩:=I
    have A:=r10 A
    refine aB (aF ⟨gp0 A,gp 8 A O,gp 9 A O,tv⟩ fun C=>?_)
    refine fQ [6,7] kr O ?_
    refine uE.2 ⟨?_,uE.2 ⟨?_,fun _ h=>absurd h (by simp)⟩⟩
    ·
     refine dV O ?_
     refine dF (wk0 O) O O B A O [N0,N0,N0,N0] (fun w=>by simp[Instr.alloc,go_sem]<;>rfl) ?_
     intro a w b5 B A
     have A:=r11 A
     refine aB (aF ⟨gp0 A,gp 9 A O,gp 10 A O,tv⟩ fun C=>?_)
     refine W1 7 kr O ?_
     refine dF (wk0 O) O O B A O [N0,N0,N0,N0] (fun w=>by simp[Instr.alloc,go_sem]<;>rfl) ?_
     intro a w b6 B A
     have A:=r12 A
     refine aB (aF ⟨gp0 A,gp 10 A O,gp 11 A O,tv⟩ fun C=>?_)
     refine W1 8 kr O ?_
     refine aV (wk0 O) O B A O O O 1 O iM.size_ O (aP ⟨(aC.one A 6 O),(aC.one A 7 O),(aC.one A 8 O),(aC.one A 9 O),tv⟩) [Y5,Y8,wE,oZ] O ?_
     intro w A
     have A:=r12 A
     refine aB (aF ⟨gp0 A,gp 10 A O,gp 11 A O,tv⟩ fun C=>?_)
     refine W1 9 kr O ?_
     refine aV (wk0 O) O B A O O O 0 O iM.size_ O (aP ⟨(aC.one A 2 O),(aC.one A 3 O),(aC.one A 4 O),(aC.one A 5 O),tv⟩) [vr4_kinds,vr4_texts,aM8,U5] O ?_
     intro w A
     have A:=r12 A
     refine aB (aF ⟨gp0 A,gp 10 A O,gp 11 A O,tv⟩ fun C=>?_)
     exact bT kr ⟨_,_,_,_,_,_,_,_,_,_,B.cut ⟨O,O,tv⟩,A⟩
    refine dV O ?_
    refine dF (wk0 O) O O B A O [N0,N0,N0,N0] (fun w=>by simp[Instr.alloc,go_sem]<;>rfl) ?_
    intro a w b7 B A
    have A:=r11 A
    refine aB (aF ⟨gp0 A,gp 9 A O,gp 10 A O,tv⟩ fun C=>?_)
    refine W1 6 kr O ?_
    refine dF (wk0 O) O O B A O [N0,N0,N0,N0] (fun w=>by simp[Instr.alloc,go_sem]<;>rfl) ?_
    intro a w b8 B A
    have A:=r12 A
    refine aB (aF ⟨gp0 A,gp 10 A O,gp 11 A O,tv⟩ fun C=>?_)
    refine W1 8 kr O ?_
    refine aV (wk0 O) O B A O O O 0 O iM.size_ O (aP ⟨(aC.one A 6 O),(aC.one A 7 O),(aC.one A 8 O),(aC.one A 9 O),tv⟩) [Y5,Y8,wE,oZ] O ?_
    intro w A
    have A:=r12 A
    refine aB (aF ⟨gp0 A,gp 10 A O,gp 11 A O,tv⟩ fun C=>?_)
    refine W1 9 kr O ?_
    refine aV (wk0 O) O B A O O O 1 O iM.size_ O (aP ⟨(aC.one A 2 O),(aC.one A 3 O),(aC.one A 4 O),(aC.one A 5 O),tv⟩) [vr4_kinds,vr4_texts,aM8,U5] O ?_
    intro w A
    have A:=r12 A
    refine aB (aF ⟨gp0 A,gp 10 A O,gp 11 A O,tv⟩ fun C=>?_)
    exact bT kr ⟨_,_,_,_,_,_,_,_,_,_,B.cut ⟨O,O,tv⟩,((((((((((((A.get 11 O).get 11 O).get 11 O).get 11 O).get 11 O).get 11 O).get 11 O).get 11 O).get 11 O).get 11 O).get 10 O).get 11 O)⟩
   ·
    refine dV O ?_
    refine dF (wk0 O) O O B A O [N0,N0,N0,N0] (fun w=>by simp[Instr.alloc,go_sem]<;>rfl) ?_
    intro a w b9 B A
    have A:=r7 A
    refine aB (aF ⟨gp0 A,gp 5 A O,gp 6 A O,tv⟩ fun C=>?_)
    refine fQ [5,7] kr O ?_
    refine uE.2 ⟨?_,uE.2 ⟨?_,fun _ h=>absurd h (by simp)⟩⟩
    ·
     refine dV O ?_
     have A:=A.emp (aC.nil (α:=Int) 3)
     have A:=r8 A
     have A:=A.emp (aC.nil (α:=ByteArray) 9)
     have A:=r9 A
     have A:=A.emp (aC.nil (α:=Int) 3)
     have A:=r10 A
     have A:=A.emp (aC.nil (α:=Int) 3)
     have A:=r11 A
     refine Cl B O O P5 (eG (RFlat.mk ([]) ([]) ([]) ([])) N0 N0 N0 N0 D aJ bG 0 (((A.get 1 O).get 2 O).get 3 O) F Q) ⟨O,O,O,tv⟩ fun v a w I B=>?_
     obtain⟨vr5_kinds,vr5_texts,vr5_left,aM9,rfl,A⟩:=I
     have A:=r11 A
     refine aB (aF ⟨gp0 A,gp 9 A O,gp 10 A O,tv⟩ fun C=>?_)
     refine W1 7 kr O ?_
     refine dF (wk0 O) O O B A O [N0,N0,N0,N0] (fun w=>by simp[Instr.alloc,go_sem]<;>rfl) ?_
     intro a w b10 B A
     have A:=r12 A
     refine aB (aF ⟨gp0 A,gp 10 A O,gp 11 A O,tv⟩ fun C=>?_)
     refine W1 8 kr O ?_
     refine aV (wk0 O) O B A O O O 5 O iM.size_ O (aP ⟨(aC.one A 6 O),(aC.one A 7 O),(aC.one A 8 O),(aC.one A 9 O),tv⟩) [Y5,Y8,wE,oZ] O ?_
     intro w A
     have A:=r12 A
     refine aB (aF ⟨gp0 A,gp 10 A O,gp 11 A O,tv⟩ fun C=>?_)
     refine W1 9 kr O ?_
     refine aV (wk0 O) O B A O O O 0 O iM.size_ O (aP ⟨(aC.one A 1 O),(aC.one A 2 O),(aC.one A 3 O),(aC.one A 4 O),tv⟩) [vr5_kinds,vr5_texts,vr5_left,aM9] O ?_
     intro w A
     have A:=r12 A
     refine aB (aF ⟨gp0 A,gp 10 A O,gp 11 A O,tv⟩ fun C=>?_)
     exact bT kr ⟨_,_,_,_,_,_,_,_,_,_,B.cut ⟨O,O,tv⟩,((((((((((((A.get 11 O).get 11 O).get 11 O).get 11 O).get 11 O).get 11 O).get 10 O).get 10 O).get 10 O).get 10 O).get 11 O).get 11 O)⟩
    refine dV O ?_
    refine dF (wk0 O) O O B A O [N0,N0,N0,N0] (fun w=>by simp[Instr.alloc,go_sem]<;>rfl) ?_
    intro a w b11 B A
    have A:=r8 A
    refine aB (aF ⟨gp0 A,gp 6 A O,gp 7 A O,tv⟩ fun C=>?_)
    refine W1 5 kr O ?_
    have A:=A.emp (aC.nil (α:=Int) 3)
    have A:=r9 A
    have A:=A.emp (aC.nil (α:=ByteArray) 9)
    have A:=r10 A
    have A:=A.emp (aC.nil (α:=Int) 3)
    have A:=r11 A
    have A:=A.emp (aC.nil (α:=Int) 3)
    have A:=r12 A
    refine Cl B O O P5 (eG (RFlat.mk ([]) ([]) ([]) ([])) N0 N0 N0 N0 D aJ bG 0 (((A.get 1 O).get 2 O).get 3 O) F Q) ⟨O,O,O,tv⟩ fun v a w I B=>?_
    obtain⟨vr6_kinds,vr6_texts,vr6_left,aN0,rfl,A⟩:=I
    have A:=r12 A
    refine aB (aF ⟨gp0 A,gp 10 A O,gp 11 A O,tv⟩ fun C=>?_)
    refine W1 8 kr O ?_
    refine aV (wk0 O) O B A O O O 5 O iM.size_ O (aP ⟨(aC.one A 6 O),(aC.one A 7 O),(aC.one A 8 O),(aC.one A 9 O),tv⟩) [Y5,Y8,wE,oZ] O ?_
    intro w A
    have A:=r12 A
    refine aB (aF ⟨gp0 A,gp 10 A O,gp 11 A O,tv⟩ fun C=>?_)
    refine W1 9 kr O ?_
    refine aV (wk0 O) O B A O O O 4 O iM.size_ O (aP ⟨(aC.one A 0 O),(aC.one A 1 O),(aC.one A 2 O),(aC.one A 3 O),tv⟩) [vr6_kinds,vr6_texts,vr6_left,aN0] O ?_
    intro w A
    have A:=r12 A
    refine aB (aF ⟨gp0 A,gp 10 A O,gp 11 A O,tv⟩ fun C=>?_)
    exact bT kr ⟨_,_,_,_,_,_,_,_,_,_,B.cut ⟨O,O,tv⟩,((((((((((((A.get 11 O).get 11 O).get 11 O).get 11 O).get 11 O).get 11 O).get 9 O).get 9 O).get 9 O).get 9 O).get 11 O).get 11 O)⟩
   refine dV O ?_
   refine dF (wk0 O) O O B A O [N0,N0,N0,N0] (fun w=>by simp[Instr.alloc,go_sem]<;>rfl) ?_
   intro a w b12 B A
   have A:=r7 A
   refine aB (aF ⟨gp0 A,gp 5 A O,gp 6 A O,tv⟩ fun C=>?_)
   refine fQ [5,6] kr O ?_
   refine uE.2 ⟨?_,uE.2 ⟨?_,fun _ h=>absurd h (by simp)⟩⟩
   ·
    refine dV O ?_
    have A:=A.emp (aC.nil (α:=Int) 3)
    have A:=r8 A
    have A:=A.emp (aC.nil (α:=ByteArray) 9)
    have A:=r9 A
    have A:=A.emp (aC.nil (α:=Int) 3)
    have A:=r10 A
    have A:=A.emp (aC.nil (α:=Int) 3)
    have A:=r11 A
    refine Cl B O O P5 (eG (RFlat.mk ([]) ([]) ([]) ([])) N0 N0 N0 N0 D aJ bG 0 (((A.get 1 O).get 2 O).get 3 O) F Q) ⟨O,O,O,tv⟩ fun v a w I B=>?_
    obtain⟨vr7_kinds,vr7_texts,vr7_left,aN1,rfl,A⟩:=I
    have A:=r11 A
    refine aB (aF ⟨gp0 A,gp 9 A O,gp 10 A O,tv⟩ fun C=>?_)
    refine W1 6 kr O ?_
    refine dF (wk0 O) O O B A O [N0,N0,N0,N0] (fun w=>by simp[Instr.alloc,go_sem]<;>rfl) ?_
    intro a w b13 B A
    have A:=r12 A
    refine aB (aF ⟨gp0 A,gp 10 A O,gp 11 A O,tv⟩ fun C=>?_)
    refine W1 8 kr O ?_
    refine aV (wk0 O) O B A O O O 0 O iM.size_ O (aP ⟨(aC.one A 6 O),(aC.one A 7 O),(aC.one A 8 O),(aC.one A 9 O),tv⟩) [Y5,Y8,wE,oZ] O ?_
    intro w A
    have A:=r12 A
    refine aB (aF ⟨gp0 A,gp 10 A O,gp 11 A O,tv⟩ fun C=>?_)
    refine W1 9 kr O ?_
    refine aV (wk0 O) O B A O O O 5 O iM.size_ O (aP ⟨(aC.one A 1 O),(aC.one A 2 O),(aC.one A 3 O),(aC.one A 4 O),tv⟩) [vr7_kinds,vr7_texts,vr7_left,aN1] O ?_
    intro w A
    have A:=r12 A
    refine aB (aF ⟨gp0 A,gp 10 A O,gp 11 A O,tv⟩ fun C=>?_)
    exact bT kr ⟨_,_,_,_,_,_,_,_,_,_,B.cut ⟨O,O,tv⟩,((((((((((((A.get 11 O).get 11 O).get 11 O).get 11 O).get 11 O).get 11 O).get 10 O).get 10 O).get 10 O).get 10 O).get 10 O).get 11 O)⟩
   refine dV O ?_
   refine dF (wk0 O) O O B A O [N0,N0,N0,N0] (fun w=>by simp[Instr.alloc,go_sem]<;>rfl) ?_
   intro a w b14 B A
   have A:=r8 A
   refine aB (aF ⟨gp0 A,gp 6 A O,gp 7 A O,tv⟩ fun C=>?_)
   refine W1 5 kr O ?_
   have A:=A.emp (aC.nil (α:=Int) 3)
   have A:=r9 A
   have A:=A.emp (aC.nil (α:=ByteArray) 9)
   have A:=r10 A
   have A:=A.emp (aC.nil (α:=Int) 3)
   have A:=r11 A
   have A:=A.emp (aC.nil (α:=Int) 3)
   have A:=r12 A
   refine Cl B O O P5 (eG (RFlat.mk ([]) ([]) ([]) ([])) N0 N0 N0 N0 D aJ bG 0 (((A.get 1 O).get 2 O).get 3 O) F Q) ⟨O,O,O,tv⟩ fun v a w I B=>?_
   obtain⟨vr8_kinds,vr8_texts,vr8_left,aN2,rfl,A⟩:=I
   have A:=r12 A
   refine aB (aF ⟨gp0 A,gp 10 A O,gp 11 A O,tv⟩ fun C=>?_)
   refine W1 8 kr O ?_
   refine aV (wk0 O) O B A O O O 4 O iM.size_ O (aP ⟨(aC.one A 6 O),(aC.one A 7 O),(aC.one A 8 O),(aC.one A 9 O),tv⟩) [Y5,Y8,wE,oZ] O ?_
   intro w A
   have A:=r12 A
   refine aB (aF ⟨gp0 A,gp 10 A O,gp 11 A O,tv⟩ fun C=>?_)
   refine W1 9 kr O ?_
   refine aV (wk0 O) O B A O O O 5 O iM.size_ O (aP ⟨(aC.one A 0 O),(aC.one A 1 O),(aC.one A 2 O),(aC.one A 3 O),tv⟩) [vr8_kinds,vr8_texts,vr8_left,aN2] O ?_
   intro w A
   have A:=r12 A
   refine aB (aF ⟨gp0 A,gp 10 A O,gp 11 A O,tv⟩ fun C=>?_)
   exact bT kr ⟨_,_,_,_,_,_,_,_,_,_,B.cut ⟨O,O,tv⟩,((((((((((((A.get 11 O).get 11 O).get 11 O).get 11 O).get 11 O).get 11 O).get 9 O).get 9 O).get 9 O).get 9 O).get 10 O).get 11 O)⟩
  ·
   refine dV O ?_
   refine dF (wk0 O) O O B A O [N0,N0,N0,N0] (fun w=>by simp[Instr.alloc,go_sem]<;>rfl) ?_
   intro a w b15 B A
   have A:=r3 A
   refine aB (aF ⟨gp0 A,gp 1 A O,gp 2 A O,tv⟩ fun C=>?_)
   refine fQ [2,7] kr O ?_
   refine uE.2 ⟨?_,uE.2 ⟨?_,fun _ h=>absurd h (by simp)⟩⟩
   ·
    refine dV O ?_
    have A:=A.emp (aC.nil (α:=Int) 3)
    have A:=r4 A
    have A:=A.emp (aC.nil (α:=ByteArray) 9)
    have A:=r5 A
    have A:=A.emp (aC.nil (α:=Int) 3)
    have A:=r6 A
    have A:=A.emp (aC.nil (α:=Int) 3)
    have A:=r7 A
    refine Cl B O O P5 (eG (RFlat.mk ([]) ([]) ([]) ([])) N0 N0 N0 N0 E aI aY 0 (((A.get 1 O).get 2 O).get 3 O) G W) ⟨O,O,O,tv⟩ fun v a w I B=>?_
    obtain⟨vr9_kinds,vr9_texts,aN3,U6,rfl,A⟩:=I
    have A:=r7 A
    refine aB (aF ⟨gp0 A,gp 5 A O,gp 6 A O,tv⟩ fun C=>?_)
    refine fQ [5,7] kr O ?_
    refine uE.2 ⟨?_,uE.2 ⟨?_,fun _ h=>absurd h (by simp)⟩⟩
    ·
     refine dV O ?_
     have A:=A.emp (aC.nil (α:=Int) 3)
     have A:=r8 A
     have A:=A.emp (aC.nil (α:=ByteArray) 9)
     have A:=r9 A
     have A:=A.emp (aC.nil (α:=Int) 3)
     have A:=r10 A
     have A:=A.emp (aC.nil (α:=Int) 3)
     have A:=r11 A
     refine Cl B O O P5 (eG (RFlat.mk ([]) ([]) ([]) ([])) N0 N0 N0 N0 D aJ bG 0 (((A.get 1 O).get 2 O).get 3 O) F Q) ⟨O,O,O,tv⟩ fun v a w I B=>?_
     obtain⟨vr10_kinds,vr10_texts,vr10_left,aI9,rfl,A⟩:=I
     have A:=r11 A
     refine aB (aF ⟨gp0 A,gp 9 A O,gp 10 A O,tv⟩ fun C=>?_)
     refine W1 7 kr O ?_
     refine dF (wk0 O) O O B A O [N0,N0,N0,N0] (fun w=>by simp[Instr.alloc,go_sem]<;>rfl) ?_
     intro a w b16 B A
     have A:=r12 A
     refine aB (aF ⟨gp0 A,gp 10 A O,gp 11 A O,tv⟩ fun C=>?_)
     refine W1 8 kr O ?_
     refine aV (wk0 O) O B A O O O 9 O iM.size_ O (aP ⟨(aC.one A 5 O),(aC.one A 6 O),(aC.one A 7 O),(aC.one A 8 O),tv⟩) [vr9_kinds,vr9_texts,aN3,U6] O ?_
     intro w A
     have A:=r12 A
     refine aB (aF ⟨gp0 A,gp 10 A O,gp 11 A O,tv⟩ fun C=>?_)
     refine W1 9 kr O ?_
     refine aV (wk0 O) O B A O O O 0 O iM.size_ O (aP ⟨(aC.one A 1 O),(aC.one A 2 O),(aC.one A 3 O),(aC.one A 4 O),tv⟩) [vr10_kinds,vr10_texts,vr10_left,aI9] O ?_
     intro w A
     have A:=r12 A
     refine aB (aF ⟨gp0 A,gp 10 A O,gp 11 A O,tv⟩ fun C=>?_)
     exact bT kr ⟨_,_,_,_,_,_,_,_,_,_,B.cut ⟨O,O,tv⟩,((((((((((((A.get 11 O).get 11 O).get 10 O).get 10 O).get 10 O).get 10 O).get 10 O).get 10 O).get 10 O).get 10 O).get 11 O).get 11 O)⟩
    refine dV O ?_
    refine dF (wk0 O) O O B A O [N0,N0,N0,N0] (fun w=>by simp[Instr.alloc,go_sem]<;>rfl) ?_
    intro a w b17 B A
    have A:=r8 A
    refine aB (aF ⟨gp0 A,gp 6 A O,gp 7 A O,tv⟩ fun C=>?_)
    refine W1 5 kr O ?_
    have A:=A.emp (aC.nil (α:=Int) 3)
    have A:=r9 A
    have A:=A.emp (aC.nil (α:=ByteArray) 9)
    have A:=r10 A
    have A:=A.emp (aC.nil (α:=Int) 3)
    have A:=r11 A
    have A:=A.emp (aC.nil (α:=Int) 3)
    have A:=r12 A
    refine Cl B O O P5 (eG (RFlat.mk ([]) ([]) ([]) ([])) N0 N0 N0 N0 D aJ bG 0 (((A.get 1 O).get 2 O).get 3 O) F Q) ⟨O,O,O,tv⟩ fun v a w I B=>?_
    obtain⟨vr11_kinds,vr11_texts,vr11_left,aJ0,rfl,A⟩:=I
    have A:=r12 A
    refine aB (aF ⟨gp0 A,gp 10 A O,gp 11 A O,tv⟩ fun C=>?_)
    refine W1 8 kr O ?_
    refine aV (wk0 O) O B A O O O 9 O iM.size_ O (aP ⟨(aC.one A 5 O),(aC.one A 6 O),(aC.one A 7 O),(aC.one A 8 O),tv⟩) [vr9_kinds,vr9_texts,aN3,U6] O ?_
    intro w A
    have A:=r12 A
    refine aB (aF ⟨gp0 A,gp 10 A O,gp 11 A O,tv⟩ fun C=>?_)
    refine W1 9 kr O ?_
    refine aV (wk0 O) O B A O O O 4 O iM.size_ O (aP ⟨(aC.one A 0 O),(aC.one A 1 O),(aC.one A 2 O),(aC.one A 3 O),tv⟩) [vr11_kinds,vr11_texts,vr11_left,aJ0] O ?_
    intro w A
    have A:=r12 A
    refine aB (aF ⟨gp0 A,gp 10 A O,gp 11 A O,tv⟩ fun C=>?_)
    exact bT kr ⟨_,_,_,_,_,_,_,_,_,_,B.cut ⟨O,O,tv⟩,((((((((((((A.get 11 O).get 11 O).get 10 O).get 10 O).get 10 O).get 10 O).get 9 O).get 9 O).get 9 O).get 9 O).get 11 O).get 11 O)⟩
   refine dV O ?_
   refine dF (wk0 O) O O B A O [N0,N0,N0,N0] (fun w=>by simp[Instr.alloc,go_sem]<;>rfl) ?_
   intro a w b18 B A
   have A:=r4 A
   refine aB (aF ⟨gp0 A,gp 2 A O,gp 3 A O,tv⟩ fun C=>?_)
   refine W1 2 kr O ?_
   have A:=A.emp (aC.nil (α:=Int) 3)
   have A:=r5 A
   have A:=A.emp (aC.nil (α:=ByteArray) 9)
   have A:=r6 A
   have A:=A.emp (aC.nil (α:=Int) 3)
   have A:=r7 A
   have A:=A.emp (aC.nil (α:=Int) 3)
   have A:=r8 A
   refine Cl B O O P5 (eG (RFlat.mk ([]) ([]) ([]) ([])) N0 N0 N0 N0 E aI aY 0 (((A.get 1 O).get 2 O).get 3 O) G W) ⟨O,O,O,tv⟩ fun v a w I B=>?_
   obtain⟨vr12_kinds,vr12_texts,vr12_left,aJ1,rfl,A⟩:=I
   have A:=r8 A
   refine aB (aF ⟨gp0 A,gp 6 A O,gp 7 A O,tv⟩ fun C=>?_)
   refine W1 5 kr O ?_
   have A:=A.emp (aC.nil (α:=Int) 3)
   have A:=r9 A
   have A:=A.emp (aC.nil (α:=ByteArray) 9)
   have A:=r10 A
   have A:=A.emp (aC.nil (α:=Int) 3)
   have A:=r11 A
   have A:=A.emp (aC.nil (α:=Int) 3)
   have A:=r12 A
   refine Cl B O O P5 (eG (RFlat.mk ([]) ([]) ([]) ([])) N0 N0 N0 N0 D aJ bG 0 (((A.get 1 O).get 2 O).get 3 O) F Q) ⟨O,O,O,tv⟩ fun v a w I B=>?_
   obtain⟨vr13_kinds,vr13_texts,vr13_left,aJ2,rfl,A⟩:=I
   have A:=r12 A
   refine aB (aF ⟨gp0 A,gp 10 A O,gp 11 A O,tv⟩ fun C=>?_)
   refine W1 8 kr O ?_
   refine aV (wk0 O) O B A O O O 9 O iM.size_ O (aP ⟨(aC.one A 4 O),(aC.one A 5 O),(aC.one A 6 O),(aC.one A 7 O),tv⟩) [vr12_kinds,vr12_texts,vr12_left,aJ1] O ?_
   intro w A
   have A:=r12 A
   refine aB (aF ⟨gp0 A,gp 10 A O,gp 11 A O,tv⟩ fun C=>?_)
   refine W1 9 kr O ?_
   refine aV (wk0 O) O B A O O O 8 O iM.size_ O (aP ⟨(aC.one A 0 O),(aC.one A 1 O),(aC.one A 2 O),(aC.one A 3 O),tv⟩) [vr13_kinds,vr13_texts,vr13_left,aJ2] O ?_
   intro w A
   have A:=r12 A
   refine aB (aF ⟨gp0 A,gp 10 A O,gp 11 A O,tv⟩ fun C=>?_)
   exact bT kr ⟨_,_,_,_,_,_,_,_,_,_,B.cut ⟨O,O,tv⟩,((((((((((((A.get 11 O).get 11 O).get 9 O).get 9 O).get 9 O).get 9 O).get 9 O).get 9 O).get 9 O).get 9 O).get 11 O).get 11 O)⟩
  refine dV O ?_
  refine dF (wk0 O) O O B A O [N0,N0,N0,N0] (fun w=>by simp[Instr.alloc,go_sem]<;>rfl) ?_
  intro a w b19 B A
  have A:=r3 A
  refine aB (aF ⟨gp0 A,gp 1 A O,gp 2 A O,tv⟩ fun C=>?_)
  refine fQ [2,6] kr O ?_
  refine uE.2 ⟨?_,uE.2 ⟨?_,fun _ h=>absurd h (by simp)⟩⟩
  ·
   refine dV O ?_
   have A:=A.emp (aC.nil (α:=Int) 3)
   have A:=r4 A
   have A:=A.emp (aC.nil (α:=ByteArray) 9)
   have A:=r5 A
   have A:=A.emp (aC.nil (α:=Int) 3)
   have A:=r6 A
   have A:=A.emp (aC.nil (α:=Int) 3)
   have A:=r7 A
   refine Cl B O O P5 (eG (RFlat.mk ([]) ([]) ([]) ([])) N0 N0 N0 N0 E aI aY 0 (((A.get 1 O).get 2 O).get 3 O) G W) ⟨O,O,O,tv⟩ fun v a w I B=>?_
   obtain⟨vr14_kinds,vr14_texts,aG8,H8,rfl,A⟩:=I
   have A:=r7 A
   refine aB (aF ⟨gp0 A,gp 5 A O,gp 6 A O,tv⟩ fun C=>?_)
   refine fQ [5,6] kr O ?_
   refine uE.2 ⟨?_,uE.2 ⟨?_,fun _ h=>absurd h (by simp)⟩⟩
   ·
    refine dV O ?_
    have A:=A.emp (aC.nil (α:=Int) 3)
    have A:=r8 A
    have A:=A.emp (aC.nil (α:=ByteArray) 9)
    have A:=r9 A
    have A:=A.emp (aC.nil (α:=Int) 3)
    have A:=r10 A
    have A:=A.emp (aC.nil (α:=Int) 3)
    have A:=r11 A
    refine Cl B O O P5 (eG (RFlat.mk ([]) ([]) ([]) ([])) N0 N0 N0 N0 D aJ bG 0 (((A.get 1 O).get 2 O).get 3 O) F Q) ⟨O,O,O,tv⟩ fun v a w I B=>?_
    obtain⟨vr15_kinds,vr15_texts,vr15_left,aJ3,rfl,A⟩:=I
    have A:=r11 A
    refine aB (aF ⟨gp0 A,gp 9 A O,gp 10 A O,tv⟩ fun C=>?_)
    refine W1 6 kr O ?_
    refine dF (wk0 O) O O B A O [N0,N0,N0,N0] (fun w=>by simp[Instr.alloc,go_sem]<;>rfl) ?_
    intro a w b20 B A
    have A:=r12 A
    refine aB (aF ⟨gp0 A,gp 10 A O,gp 11 A O,tv⟩ fun C=>?_)
    refine W1 8 kr O ?_
    refine aV (wk0 O) O B A O O O 0 O iM.size_ O (aP ⟨(aC.one A 5 O),(aC.one A 6 O),(aC.one A 7 O),(aC.one A 8 O),tv⟩) [vr14_kinds,vr14_texts,aG8,H8] O ?_
    intro w A
    have A:=r12 A
    refine aB (aF ⟨gp0 A,gp 10 A O,gp 11 A O,tv⟩ fun C=>?_)
    refine W1 9 kr O ?_
    refine aV (wk0 O) O B A O O O 9 O iM.size_ O (aP ⟨(aC.one A 1 O),(aC.one A 2 O),(aC.one A 3 O),(aC.one A 4 O),tv⟩) [vr15_kinds,vr15_texts,vr15_left,aJ3] O ?_
    intro w A
    have A:=r12 A
    refine aB (aF ⟨gp0 A,gp 10 A O,gp 11 A O,tv⟩ fun C=>?_)
    exact bT kr ⟨_,_,_,_,_,_,_,_,_,_,B.cut ⟨O,O,tv⟩,((((((((((((A.get 11 O).get 11 O).get 10 O).get 10 O).get 10 O).get 10 O).get 10 O).get 10 O).get 10 O).get 10 O).get 10 O).get 11 O)⟩
   refine dV O ?_
   refine dF (wk0 O) O O B A O [N0,N0,N0,N0] (fun w=>by simp[Instr.alloc,go_sem]<;>rfl) ?_
   intro a w b21 B A
   have A:=r8 A
   refine aB (aF ⟨gp0 A,gp 6 A O,gp 7 A O,tv⟩ fun C=>?_)
   refine W1 5 kr O ?_
   have A:=A.emp (aC.nil (α:=Int) 3)
   have A:=r9 A
   have A:=A.emp (aC.nil (α:=ByteArray) 9)
   have A:=r10 A
   have A:=A.emp (aC.nil (α:=Int) 3)
   have A:=r11 A
   have A:=A.emp (aC.nil (α:=Int) 3)
   have A:=r12 A
   refine Cl B O O P5 (eG (RFlat.mk ([]) ([]) ([]) ([])) N0 N0 N0 N0 D aJ bG 0 (((A.get 1 O).get 2 O).get 3 O) F Q) ⟨O,O,O,tv⟩ fun v a w I B=>?_
   obtain⟨vr16_kinds,vr16_texts,vr16_left,aJ4,rfl,A⟩:=I
   have A:=r12 A
   refine aB (aF ⟨gp0 A,gp 10 A O,gp 11 A O,tv⟩ fun C=>?_)
   refine W1 8 kr O ?_
   refine aV (wk0 O) O B A O O O 4 O iM.size_ O (aP ⟨(aC.one A 5 O),(aC.one A 6 O),(aC.one A 7 O),(aC.one A 8 O),tv⟩) [vr14_kinds,vr14_texts,aG8,H8] O ?_
   intro w A
   have A:=r12 A
   refine aB (aF ⟨gp0 A,gp 10 A O,gp 11 A O,tv⟩ fun C=>?_)
   refine W1 9 kr O ?_
   refine aV (wk0 O) O B A O O O 9 O iM.size_ O (aP ⟨(aC.one A 0 O),(aC.one A 1 O),(aC.one A 2 O),(aC.one A 3 O),tv⟩) [vr16_kinds,vr16_texts,vr16_left,aJ4] O ?_
   intro w A
   have A:=r12 A
   refine aB (aF ⟨gp0 A,gp 10 A O,gp 11 A O,tv⟩ fun C=>?_)
   exact bT kr ⟨_,_,_,_,_,_,_,_,_,_,B.cut ⟨O,O,tv⟩,((((((((((((A.get 11 O).get 11 O).get 10 O).get 10 O).get 10 O).get 10 O).get 9 O).get 9 O).get 9 O).get 9 O).get 10 O).get 11 O)⟩
  refine dV O ?_
  refine dF (wk0 O) O O B A O [N0,N0,N0,N0] (fun w=>by simp[Instr.alloc,go_sem]<;>rfl) ?_
  intro a w b22 B A
  have A:=r4 A
  refine aB (aF ⟨gp0 A,gp 2 A O,gp 3 A O,tv⟩ fun C=>?_)
  refine W1 2 kr O ?_
  have A:=A.emp (aC.nil (α:=Int) 3)
  have A:=r5 A
  have A:=A.emp (aC.nil (α:=ByteArray) 9)
  have A:=r6 A
  have A:=A.emp (aC.nil (α:=Int) 3)
  have A:=r7 A
  have A:=A.emp (aC.nil (α:=Int) 3)
  have A:=r8 A
  refine Cl B O O P5 (eG (RFlat.mk ([]) ([]) ([]) ([])) N0 N0 N0 N0 E aI aY 0 (((A.get 1 O).get 2 O).get 3 O) G W) ⟨O,O,O,tv⟩ fun v a w I B=>?_
  obtain⟨vr17_kinds,vr17_texts,vr17_left,aJ5,rfl,A⟩:=I
  have A:=r8 A
  refine aB (aF ⟨gp0 A,gp 6 A O,gp 7 A O,tv⟩ fun C=>?_)
  refine W1 5 kr O ?_
  have A:=A.emp (aC.nil (α:=Int) 3)
  have A:=r9 A
  have A:=A.emp (aC.nil (α:=ByteArray) 9)
  have A:=r10 A
  have A:=A.emp (aC.nil (α:=Int) 3)
  have A:=r11 A
  have A:=A.emp (aC.nil (α:=Int) 3)
  have A:=r12 A
  refine Cl B O O P5 (eG (RFlat.mk ([]) ([]) ([]) ([])) N0 N0 N0 N0 D aJ bG 0 (((A.get 1 O).get 2 O).get 3 O) F Q) ⟨O,O,O,tv⟩ fun v a w I B=>?_
  obtain⟨vr18_kinds,vr18_texts,vr18_left,aJ6,rfl,A⟩:=I
  have A:=r12 A
  refine aB (aF ⟨gp0 A,gp 10 A O,gp 11 A O,tv⟩ fun C=>?_)
  refine W1 8 kr O ?_
  refine aV (wk0 O) O B A O O O 8 O iM.size_ O (aP ⟨(aC.one A 4 O),(aC.one A 5 O),(aC.one A 6 O),(aC.one A 7 O),tv⟩) [vr17_kinds,vr17_texts,vr17_left,aJ5] O ?_
  intro w A
  have A:=r12 A
  refine aB (aF ⟨gp0 A,gp 10 A O,gp 11 A O,tv⟩ fun C=>?_)
  refine W1 9 kr O ?_
  refine aV (wk0 O) O B A O O O 9 O iM.size_ O (aP ⟨(aC.one A 0 O),(aC.one A 1 O),(aC.one A 2 O),(aC.one A 3 O),tv⟩) [vr18_kinds,vr18_texts,vr18_left,aJ6] O ?_
  intro w A
  have A:=r12 A
  refine aB (aF ⟨gp0 A,gp 10 A O,gp 11 A O,tv⟩ fun C=>?_)
  exact bT kr ⟨_,_,_,_,_,_,_,_,_,_,B.cut ⟨O,O,tv⟩,((((((((((((A.get 11 O).get 11 O).get 9 O).get 9 O).get 9 O).get 9 O).get 9 O).get 9 O).get 9 O).get 9 O).get 10 O).get 11 O)⟩
 rintro a w ⟨y13,y12,y8,y9,y10,y11,y4,y5,y6,y7,B,A⟩
 refine aG (aA ?_)
 refine V B A O (xf B qU O O) fun a B=>V B A O (xl B aT 1 O O O O) fun a B=>V B A O (bW O B O (aC.len A 6 O bD)) fun a B=>V B A O (xf B qU O O) fun a B=>V B A O (xl B aT 0 O O O O) fun a B=>V B A O (bW O B O (aC.len A 2 O bD)) fun a B=>?_
 obtain⟨x3,ex3,U⟩:=bnd U
 refine s_call (wk0 O) O O B O [(Iv (G.kinds.length:Int)),(Iv (F.kinds.length:Int))] ⟨O,O,tv⟩ ent74 (xJ (G.kinds.length:Int) (F.kinds.length:Int) A x3 ex3) Ret.ret ?_
 intro vr19 a w I B
 obtain⟨u,usr19,rfl,A⟩:=Ret.of I
 have A:=r13 A
 refine S B 1 O fun a B=>aB (aG ?_)
 refine aG (aA ?_)
 refine S B 1 O fun a B=>aB ?_
 obtain⟨b23,q,U⟩:=bnd U
 refine dM (fun a w=>Env 89 [(5,(Pv y12 0)),(6,(Pv y13 0)),(7,vr19)] a∧Hp Z ρ (bM 73 3 vr19 usr19 (b23:(List (List Int)))::Pt y13 (.cells #[y8,y9,y10,y11] 123 (0,0))::Pt y12 (.cells #[y4,y5,y6,y7] 123 (0,0))::aC 3 y8 F.kinds::aC 9 y9 F.texts::aC 3 y10 F.left::aC 3 y11 F.numbers::aC 3 y4 G.kinds::aC 9 y5 G.texts::aC 3 y6 G.left::aC 3 y7 G.numbers::Pt b2 (.cells #[(Iv D.kind),(.string D.text),(Iv D.at_),(Iv D.fin),aJ] 24 (0,0))::Pt b1 (.cells #[(Iv E.kind),(.string E.text),(Iv E.at_),(Iv E.fin),aI] 24 (0,0))::L) w) ?_ ?_
 ·refine eQ q (fun s a w=>Env 89 [(5,(Pv y12 0)),(6,(Pv y13 0)),(7,vr19),(8,(Iv s.1))] a∧Hp Z ρ (bM 73 3 vr19 usr19 (s.2:(List (List Int)))::Pt y13 (.cells #[y8,y9,y10,y11] 123 (0,0))::Pt y12 (.cells #[y4,y5,y6,y7] 123 (0,0))::aC 3 y8 F.kinds::aC 9 y9 F.texts::aC 3 y10 F.left::aC 3 y11 F.numbers::aC 3 y4 G.kinds::aC 9 y5 G.texts::aC 3 y6 G.left::aC 3 y7 G.numbers::Pt b2 (.cells #[(Iv D.kind),(.string D.text),(Iv D.at_),(Iv D.fin),aJ] 24 (0,0))::Pt b1 (.cells #[(Iv E.kind),(.string E.text),(Iv E.at_),(Iv E.fin),aI] 24 (0,0))::L) w) ?_ ?_
  ·exact⟨B.cut ⟨O,O,O,O,tv⟩,A⟩
  rintro⟨aQ,aU⟩ st a w ⟨B,A⟩ M
  dsimp only at B A M
  unfold jY at M
  refine aG (aG ?_)
  refine aA (S B 1 O fun a B=>?_)
  refine V B A O (xf B qU O O) fun a B=>V B A O (xl B aT 2 O O O O) fun a B=>V B A O (bW O B O (aC.len A 7 O bD)) fun a B=>S B 1 O fun a B=>aB ?_
  refine dK B O (fun e=>?_) (fun e=>?_)
  ·replace M:=(it e).symm.trans M
   refine bI (aG ?_)
   refine dN (aG ?_)
   refine aA (S B 1 O fun a B=>?_)
   refine aB ?_
   obtain⟨b24,p,M⟩:=bnd M
   refine dM (fun a w=>Env 89 [(5,(Pv y12 0)),(6,(Pv y13 0)),(7,vr19),(8,(Iv aQ))] a∧Hp Z ρ (bM 73 3 vr19 usr19 (b24:(List (List Int)))::Pt y13 (.cells #[y8,y9,y10,y11] 123 (0,0))::Pt y12 (.cells #[y4,y5,y6,y7] 123 (0,0))::aC 3 y8 F.kinds::aC 9 y9 F.texts::aC 3 y10 F.left::aC 3 y11 F.numbers::aC 3 y4 G.kinds::aC 9 y5 G.texts::aC 3 y6 G.left::aC 3 y7 G.numbers::Pt b2 (.cells #[(Iv D.kind),(.string D.text),(Iv D.at_),(Iv D.fin),aJ] 24 (0,0))::Pt b1 (.cells #[(Iv E.kind),(.string E.text),(Iv E.at_),(Iv E.fin),aI] 24 (0,0))::L) w) ?_ ?_
   ·refine eQ p (fun s a w=>Env 89 [(5,(Pv y12 0)),(6,(Pv y13 0)),(7,vr19),(8,(Iv aQ)),(9,(Iv s.1))] a∧Hp Z ρ (bM 73 3 vr19 usr19 (s.2:(List (List Int)))::Pt y13 (.cells #[y8,y9,y10,y11] 123 (0,0))::Pt y12 (.cells #[y4,y5,y6,y7] 123 (0,0))::aC 3 y8 F.kinds::aC 9 y9 F.texts::aC 3 y10 F.left::aC 3 y11 F.numbers::aC 3 y4 G.kinds::aC 9 y5 G.texts::aC 3 y6 G.left::aC 3 y7 G.numbers::Pt b2 (.cells #[(Iv D.kind),(.string D.text),(Iv D.at_),(Iv D.fin),aJ] 24 (0,0))::Pt b1 (.cells #[(Iv E.kind),(.string E.text),(Iv E.at_),(Iv E.fin),aI] 24 (0,0))::L) w) ?_ ?_
    ·exact⟨B.cut ⟨O,O,O,O,O,tv⟩,A⟩
    rintro⟨bP,eP⟩ st a w ⟨B,A⟩ K
    dsimp only at B A K
    unfold jZ at K
    refine aG (aG ?_)
    refine aA (S B 1 O fun a B=>?_)
    refine V B A O (xf B qU O O) fun a B=>V B A O (xl B aT 1 O O O O) fun a B=>V B A O (bW O B O (aC.len A 3 O bD)) fun a B=>S B 1 O fun a B=>aB ?_
    have B:=B.cut (E':=[(5,(Pv y12 0)),(6,(Pv y13 0)),(7,vr19),(8,(Iv aQ)),(9,(Iv bP)),(37,(.bool (decide (bP<(F.kinds.length:Int)))))]) ⟨O,O,O,O,O,O,tv⟩
    refine dK B O (fun d=>?_) (fun d=>?_)
    ·replace K:=(it d).symm.trans K
     refine bI (aG ?_)
     refine dN (aA ?_)
     refine V B A O (aK O B O (fun w R=>aX (cs:=[y4,y5,y6,y7]) iM (Hp.cN 2 O 0 _ (aS O) w R))) fun a B=>V B A O (aK O B O (fun w R=>aX (cs:=[y8,y9,y10,y11]) iM (Hp.cN 1 O 0 _ (aS O) w R))) fun a B=>S B 3 O fun a B=>?_
     obtain⟨k1,k1a,k1d,k1h⟩:=(A.get 7 O).lend
     obtain⟨k2,k2a,k2d,k2h⟩:=(k1h.get 7 O).lend
     obtain⟨k3,k3a,k3d,k3h⟩:=(k2h.get 7 O).lend
     obtain⟨k4,k4a,k4d,k4h⟩:=(k3h.get 7 O).lend
     obtain⟨k5,k5a,k5d,k5h⟩:=(k4h.get 3 O).lend
     obtain⟨k6,k6a,k6d,k6h⟩:=(k5h.get 3 O).lend
     obtain⟨k7,k7a,k7d,k7h⟩:=(k6h.get 3 O).lend
     obtain⟨k8,k8a,k8d,k8h⟩:=(k7h.get 3 O).lend
     obtain⟨x4,ex4,K⟩:=bnd K
     refine Cl B O O ent75 (aF2 G y4 (aH.mono (aH.mono (aH.mono (aH.mono (aH.mono (aH.mono (aH.mono (aC.ro k1d k1a) (PH.le_un _ _)) (PH.le_un _ _)) (PH.le_un _ _)) (PH.le_un _ _)) (PH.le_un _ _)) (PH.le_un _ _)) (PH.le_un _ _)) y5 (aH.mono (aH.mono (aH.mono (aH.mono (aH.mono (aH.mono (aC.ro k2d k2a) (PH.le_un _ _)) (PH.le_un _ _)) (PH.le_un _ _)) (PH.le_un _ _)) (PH.le_un _ _)) (PH.le_un _ _)) y6 (aH.mono (aH.mono (aH.mono (aH.mono (aH.mono (aC.ro k3d k3a) (PH.le_un _ _)) (PH.le_un _ _)) (PH.le_un _ _)) (PH.le_un _ _)) (PH.le_un _ _)) y7 (aH.mono (aH.mono (aH.mono (aH.mono (aC.ro k4d k4a) (PH.le_un _ _)) (PH.le_un _ _)) (PH.le_un _ _)) (PH.le_un _ _)) F y8 (aH.mono (aH.mono (aH.mono (aC.ro k5d k5a) (PH.le_un _ _)) (PH.le_un _ _)) (PH.le_un _ _)) y9 (aH.mono (aH.mono (aC.ro k6d k6a) (PH.le_un _ _)) (PH.le_un _ _)) y10 (aH.mono (aC.ro k7d k7a) (PH.le_un _ _)) y11 (aC.ro k8d k8a) aQ bP eP vr19 usr19 k8h x4 ex4) ⟨O,O,O,O,O,tv⟩ fun v a w I B=>?_
     obtain⟨rfl,A⟩:=I
     have A:=Hp.back k8a k8d A
     have A:=Hp.back k7a k7d A
     have A:=Hp.back k6a k6d A
     have A:=Hp.back k5a k5d A
     have A:=Hp.back k4a k4d A
     have A:=Hp.back k3a k3d A
     have A:=Hp.back k2a k2d A
     have A:=Hp.back k1a k1d A
     have A:=r13 A
     refine aB (aA ?_)
     refine S B 1 O fun a B=>?_
     obtain⟨x5,z,K⟩:=bnd K
     refine V B A O (bF O B O O (aN z)) fun a B=>S B 1 O fun a B=>aB ?_
     exact⟨_,(oj K).symm,B.cut ⟨O,O,O,O,O,tv⟩,(((((((((((((A.get 12 O).get 12 O).get 5 O).get 5 O).get 5 O).get 5 O).get 9 O).get 9 O).get 9 O).get 9 O).get 12 O).get 12 O).get 12 O)⟩
    replace K:=(ie d).symm.trans K
    refine dZ ?_
    refine⟨_,(oj K).symm,fun hbb=>?_⟩
    subst hbb
    exact⟨B.cut ⟨O,O,O,O,tv⟩,A⟩
   rintro a w ⟨B,A⟩
   refine aA (S B 1 O fun a B=>?_)
   obtain⟨x6,y,M⟩:=bnd M
   refine V B A O (bF O B O O (aN y)) fun a B=>S B 1 O fun a B=>aB ?_
   exact⟨_,(oj M).symm,B.cut ⟨O,O,O,O,tv⟩,A⟩
  replace M:=(ie e).symm.trans M
  refine dZ ?_
  refine⟨_,(oj M).symm,fun hbb=>?_⟩
  subst hbb
  exact⟨B.cut ⟨O,O,O,tv⟩,A⟩
 rintro a w ⟨B,A⟩
 refine aG (aA ?_)
 refine V B A O (xf B qU O O) fun a B=>V B A O (xl B aT 2 O O O O) fun a B=>V B A O (bW O B O (aC.len A 7 O bD)) fun a B=>V B A O (xf B qU O O) fun a B=>V B A O (xl B aT 1 O O O O) fun a B=>V B A O (bW O B O (aC.len A 3 O bD)) fun a B=>?_
 obtain⟨x7,x,U⟩:=bnd U
 refine s_call (wk0 O) O O B O [(Iv (G.kinds.length:Int)),(Iv (F.kinds.length:Int))] ⟨O,O,tv⟩ ent74 (xJ (G.kinds.length:Int) (F.kinds.length:Int) A x7 x) Ret.ret ?_
 intro vr20 a w I B
 obtain⟨u,usr20,rfl,A⟩:=Ret.of I
 have A:=r14 A
 refine S B 1 O fun a B=>aB ?_
 have B:=B.cut (E':=[(5,(Pv y12 0)),(6,(Pv y13 0)),(7,vr19),(10,vr20)]) ⟨O,O,O,O,tv⟩
 refine aG (aG ?_)
 refine aA (S B 1 O fun a B=>?_)
 refine aB ?_
 obtain⟨b25,o,U⟩:=bnd U
 refine dM (fun a w=>Env 89 [(10,vr20)] a∧Hp Z ρ (bM 73 3 vr20 usr20 (b25:(List (List Int)))::bM 73 3 vr19 usr19 (b23:(List (List Int)))::Pt y13 (.cells #[y8,y9,y10,y11] 123 (0,0))::Pt y12 (.cells #[y4,y5,y6,y7] 123 (0,0))::aC 3 y8 F.kinds::aC 9 y9 F.texts::aC 3 y10 F.left::aC 3 y11 F.numbers::aC 3 y4 G.kinds::aC 9 y5 G.texts::aC 3 y6 G.left::aC 3 y7 G.numbers::Pt b2 (.cells #[(Iv D.kind),(.string D.text),(Iv D.at_),(Iv D.fin),aJ] 24 (0,0))::Pt b1 (.cells #[(Iv E.kind),(.string E.text),(Iv E.at_),(Iv E.fin),aI] 24 (0,0))::L) w) ?_ ?_
 ·refine eQ o (fun s a w=>Env 89 [(5,(Pv y12 0)),(6,(Pv y13 0)),(7,vr19),(10,vr20),(11,(Iv s.1))] a∧Hp Z ρ (bM 73 3 vr20 usr20 (s.2:(List (List Int)))::bM 73 3 vr19 usr19 (b23:(List (List Int)))::Pt y13 (.cells #[y8,y9,y10,y11] 123 (0,0))::Pt y12 (.cells #[y4,y5,y6,y7] 123 (0,0))::aC 3 y8 F.kinds::aC 9 y9 F.texts::aC 3 y10 F.left::aC 3 y11 F.numbers::aC 3 y4 G.kinds::aC 9 y5 G.texts::aC 3 y6 G.left::aC 3 y7 G.numbers::Pt b2 (.cells #[(Iv D.kind),(.string D.text),(Iv D.at_),(Iv D.fin),aJ] 24 (0,0))::Pt b1 (.cells #[(Iv E.kind),(.string E.text),(Iv E.at_),(Iv E.fin),aI] 24 (0,0))::L) w) ?_ ?_
  ·exact⟨B.cut ⟨O,O,O,O,O,tv⟩,A⟩
  rintro⟨dR,vH⟩ st a w ⟨B,A⟩ J
  dsimp only at B A J
  unfold kC at J
  refine aG (aG ?_)
  refine aA (S B 1 O fun a B=>?_)
  refine V B A O (xf B qU O O) fun a B=>V B A O (xl B aT 3 O O O O) fun a B=>V B A O (bW O B O (aC.len A 8 O bD)) fun a B=>S B 1 O fun a B=>aB ?_
  refine dK B O (fun c=>?_) (fun c=>?_)
  ·replace J:=(it c).symm.trans J
   refine bI (aG ?_)
   refine dN (aG ?_)
   refine aA (S B 1 O fun a B=>?_)
   refine aB ?_
   obtain⟨b26,n,J⟩:=bnd J
   refine dM (fun a w=>Env 89 [(5,(Pv y12 0)),(6,(Pv y13 0)),(7,vr19),(10,vr20),(11,(Iv dR))] a∧Hp Z ρ (bM 73 3 vr20 usr20 (b26:(List (List Int)))::bM 73 3 vr19 usr19 (b23:(List (List Int)))::Pt y13 (.cells #[y8,y9,y10,y11] 123 (0,0))::Pt y12 (.cells #[y4,y5,y6,y7] 123 (0,0))::aC 3 y8 F.kinds::aC 9 y9 F.texts::aC 3 y10 F.left::aC 3 y11 F.numbers::aC 3 y4 G.kinds::aC 9 y5 G.texts::aC 3 y6 G.left::aC 3 y7 G.numbers::Pt b2 (.cells #[(Iv D.kind),(.string D.text),(Iv D.at_),(Iv D.fin),aJ] 24 (0,0))::Pt b1 (.cells #[(Iv E.kind),(.string E.text),(Iv E.at_),(Iv E.fin),aI] 24 (0,0))::L) w) ?_ ?_
   ·refine eQ n (fun s a w=>Env 89 [(5,(Pv y12 0)),(6,(Pv y13 0)),(7,vr19),(10,vr20),(11,(Iv dR)),(12,(Iv s.1))] a∧Hp Z ρ (bM 73 3 vr20 usr20 (s.2:(List (List Int)))::bM 73 3 vr19 usr19 (b23:(List (List Int)))::Pt y13 (.cells #[y8,y9,y10,y11] 123 (0,0))::Pt y12 (.cells #[y4,y5,y6,y7] 123 (0,0))::aC 3 y8 F.kinds::aC 9 y9 F.texts::aC 3 y10 F.left::aC 3 y11 F.numbers::aC 3 y4 G.kinds::aC 9 y5 G.texts::aC 3 y6 G.left::aC 3 y7 G.numbers::Pt b2 (.cells #[(Iv D.kind),(.string D.text),(Iv D.at_),(Iv D.fin),aJ] 24 (0,0))::Pt b1 (.cells #[(Iv E.kind),(.string E.text),(Iv E.at_),(Iv E.fin),aI] 24 (0,0))::L) w) ?_ ?_
    ·exact⟨B.cut ⟨O,O,O,O,O,O,tv⟩,A⟩
    rintro⟨fZ,jK⟩ st a w ⟨B,A⟩ H
    dsimp only at B A H
    unfold kD at H
    refine aG (aG ?_)
    refine aA (S B 1 O fun a B=>?_)
    refine V B A O (xf B qU O O) fun a B=>V B A O (xl B aT 2 O O O O) fun a B=>V B A O (bW O B O (aC.len A 4 O bD)) fun a B=>S B 1 O fun a B=>aB ?_
    refine dK B O (fun b=>?_) (fun b=>?_)
    ·replace H:=(it b).symm.trans H
     refine bI (aG ?_)
     refine dN ?_
     obtain⟨x8,t,H⟩:=bnd H
     obtain⟨x9,f,H⟩:=bnd H
     obtain⟨m,l,H⟩:=bnd H
     obtain⟨x11,Y,H⟩:=bnd H
     obtain⟨g,k,H⟩:=bnd H
     obtain⟨x13,X,H⟩:=bnd H
     have A:=A.drew
     refine gK ([([],At0 Z ρ),([21],At1 Z ρ (bM 73 3 vr20 usr20 (jK:(List (List Int))))),([],At1 Z ρ (bM 73 3 vr19 usr19 (b23:(List (List Int))))),([],At1 Z ρ (Pt y13 (.cells #[y8,y9,y10,y11] 123 (0,0)))),([],At1 Z ρ (Pt y12 (.cells #[y4,y5,y6,y7] 123 (0,0)))),([],At1 Z ρ (aC 3 y11 F.numbers)),([],At1 Z ρ (aC 3 y7 G.numbers))]:Facts) (fun a w=>Env 89 [(5,(Pv y12 0)),(6,(Pv y13 0)),(7,vr19),(10,vr20),(11,(Iv dR)),(12,(Iv fZ))] a∧Hp Z ρ (bM 73 3 vr20 usr20 (jK.set x8.toNat (x9.set m.toNat g):(List (List Int)))::bM 73 3 vr19 usr19 (b23:(List (List Int)))::Pt y13 (.cells #[y8,y9,y10,y11] 123 (0,0))::Pt y12 (.cells #[y4,y5,y6,y7] 123 (0,0))::aC 3 y8 F.kinds::aC 9 y9 F.texts::aC 3 y10 F.left::aC 3 y11 F.numbers::aC 3 y4 G.kinds::aC 9 y5 G.texts::aC 3 y6 G.left::aC 3 y7 G.numbers::Pt b2 (.cells #[(Iv D.kind),(.string D.text),(Iv D.at_),(Iv D.fin),aJ] 24 (0,0))::Pt b1 (.cells #[(Iv E.kind),(.string E.text),(Iv E.at_),(Iv E.fin),aI] 24 (0,0))::L) w) kr ⟨fun _=>⟨_,A⟩,fun _=>⟨_,(A.get 0 O)⟩,fun _=>⟨_,(A.get 1 O)⟩,fun _=>⟨_,(A.get 2 O)⟩,fun _=>⟨_,(A.get 3 O)⟩,fun _=>⟨_,(A.get 7 O)⟩,fun _=>⟨_,(A.get 11 O)⟩,tv⟩ (fun C=>?_) ?_
     ·
      generalize w.drew=w at C A⊢
      refine Ts [0] B C O O kr fun a B C=>T0 1 B C O O O kr (fun _=>xf B aI2 O O) fun a B C=>T 2 4 B C O O O kr (fun _=>xl B aT 0 O O O O) fun a B C=>Ts [3] B C O O kr fun a B C=>?_
      obtain⟨b33,b33o,b33r,b33v,b33f⟩:=aC.at A 11 O bD t
      refine T0 4 B C O O O kr (fun _=>aO O B O O b33r) fun a B C=>T 5 6 B C O O O kr (fun _=>aK O B O (fun w R=>aZ aW (b33f 0 _ O _ _ w (R.get 0 O)))) fun a B C=>?_
      obtain⟨b34u,b34,b34o,b34h,b34r,b34v,b34f⟩:=bM.hdr A 0 O iE f
      refine T0 6 B C O O O kr (fun _=>aO O B O O b34r) fun a B C=>T 7 1 B C O O O kr (fun _=>aK O B O (fun w R=>aZ aT (b34f 0 _ O _ _ w (R.get 0 O)))) fun a B C=>T0 8 B C O O O kr (fun _=>xf B aI2 O O) fun a B C=>T 9 3 B C O O O kr (fun _=>xl B aT 0 O O O O) fun a B C=>Ts [10] B C O O kr fun a B C=>?_
      obtain⟨b35,b35o,b35r,b35v,b35f⟩:=aC.at A 7 O bD l
      refine T0 11 B C O O O kr (fun _=>aO O B O O b35r) fun a B C=>T 12 5 B C O O O kr (fun _=>aK O B O (fun w R=>aZ aW (b35f 0 _ O _ _ w (R.get 0 O)))) fun a B C=>Ts [13,14] B C O O kr fun a B C=>?_
      obtain⟨b36u,b36,b36o,b36h,b36r,b36v,b36f⟩:=bM.hdr A 1 O iE Y
      refine T0 15 B C O O O kr (fun _=>aO O B O O b36r) fun a B C=>T 16 2 B C O O O kr (fun _=>aK O B O (fun w R=>aZ aT (b36f 0 _ O _ _ w (R.get 0 O)))) fun a B C=>Ts [17] B C O O kr fun a B C=>?_
      obtain⟨b37,b37o,b37r,b37v,b37f⟩:=bM.at A 1 O bD b36h Y k
      refine T0 18 B C O O O kr (fun _=>aO O B O O b37r) fun a B C=>T 19 2 B C O O O kr (fun _=>aK O B O (fun w R=>aZ aW (b37f 0 _ O _ _ w (R.get 0 O)))) fun a B C=>?_
      obtain⟨b38,b38o,b38r,b38v,b38f⟩:=bM.at A 0 O bD b34h f X
      refine T0 20 B C O O O kr (fun _=>aO O B O O b38r) fun a B C=>?_
      refine W1 21 kr O ?_
      refine yA (wk0 O) O B A O O O 0 O b34h f X b38v 0 (e':=g) aW.size_ O O O ⟨O,O⟩ ?_
      intro w A
      have A:=r14 A
      refine aB (aF ⟨gp0 A,dead kr,gp 1 A O,gp 2 A O,gp 3 A O,gp 7 A O,gp 11 A O,tv⟩ fun C=>?_)
      exact bT kr ⟨B.cut ⟨O,O,O,O,O,O,tv⟩,A⟩
     rintro a w ⟨B,A⟩
     refine aA (S B 1 O fun a B=>?_)
     obtain⟨x14,j,H⟩:=bnd H
     refine V B A O (bF O B O O (aN j)) fun a B=>S B 1 O fun a B=>aB ?_
     exact⟨_,(oj H).symm,B.cut ⟨O,O,O,O,O,O,tv⟩,A⟩
    replace H:=(ie b).symm.trans H
    refine dZ ?_
    refine⟨_,(oj H).symm,fun hbb=>?_⟩
    subst hbb
    exact⟨B.cut ⟨O,O,O,O,O,tv⟩,A⟩
   rintro a w ⟨B,A⟩
   refine aA (S B 1 O fun a B=>?_)
   obtain⟨x15,i,J⟩:=bnd J
   refine V B A O (bF O B O O (aN i)) fun a B=>S B 1 O fun a B=>aB ?_
   exact⟨_,(oj J).symm,B.cut ⟨O,O,O,O,O,tv⟩,A⟩
  replace J:=(ie c).symm.trans J
  refine dZ ?_
  refine⟨_,(oj J).symm,fun hbb=>?_⟩
  subst hbb
  exact⟨B.cut ⟨O,tv⟩,A⟩
 rintro a w ⟨B,A⟩
 refine aG (aA ?_)
 refine S B 2 O fun a B=>aB (cZ ?_)
 obtain rfl:=oj U
 exact gY B O O ⟨_,O,_,_,O,((((((((((((((((((((((((((A.get 13 O).drop).get 12 O).drop).get 11 O).drop).get 10 O).drop).get 9 O).drop).get 8 O).drop).get 7 O).drop).get 6 O).drop).get 5 O).drop).get 4 O).drop).get 3 O).drop).get 2 O).drop).get 1 O).drop)⟩
theorem aE1 {Z:World} {ρ:PH} {L:List bQ} {w:World} (C:Node) (aI:Value) (aY:aH ρ aI C.kids) (B:Node) (aJ:Value) (bG:aH ρ aJ B.kids) (D:Hp Z ρ (L) w) (r:Int) (E:nU C B=some r):
  Calls Tryz.prog 22 #[(.agg #[(Iv C.kind),(.string C.text),(Iv C.at_),(Iv C.fin),aI]),(.agg #[(Iv B.kind),(.string B.text),(Iv B.at_),(Iv B.fin),aJ])] w (Ret fun v w'=>v=(Iv r)∧Hp Z ρ (L) w'):=by
 refine enter (N:=12) Tryz.func22 O O [(0,(.agg #[(Iv C.kind),(.string C.text),(Iv C.at_),(Iv C.fin),aI])),(1,(.agg #[(Iv B.kind),(.string B.text),(Iv B.at_),(Iv B.fin),aJ]))] O (bH ⟨O,O,tv⟩) fun a A=>?_
 unfold nU at E
 refine aG (aA ?_)
 refine iH (wk0 O) O O A D O (v:=(.agg #[(Iv C.kind),(.string C.text),(Iv C.at_),(Iv C.fin),aI])) O ?_
 intro a w b1 A D
 have D:=r1 D
 refine iH (wk0 O) O O A D O (v:=(.agg #[(Iv B.kind),(.string B.text),(Iv B.at_),(Iv B.fin),aJ])) O ?_
 intro a w b2 A D
 have D:=r2 D
 refine S A 1 O fun a A=>aB (aG ?_)
 refine aA (V A D O (aK O A O (fun w F=>aX (cs:=[(Iv C.kind),(.string C.text),(Iv C.at_),(Iv C.fin),aI]) cO (Hp.cN 1 O 0 _ (aS O) w F))) fun a A=>?_)
 refine V A D O (aK O A O (fun w F=>aX (cs:=[(Iv B.kind),(.string B.text),(Iv B.at_),(Iv B.fin),aJ]) cO (Hp.cN 0 O 0 _ (aS O) w F))) fun a A=>?_
 obtain⟨J,I,E⟩:=bnd E
 refine s_call (wk0 O) O O A O [(.agg #[(Iv C.kind),(.string C.text),(Iv C.at_),(Iv C.fin),aI]),(.agg #[(Iv B.kind),(.string B.text),(Iv B.at_),(Iv B.fin),aJ])] ⟨O,O,tv⟩ ent52 (aE2 C aI aY B aJ bG D J I) Ret.ret ?_
 intro vr1 a w K A
 obtain⟨u,usr1,rfl,D⟩:=Ret.of K
 have D:=r3 D
 obtain⟨x2,G,E⟩:=bnd E
 obtain⟨b3u,b3,b3o,b3h,b3r,b3v,b3f⟩:=bM.hdr D 0 O iE G
 refine V A D O (aO O A O O b3r) fun a A=>V A D O (aK O A O (fun w F=>aZ aT (b3f 0 _ O _ _ w (F.get 0 O)))) fun a A=>?_
 obtain⟨x3,H,E⟩:=bnd E
 obtain⟨b4,b4o,b4r,b4v,b4f⟩:=bM.at D 0 O bD b3h G H
 refine V A D O (aO O A O O b4r) fun a A=>V A D O (aK O A O (fun w F=>aZ aW (b4f 0 _ O _ _ w (F.get 0 O)))) fun a A=>S A 1 O fun a A=>aB (cZ ?_)
 obtain rfl:=oj E
 exact gY A O O ⟨_,O,O,(((((D.get 2 O).drop).get 1 O).drop).drop)⟩
end Go.Proofs.YtopnldfjcciieaaGreat

/- The code goes as its model: assessor/distance.subtrees, assessor/distance.Subtrees. (Printed by wip/sp/gen.py.) -/
import Derived.Test.YtopnldfjcciieaaGreatKLeT
import Derived.Test.YtopnldfjcciieaaGreatKLe4
import Derived.Test.YtopnldfjcciieaaGreatKLe5
import Derived.Test.YtopnldfjcciieaaGreatKLe13
set_option linter.unusedVariables false
set_option linter.unusedSimpArgs false
set_option maxRecDepth 100000
set_option maxHeartbeats 4000000
namespace Go.Proofs.YtopnldfjcciieaaGreat
open Go.RowKit
theorem aP6 {Z:World} {ρ:PH} {L:List bQ} {w:World} (E:Node) (aI:Value) (aY:aH ρ aI E.kids) (D:Node) (aJ:Value) (bG:aH ρ aJ D.kids) (A:Hp Z ρ (L) w) (r:(List (List Int))) (U:sW E D=some r):
  Calls Tryz.prog 68 #[(.agg #[(Iv E.kind),(.string E.text),(Iv E.at_),(Iv E.fin),aI]),(.agg #[(Iv D.kind),(.string D.text),(Iv D.at_),(Iv D.fin),aJ])] w (Ret fun v w'=>∃(vr1:Value) (usr1:List Sl),v=vr1∧Hp Z ρ (bM 73 3 vr1 usr1 (r:(List (List Int)))::L) w'):=by
 refine enter (N:=92) Tryz.func68 O O [(0,(.agg #[(Iv E.kind),(.string E.text),(Iv E.at_),(Iv E.fin),aI])),(1,(.agg #[(Iv D.kind),(.string D.text),(Iv D.at_),(Iv D.fin),aJ]))] O (bH ⟨O,O,tv⟩) fun a B=>?_
 unfold sW at U
 refine aG (aA ?_)
 refine iH (wk0 O) O O B A O (v:=(.agg #[(Iv E.kind),(.string E.text),(Iv E.at_),(Iv E.fin),aI])) O ?_
 intro a w b1 B A
 have A:=r1 A
 refine iH (wk0 O) O O B A O (v:=(.agg #[(Iv D.kind),(.string D.text),(Iv D.at_),(Iv D.fin),aJ])) O ?_
 intro a w b2 B A
 have A:=r2 A
 refine S B 1 O fun a B=>aB (aG ?_)
 obtain⟨R,b,U⟩:=bnd U
 obtain⟨M,Q,U⟩:=bnd U
 have A:=A.drew
 refine gK ([([],At0 Z ρ),([],At1 Z ρ (Pt b2 (.cells #[(Iv D.kind),(.string D.text),(Iv D.at_),(Iv D.fin),aJ] 24 (0,0)))),([],At1 Z ρ (Pt b1 (.cells #[(Iv E.kind),(.string E.text),(Iv E.at_),(Iv E.fin),aI] 24 (0,0))))]:Facts) (fun a w=>∃y11:Nat,∃y10:Nat,∃y7:Value,∃y8:Value,∃y9:Value,∃y4:Value,∃y5:Value,∃y6:Value,Env 92 [(5,(Pv y10 0)),(6,(Pv y11 0))] a∧Hp Z ρ (Pt y11 (.cells #[y7,y8,y9] 135 (0,0))::Pt y10 (.cells #[y4,y5,y6] 135 (0,0))::aC 156 y7 M.labels::aC 3 y8 M.left::aC 3 y9 M.numbers::aC 156 y4 R.labels::aC 3 y5 R.left::aC 3 y6 R.numbers::Pt b2 (.cells #[(Iv D.kind),(.string D.text),(Iv D.at_),(Iv D.fin),aJ] 24 (0,0))::Pt b1 (.cells #[(Iv E.kind),(.string E.text),(Iv E.at_),(Iv E.fin),aI] 24 (0,0))::L) w) kr ⟨fun _=>⟨_,A⟩,fun _=>⟨_,(A.get 0 O)⟩,fun _=>⟨_,(A.get 1 O)⟩,tv⟩ (fun C=>?_) ?_
 ·
  generalize w.drew=w at C A⊢
  refine T 0 2 B C O O O kr (fun _=>aK O B O (fun w K=>aX (cs:=[(Iv E.kind),(.string E.text),(Iv E.at_),(Iv E.fin),aI]) cO (Hp.cN 0 O 0 _ (aS O) w K))) fun a B C=>T 2 1 B C O O O kr (fun _=>aK O B O (fun w K=>aX (cs:=[(Iv D.kind),(.string D.text),(Iv D.at_),(Iv D.fin),aJ]) cO (Hp.cN 0 O 0 _ (aS O) w K))) fun a B C=>?_
  refine fQ [1,4,5] kr O ?_
  refine uE.2 ⟨?_,uE.2 ⟨?_,uE.2 ⟨?_,fun _ h=>absurd h (by simp)⟩⟩⟩
  ·
   refine dV O ?_
   refine Cl B O O W9 (eY E aI aY A R b) ⟨O,tv⟩ fun v a w F B=>?_
   obtain⟨O1,wE,oZ,rfl,A⟩:=F
   have A:=r5 A
   refine aB (aF ⟨gp0 A,gp 3 A O,gp 4 A O,tv⟩ fun C=>?_)
   refine fQ [3,4,5] kr O ?_
   refine uE.2 ⟨?_,uE.2 ⟨?_,uE.2 ⟨?_,fun _ h=>absurd h (by simp)⟩⟩⟩
   ·
    refine dV O ?_
    refine Cl B O O W9 (eY D aJ bG A M Q) ⟨O,tv⟩ fun v a w F B=>?_
    obtain⟨vr4_labels,aM8,U5,rfl,A⟩:=F
    have A:=r8 A
    refine aB (aF ⟨gp0 A,gp 6 A O,gp 7 A O,tv⟩ fun C=>?_)
    refine fQ [4,5] kr O ?_
    refine uE.2 ⟨?_,uE.2 ⟨?_,fun _ h=>absurd h (by simp)⟩⟩
    ·
     refine dV O ?_
     refine dF (wk0 O) O O B A O [N0,N0,N0] (fun w=>by simp[Instr.alloc,go_sem]<;>rfl) ?_
     intro a w b5 B A
     have A:=r9 A
     refine aB (aF ⟨gp0 A,gp 7 A O,gp 8 A O,tv⟩ fun C=>?_)
     refine W1 5 kr O ?_
     refine dF (wk0 O) O O B A O [N0,N0,N0] (fun w=>by simp[Instr.alloc,go_sem]<;>rfl) ?_
     intro a w b6 B A
     have A:=r10 A
     refine aB (aF ⟨gp0 A,gp 8 A O,gp 9 A O,tv⟩ fun C=>?_)
     refine W1 6 kr O ?_
     refine aV (wk0 O) O B A O O O 1 O iO.size_ O (aP ⟨(aC.one A 5 O),(aC.one A 6 O),(aC.one A 7 O),tv⟩) [O1,wE,oZ] O ?_
     intro w A
     have A:=r10 A
     refine aB (aF ⟨gp0 A,gp 8 A O,gp 9 A O,tv⟩ fun C=>?_)
     refine W1 7 kr O ?_
     refine aV (wk0 O) O B A O O O 0 O iO.size_ O (aP ⟨(aC.one A 2 O),(aC.one A 3 O),(aC.one A 4 O),tv⟩) [vr4_labels,aM8,U5] O ?_
     intro w A
     have A:=r10 A
     refine aB (aF ⟨gp0 A,gp 8 A O,gp 9 A O,tv⟩ fun C=>?_)
     exact bT kr ⟨_,_,_,_,_,_,_,_,B.cut ⟨O,O,tv⟩,A⟩
    refine dV O ?_
    refine dF (wk0 O) O O B A O [N0,N0,N0] (fun w=>by simp[Instr.alloc,go_sem]<;>rfl) ?_
    intro a w b7 B A
    have A:=r9 A
    refine aB (aF ⟨gp0 A,gp 7 A O,gp 8 A O,tv⟩ fun C=>?_)
    refine W1 4 kr O ?_
    refine dF (wk0 O) O O B A O [N0,N0,N0] (fun w=>by simp[Instr.alloc,go_sem]<;>rfl) ?_
    intro a w b8 B A
    have A:=r10 A
    refine aB (aF ⟨gp0 A,gp 8 A O,gp 9 A O,tv⟩ fun C=>?_)
    refine W1 6 kr O ?_
    refine aV (wk0 O) O B A O O O 0 O iO.size_ O (aP ⟨(aC.one A 5 O),(aC.one A 6 O),(aC.one A 7 O),tv⟩) [O1,wE,oZ] O ?_
    intro w A
    have A:=r10 A
    refine aB (aF ⟨gp0 A,gp 8 A O,gp 9 A O,tv⟩ fun C=>?_)
    refine W1 7 kr O ?_
    refine aV (wk0 O) O B A O O O 1 O iO.size_ O (aP ⟨(aC.one A 2 O),(aC.one A 3 O),(aC.one A 4 O),tv⟩) [vr4_labels,aM8,U5] O ?_
    intro w A
    have A:=r10 A
    refine aB (aF ⟨gp0 A,gp 8 A O,gp 9 A O,tv⟩ fun C=>?_)
    exact bT kr ⟨_,_,_,_,_,_,_,_,B.cut ⟨O,O,tv⟩,((((((((((A.get 9 O).get 9 O).get 9 O).get 9 O).get 9 O).get 9 O).get 9 O).get 9 O).get 8 O).get 9 O)⟩
   ·
    refine dV O ?_
    refine dF (wk0 O) O O B A O [N0,N0,N0] (fun w=>by simp[Instr.alloc,go_sem]<;>rfl) ?_
    intro a w b9 B A
    have A:=r6 A
    refine aB (aF ⟨gp0 A,gp 4 A O,gp 5 A O,tv⟩ fun C=>?_)
    refine fQ [3,5] kr O ?_
    refine uE.2 ⟨?_,uE.2 ⟨?_,fun _ h=>absurd h (by simp)⟩⟩
    ·
     refine dV O ?_
     refine Cl B O O W9 (eY D aJ bG A M Q) ⟨O,tv⟩ fun v a w F B=>?_
     obtain⟨vr5_labels,vr5_left,aM9,rfl,A⟩:=F
     have A:=r9 A
     refine aB (aF ⟨gp0 A,gp 7 A O,gp 8 A O,tv⟩ fun C=>?_)
     refine W1 5 kr O ?_
     refine dF (wk0 O) O O B A O [N0,N0,N0] (fun w=>by simp[Instr.alloc,go_sem]<;>rfl) ?_
     intro a w b10 B A
     have A:=r10 A
     refine aB (aF ⟨gp0 A,gp 8 A O,gp 9 A O,tv⟩ fun C=>?_)
     refine W1 6 kr O ?_
     refine aV (wk0 O) O B A O O O 4 O iO.size_ O (aP ⟨(aC.one A 5 O),(aC.one A 6 O),(aC.one A 7 O),tv⟩) [O1,wE,oZ] O ?_
     intro w A
     have A:=r10 A
     refine aB (aF ⟨gp0 A,gp 8 A O,gp 9 A O,tv⟩ fun C=>?_)
     refine W1 7 kr O ?_
     refine aV (wk0 O) O B A O O O 0 O iO.size_ O (aP ⟨(aC.one A 1 O),(aC.one A 2 O),(aC.one A 3 O),tv⟩) [vr5_labels,vr5_left,aM9] O ?_
     intro w A
     have A:=r10 A
     refine aB (aF ⟨gp0 A,gp 8 A O,gp 9 A O,tv⟩ fun C=>?_)
     exact bT kr ⟨_,_,_,_,_,_,_,_,B.cut ⟨O,O,tv⟩,((((((((((A.get 9 O).get 9 O).get 9 O).get 9 O).get 9 O).get 8 O).get 8 O).get 8 O).get 9 O).get 9 O)⟩
    refine dV O ?_
    refine dF (wk0 O) O O B A O [N0,N0,N0] (fun w=>by simp[Instr.alloc,go_sem]<;>rfl) ?_
    intro a w b11 B A
    have A:=r7 A
    refine aB (aF ⟨gp0 A,gp 5 A O,gp 6 A O,tv⟩ fun C=>?_)
    refine W1 3 kr O ?_
    refine Cl B O O W9 (eY D aJ bG A M Q) ⟨O,tv⟩ fun v a w F B=>?_
    obtain⟨vr6_labels,vr6_left,aN0,rfl,A⟩:=F
    have A:=r10 A
    refine aB (aF ⟨gp0 A,gp 8 A O,gp 9 A O,tv⟩ fun C=>?_)
    refine W1 6 kr O ?_
    refine aV (wk0 O) O B A O O O 4 O iO.size_ O (aP ⟨(aC.one A 5 O),(aC.one A 6 O),(aC.one A 7 O),tv⟩) [O1,wE,oZ] O ?_
    intro w A
    have A:=r10 A
    refine aB (aF ⟨gp0 A,gp 8 A O,gp 9 A O,tv⟩ fun C=>?_)
    refine W1 7 kr O ?_
    refine aV (wk0 O) O B A O O O 3 O iO.size_ O (aP ⟨(aC.one A 0 O),(aC.one A 1 O),(aC.one A 2 O),tv⟩) [vr6_labels,vr6_left,aN0] O ?_
    intro w A
    have A:=r10 A
    refine aB (aF ⟨gp0 A,gp 8 A O,gp 9 A O,tv⟩ fun C=>?_)
    exact bT kr ⟨_,_,_,_,_,_,_,_,B.cut ⟨O,O,tv⟩,((((((((((A.get 9 O).get 9 O).get 9 O).get 9 O).get 9 O).get 7 O).get 7 O).get 7 O).get 9 O).get 9 O)⟩
   refine dV O ?_
   refine dF (wk0 O) O O B A O [N0,N0,N0] (fun w=>by simp[Instr.alloc,go_sem]<;>rfl) ?_
   intro a w b12 B A
   have A:=r6 A
   refine aB (aF ⟨gp0 A,gp 4 A O,gp 5 A O,tv⟩ fun C=>?_)
   refine fQ [3,4] kr O ?_
   refine uE.2 ⟨?_,uE.2 ⟨?_,fun _ h=>absurd h (by simp)⟩⟩
   ·
    refine dV O ?_
    refine Cl B O O W9 (eY D aJ bG A M Q) ⟨O,tv⟩ fun v a w F B=>?_
    obtain⟨vr7_labels,vr7_left,aN1,rfl,A⟩:=F
    have A:=r9 A
    refine aB (aF ⟨gp0 A,gp 7 A O,gp 8 A O,tv⟩ fun C=>?_)
    refine W1 4 kr O ?_
    refine dF (wk0 O) O O B A O [N0,N0,N0] (fun w=>by simp[Instr.alloc,go_sem]<;>rfl) ?_
    intro a w b13 B A
    have A:=r10 A
    refine aB (aF ⟨gp0 A,gp 8 A O,gp 9 A O,tv⟩ fun C=>?_)
    refine W1 6 kr O ?_
    refine aV (wk0 O) O B A O O O 0 O iO.size_ O (aP ⟨(aC.one A 5 O),(aC.one A 6 O),(aC.one A 7 O),tv⟩) [O1,wE,oZ] O ?_
    intro w A
    have A:=r10 A
    refine aB (aF ⟨gp0 A,gp 8 A O,gp 9 A O,tv⟩ fun C=>?_)
    refine W1 7 kr O ?_
    refine aV (wk0 O) O B A O O O 4 O iO.size_ O (aP ⟨(aC.one A 1 O),(aC.one A 2 O),(aC.one A 3 O),tv⟩) [vr7_labels,vr7_left,aN1] O ?_
    intro w A
    have A:=r10 A
    refine aB (aF ⟨gp0 A,gp 8 A O,gp 9 A O,tv⟩ fun C=>?_)
    exact bT kr ⟨_,_,_,_,_,_,_,_,B.cut ⟨O,O,tv⟩,((((((((((A.get 9 O).get 9 O).get 9 O).get 9 O).get 9 O).get 8 O).get 8 O).get 8 O).get 8 O).get 9 O)⟩
   refine dV O ?_
   refine dF (wk0 O) O O B A O [N0,N0,N0] (fun w=>by simp[Instr.alloc,go_sem]<;>rfl) ?_
   intro a w b14 B A
   have A:=r7 A
   refine aB (aF ⟨gp0 A,gp 5 A O,gp 6 A O,tv⟩ fun C=>?_)
   refine W1 3 kr O ?_
   refine Cl B O O W9 (eY D aJ bG A M Q) ⟨O,tv⟩ fun v a w F B=>?_
   obtain⟨vr8_labels,vr8_left,aN2,rfl,A⟩:=F
   have A:=r10 A
   refine aB (aF ⟨gp0 A,gp 8 A O,gp 9 A O,tv⟩ fun C=>?_)
   refine W1 6 kr O ?_
   refine aV (wk0 O) O B A O O O 3 O iO.size_ O (aP ⟨(aC.one A 5 O),(aC.one A 6 O),(aC.one A 7 O),tv⟩) [O1,wE,oZ] O ?_
   intro w A
   have A:=r10 A
   refine aB (aF ⟨gp0 A,gp 8 A O,gp 9 A O,tv⟩ fun C=>?_)
   refine W1 7 kr O ?_
   refine aV (wk0 O) O B A O O O 4 O iO.size_ O (aP ⟨(aC.one A 0 O),(aC.one A 1 O),(aC.one A 2 O),tv⟩) [vr8_labels,vr8_left,aN2] O ?_
   intro w A
   have A:=r10 A
   refine aB (aF ⟨gp0 A,gp 8 A O,gp 9 A O,tv⟩ fun C=>?_)
   exact bT kr ⟨_,_,_,_,_,_,_,_,B.cut ⟨O,O,tv⟩,((((((((((A.get 9 O).get 9 O).get 9 O).get 9 O).get 9 O).get 7 O).get 7 O).get 7 O).get 8 O).get 9 O)⟩
  ·
   refine dV O ?_
   refine dF (wk0 O) O O B A O [N0,N0,N0] (fun w=>by simp[Instr.alloc,go_sem]<;>rfl) ?_
   intro a w b15 B A
   have A:=r3 A
   refine aB (aF ⟨gp0 A,gp 1 A O,gp 2 A O,tv⟩ fun C=>?_)
   refine fQ [1,5] kr O ?_
   refine uE.2 ⟨?_,uE.2 ⟨?_,fun _ h=>absurd h (by simp)⟩⟩
   ·
    refine dV O ?_
    refine Cl B O O W9 (eY E aI aY A R b) ⟨O,tv⟩ fun v a w F B=>?_
    obtain⟨vr9_labels,aN3,U6,rfl,A⟩:=F
    have A:=r6 A
    refine aB (aF ⟨gp0 A,gp 4 A O,gp 5 A O,tv⟩ fun C=>?_)
    refine fQ [3,5] kr O ?_
    refine uE.2 ⟨?_,uE.2 ⟨?_,fun _ h=>absurd h (by simp)⟩⟩
    ·
     refine dV O ?_
     refine Cl B O O W9 (eY D aJ bG A M Q) ⟨O,tv⟩ fun v a w F B=>?_
     obtain⟨vr10_labels,vr10_left,aI9,rfl,A⟩:=F
     have A:=r9 A
     refine aB (aF ⟨gp0 A,gp 7 A O,gp 8 A O,tv⟩ fun C=>?_)
     refine W1 5 kr O ?_
     refine dF (wk0 O) O O B A O [N0,N0,N0] (fun w=>by simp[Instr.alloc,go_sem]<;>rfl) ?_
     intro a w b16 B A
     have A:=r10 A
     refine aB (aF ⟨gp0 A,gp 8 A O,gp 9 A O,tv⟩ fun C=>?_)
     refine W1 6 kr O ?_
     refine aV (wk0 O) O B A O O O 7 O iO.size_ O (aP ⟨(aC.one A 4 O),(aC.one A 5 O),(aC.one A 6 O),tv⟩) [vr9_labels,aN3,U6] O ?_
     intro w A
     have A:=r10 A
     refine aB (aF ⟨gp0 A,gp 8 A O,gp 9 A O,tv⟩ fun C=>?_)
     refine W1 7 kr O ?_
     refine aV (wk0 O) O B A O O O 0 O iO.size_ O (aP ⟨(aC.one A 1 O),(aC.one A 2 O),(aC.one A 3 O),tv⟩) [vr10_labels,vr10_left,aI9] O ?_
     intro w A
     have A:=r10 A
     refine aB (aF ⟨gp0 A,gp 8 A O,gp 9 A O,tv⟩ fun C=>?_)
     exact bT kr ⟨_,_,_,_,_,_,_,_,B.cut ⟨O,O,tv⟩,((((((((((A.get 9 O).get 9 O).get 8 O).get 8 O).get 8 O).get 8 O).get 8 O).get 8 O).get 9 O).get 9 O)⟩
    refine dV O ?_
    refine dF (wk0 O) O O B A O [N0,N0,N0] (fun w=>by simp[Instr.alloc,go_sem]<;>rfl) ?_
    intro a w b17 B A
    have A:=r7 A
    refine aB (aF ⟨gp0 A,gp 5 A O,gp 6 A O,tv⟩ fun C=>?_)
    refine W1 3 kr O ?_
    refine Cl B O O W9 (eY D aJ bG A M Q) ⟨O,tv⟩ fun v a w F B=>?_
    obtain⟨vr11_labels,vr11_left,aJ0,rfl,A⟩:=F
    have A:=r10 A
    refine aB (aF ⟨gp0 A,gp 8 A O,gp 9 A O,tv⟩ fun C=>?_)
    refine W1 6 kr O ?_
    refine aV (wk0 O) O B A O O O 7 O iO.size_ O (aP ⟨(aC.one A 4 O),(aC.one A 5 O),(aC.one A 6 O),tv⟩) [vr9_labels,aN3,U6] O ?_
    intro w A
    have A:=r10 A
    refine aB (aF ⟨gp0 A,gp 8 A O,gp 9 A O,tv⟩ fun C=>?_)
    refine W1 7 kr O ?_
    refine aV (wk0 O) O B A O O O 3 O iO.size_ O (aP ⟨(aC.one A 0 O),(aC.one A 1 O),(aC.one A 2 O),tv⟩) [vr11_labels,vr11_left,aJ0] O ?_
    intro w A
    have A:=r10 A
    refine aB (aF ⟨gp0 A,gp 8 A O,gp 9 A O,tv⟩ fun C=>?_)
    exact bT kr ⟨_,_,_,_,_,_,_,_,B.cut ⟨O,O,tv⟩,((((((((((A.get 9 O).get 9 O).get 8 O).get 8 O).get 8 O).get 7 O).get 7 O).get 7 O).get 9 O).get 9 O)⟩
   refine dV O ?_
   refine dF (wk0 O) O O B A O [N0,N0,N0] (fun w=>by simp[Instr.alloc,go_sem]<;>rfl) ?_
   intro a w b18 B A
   have A:=r4 A
   refine aB (aF ⟨gp0 A,gp 2 A O,gp 3 A O,tv⟩ fun C=>?_)
   refine W1 1 kr O ?_
   refine Cl B O O W9 (eY E aI aY A R b) ⟨O,tv⟩ fun v a w F B=>?_
   obtain⟨vr12_labels,vr12_left,aJ1,rfl,A⟩:=F
   have A:=r7 A
   refine aB (aF ⟨gp0 A,gp 5 A O,gp 6 A O,tv⟩ fun C=>?_)
   refine W1 3 kr O ?_
   refine Cl B O O W9 (eY D aJ bG A M Q) ⟨O,tv⟩ fun v a w F B=>?_
   obtain⟨vr13_labels,vr13_left,aJ2,rfl,A⟩:=F
   have A:=r10 A
   refine aB (aF ⟨gp0 A,gp 8 A O,gp 9 A O,tv⟩ fun C=>?_)
   refine W1 6 kr O ?_
   refine aV (wk0 O) O B A O O O 7 O iO.size_ O (aP ⟨(aC.one A 3 O),(aC.one A 4 O),(aC.one A 5 O),tv⟩) [vr12_labels,vr12_left,aJ1] O ?_
   intro w A
   have A:=r10 A
   refine aB (aF ⟨gp0 A,gp 8 A O,gp 9 A O,tv⟩ fun C=>?_)
   refine W1 7 kr O ?_
   refine aV (wk0 O) O B A O O O 6 O iO.size_ O (aP ⟨(aC.one A 0 O),(aC.one A 1 O),(aC.one A 2 O),tv⟩) [vr13_labels,vr13_left,aJ2] O ?_
   intro w A
   have A:=r10 A
   refine aB (aF ⟨gp0 A,gp 8 A O,gp 9 A O,tv⟩ fun C=>?_)
   exact bT kr ⟨_,_,_,_,_,_,_,_,B.cut ⟨O,O,tv⟩,((((((((((A.get 9 O).get 9 O).get 7 O).get 7 O).get 7 O).get 7 O).get 7 O).get 7 O).get 9 O).get 9 O)⟩
  refine dV O ?_
  refine dF (wk0 O) O O B A O [N0,N0,N0] (fun w=>by simp[Instr.alloc,go_sem]<;>rfl) ?_
  intro a w b19 B A
  have A:=r3 A
  refine aB (aF ⟨gp0 A,gp 1 A O,gp 2 A O,tv⟩ fun C=>?_)
  refine fQ [1,4] kr O ?_
  refine uE.2 ⟨?_,uE.2 ⟨?_,fun _ h=>absurd h (by simp)⟩⟩
  ·
   refine dV O ?_
   refine Cl B O O W9 (eY E aI aY A R b) ⟨O,tv⟩ fun v a w F B=>?_
   obtain⟨vr14_labels,aG8,H8,rfl,A⟩:=F
   have A:=r6 A
   refine aB (aF ⟨gp0 A,gp 4 A O,gp 5 A O,tv⟩ fun C=>?_)
   refine fQ [3,4] kr O ?_
   refine uE.2 ⟨?_,uE.2 ⟨?_,fun _ h=>absurd h (by simp)⟩⟩
   ·
    refine dV O ?_
    refine Cl B O O W9 (eY D aJ bG A M Q) ⟨O,tv⟩ fun v a w F B=>?_
    obtain⟨vr15_labels,vr15_left,aJ3,rfl,A⟩:=F
    have A:=r9 A
    refine aB (aF ⟨gp0 A,gp 7 A O,gp 8 A O,tv⟩ fun C=>?_)
    refine W1 4 kr O ?_
    refine dF (wk0 O) O O B A O [N0,N0,N0] (fun w=>by simp[Instr.alloc,go_sem]<;>rfl) ?_
    intro a w b20 B A
    have A:=r10 A
    refine aB (aF ⟨gp0 A,gp 8 A O,gp 9 A O,tv⟩ fun C=>?_)
    refine W1 6 kr O ?_
    refine aV (wk0 O) O B A O O O 0 O iO.size_ O (aP ⟨(aC.one A 4 O),(aC.one A 5 O),(aC.one A 6 O),tv⟩) [vr14_labels,aG8,H8] O ?_
    intro w A
    have A:=r10 A
    refine aB (aF ⟨gp0 A,gp 8 A O,gp 9 A O,tv⟩ fun C=>?_)
    refine W1 7 kr O ?_
    refine aV (wk0 O) O B A O O O 7 O iO.size_ O (aP ⟨(aC.one A 1 O),(aC.one A 2 O),(aC.one A 3 O),tv⟩) [vr15_labels,vr15_left,aJ3] O ?_
    intro w A
    have A:=r10 A
    refine aB (aF ⟨gp0 A,gp 8 A O,gp 9 A O,tv⟩ fun C=>?_)
    exact bT kr ⟨_,_,_,_,_,_,_,_,B.cut ⟨O,O,tv⟩,((((((((((A.get 9 O).get 9 O).get 8 O).get 8 O).get 8 O).get 8 O).get 8 O).get 8 O).get 8 O).get 9 O)⟩
   refine dV O ?_
   refine dF (wk0 O) O O B A O [N0,N0,N0] (fun w=>by simp[Instr.alloc,go_sem]<;>rfl) ?_
   intro a w b21 B A
   have A:=r7 A
   refine aB (aF ⟨gp0 A,gp 5 A O,gp 6 A O,tv⟩ fun C=>?_)
   refine W1 3 kr O ?_
   refine Cl B O O W9 (eY D aJ bG A M Q) ⟨O,tv⟩ fun v a w F B=>?_
   obtain⟨vr16_labels,vr16_left,aJ4,rfl,A⟩:=F
   have A:=r10 A
   refine aB (aF ⟨gp0 A,gp 8 A O,gp 9 A O,tv⟩ fun C=>?_)
   refine W1 6 kr O ?_
   refine aV (wk0 O) O B A O O O 3 O iO.size_ O (aP ⟨(aC.one A 4 O),(aC.one A 5 O),(aC.one A 6 O),tv⟩) [vr14_labels,aG8,H8] O ?_
   intro w A
   have A:=r10 A
   refine aB (aF ⟨gp0 A,gp 8 A O,gp 9 A O,tv⟩ fun C=>?_)
   refine W1 7 kr O ?_
   refine aV (wk0 O) O B A O O O 7 O iO.size_ O (aP ⟨(aC.one A 0 O),(aC.one A 1 O),(aC.one A 2 O),tv⟩) [vr16_labels,vr16_left,aJ4] O ?_
   intro w A
   have A:=r10 A
   refine aB (aF ⟨gp0 A,gp 8 A O,gp 9 A O,tv⟩ fun C=>?_)
   exact bT kr ⟨_,_,_,_,_,_,_,_,B.cut ⟨O,O,tv⟩,((((((((((A.get 9 O).get 9 O).get 8 O).get 8 O).get 8 O).get 7 O).get 7 O).get 7 O).get 8 O).get 9 O)⟩
  refine dV O ?_
  refine dF (wk0 O) O O B A O [N0,N0,N0] (fun w=>by simp[Instr.alloc,go_sem]<;>rfl) ?_
  intro a w b22 B A
  have A:=r4 A
  refine aB (aF ⟨gp0 A,gp 2 A O,gp 3 A O,tv⟩ fun C=>?_)
  refine W1 1 kr O ?_
  refine Cl B O O W9 (eY E aI aY A R b) ⟨O,tv⟩ fun v a w F B=>?_
  obtain⟨vr17_labels,vr17_left,aJ5,rfl,A⟩:=F
  have A:=r7 A
  refine aB (aF ⟨gp0 A,gp 5 A O,gp 6 A O,tv⟩ fun C=>?_)
  refine W1 3 kr O ?_
  refine Cl B O O W9 (eY D aJ bG A M Q) ⟨O,tv⟩ fun v a w F B=>?_
  obtain⟨vr18_labels,vr18_left,aJ6,rfl,A⟩:=F
  have A:=r10 A
  refine aB (aF ⟨gp0 A,gp 8 A O,gp 9 A O,tv⟩ fun C=>?_)
  refine W1 6 kr O ?_
  refine aV (wk0 O) O B A O O O 6 O iO.size_ O (aP ⟨(aC.one A 3 O),(aC.one A 4 O),(aC.one A 5 O),tv⟩) [vr17_labels,vr17_left,aJ5] O ?_
  intro w A
  have A:=r10 A
  refine aB (aF ⟨gp0 A,gp 8 A O,gp 9 A O,tv⟩ fun C=>?_)
  refine W1 7 kr O ?_
  refine aV (wk0 O) O B A O O O 7 O iO.size_ O (aP ⟨(aC.one A 0 O),(aC.one A 1 O),(aC.one A 2 O),tv⟩) [vr18_labels,vr18_left,aJ6] O ?_
  intro w A
  have A:=r10 A
  refine aB (aF ⟨gp0 A,gp 8 A O,gp 9 A O,tv⟩ fun C=>?_)
  exact bT kr ⟨_,_,_,_,_,_,_,_,B.cut ⟨O,O,tv⟩,((((((((((A.get 9 O).get 9 O).get 7 O).get 7 O).get 7 O).get 7 O).get 7 O).get 7 O).get 8 O).get 9 O)⟩
 rintro a w ⟨y11,y10,y7,y8,y9,y4,y5,y6,B,A⟩
 refine aG (aA ?_)
 refine V B A O (xf B jT O O) fun a B=>V B A O (xl B lM 1 O O O O) fun a B=>V B A O (bW O B O (aC.len A 5 O uF)) fun a B=>V B A O (xf B jT O O) fun a B=>V B A O (xl B lM 0 O O O O) fun a B=>V B A O (bW O B O (aC.len A 2 O uF)) fun a B=>?_
 obtain⟨x3,ex3,U⟩:=bnd U
 refine s_call (wk0 O) O O B O [(Iv (R.labels.length:Int)),(Iv (M.labels.length:Int))] ⟨O,O,tv⟩ ent91 (J5 (R.labels.length:Int) (M.labels.length:Int) A x3 ex3) Ret.ret ?_
 intro vr19 a w F B
 obtain⟨u,usr19,rfl,A⟩:=Ret.of F
 have A:=r11 A
 refine S B 1 O fun a B=>aB (aG ?_)
 refine aA (V B A O (aK O B O (fun w K=>aX (cs:=[y4,y5,y6]) iO (Hp.cN 2 O 0 _ (aS O) w K))) fun a B=>?_)
 refine V B A O (aK O B O (fun w K=>aX (cs:=[y7,y8,y9]) iO (Hp.cN 1 O 0 _ (aS O) w K))) fun a B=>S B 1 O fun a B=>?_
 obtain⟨k1,k1a,k1d,A⟩:=(A.get 6 O).lend
 have f1:aH (ρ.un k1) y4 R.labels:=aC.ro k1d k1a
 have A:=r10 A
 obtain⟨k2,k2a,k2d,A⟩:=(A.get 6 O).lend
 have f2:aH ((ρ.un k1).un k2) y5 R.left:=aC.ro k2d k2a
 have A:Hp Z ((ρ.un k1).un k2) (_::_::_::_::_::_::_::_::_::L) w:=A
 obtain⟨k3,k3a,k3d,A⟩:=(A.get 6 O).lend
 have f3:aH (((ρ.un k1).un k2).un k3) y6 R.numbers:=aC.ro k3d k3a
 have A:Hp Z (((ρ.un k1).un k2).un k3) (_::_::_::_::_::_::_::_::L) w:=A
 obtain⟨k4,k4a,k4d,A⟩:=(A.get 3 O).lend
 have f4:aH ((((ρ.un k1).un k2).un k3).un k4) y7 M.labels:=aC.ro k4d k4a
 have A:Hp Z ((((ρ.un k1).un k2).un k3).un k4) (_::_::_::_::_::_::_::L) w:=A
 obtain⟨k5,k5a,k5d,A⟩:=(A.get 3 O).lend
 have f5:aH (((((ρ.un k1).un k2).un k3).un k4).un k5) y8 M.left:=aC.ro k5d k5a
 have A:Hp Z (((((ρ.un k1).un k2).un k3).un k4).un k5) (_::_::_::_::_::_::L) w:=A
 obtain⟨k6,k6a,k6d,A⟩:=(A.get 3 O).lend
 have f6:aH ((((((ρ.un k1).un k2).un k3).un k4).un k5).un k6) y9 M.numbers:=aC.ro k6d k6a
 have A:Hp Z ((((((ρ.un k1).un k2).un k3).un k4).un k5).un k6) (_::_::_::_::_::L) w:=A
 obtain⟨x4,ex4,U⟩:=bnd U
 refine Cl B O O ent92 (aR1 R y4 (aH.mono (aH.mono (aH.mono (aH.mono (aH.mono f1 (PH.le_un _ k2)) (PH.le_un _ k3)) (PH.le_un _ k4)) (PH.le_un _ k5)) (PH.le_un _ k6)) y5 (aH.mono (aH.mono (aH.mono (aH.mono f2 (PH.le_un _ k3)) (PH.le_un _ k4)) (PH.le_un _ k5)) (PH.le_un _ k6)) y6 (aH.mono (aH.mono (aH.mono f3 (PH.le_un _ k4)) (PH.le_un _ k5)) (PH.le_un _ k6)) M y7 (aH.mono (aH.mono f4 (PH.le_un _ k5)) (PH.le_un _ k6)) y8 (aH.mono f5 (PH.le_un _ k6)) y9 f6 x3 vr19 usr19 A x4 ex4) ⟨O,O,O,tv⟩ fun v a w F B=>?_
 obtain⟨b23,b24,b25,rfl,A⟩:=F
 have A:Hp Z ((((((ρ.un k1).un k2).un k3).un k4).un k5).un k6) (Pt b23 (.cells #[y4,y5,y6] 135 (0,0))::Pt b24 (.cells #[y7,y8,y9] 135 (0,0))::Pt b25 (.cells #[vr19] 83 (0,0))::bM 73 3 vr19 usr19 (x4:(List (List Int)))::_::_::_::_::L) w:=A
 refine S B 1 O fun a B=>aB (aG ?_)
 refine aG (aA ?_)
 refine V B A O (aK O B O (fun w K=>aX (cs:=[y4,y5,y6]) iO (Hp.cN 5 O 0 _ (aS O) w K))) fun a B=>?_
 obtain⟨W,ex5,U⟩:=bnd U
 refine s_call (wk0 O) O O B O [(.agg #[y4,y5,y6])] ⟨O,tv⟩ ent93 (I8 R y4 (aH.mono (aH.mono (aH.mono (aH.mono (aH.mono f1 (PH.le_un _ k2)) (PH.le_un _ k3)) (PH.le_un _ k4)) (PH.le_un _ k5)) (PH.le_un _ k6)) y5 (aH.mono (aH.mono (aH.mono (aH.mono f2 (PH.le_un _ k3)) (PH.le_un _ k4)) (PH.le_un _ k5)) (PH.le_un _ k6)) y6 (aH.mono (aH.mono (aH.mono f3 (PH.le_un _ k4)) (PH.le_un _ k5)) (PH.le_un _ k6)) A W ex5) Ret.ret ?_
 intro vr20 a w F B
 obtain⟨u,rfl,A⟩:=Ret.of F
 have A:Hp Z ((((((ρ.un k1).un k2).un k3).un k4).un k5).un k6) (aC 3 vr20 W::_::_::_::_::_::_::_::_::L) w:=A
 refine V B A O (bW O B O (aC.len A 0 O bD)) fun a B=>S B 1 O fun a B=>aB ?_
 obtain⟨b26,hc1,U⟩:=bnd U
 refine dM (fun a w=>Env 92 [(5,(Pv y10 0)),(6,(Pv y11 0)),(7,vr19)] a∧Hp Z ((((((ρ.un k1).un k2).un k3).un k4).un k5).un k6) (aC 3 vr20 W::Pt b23 (.cells #[y4,y5,y6] 135 (0,0))::Pt b24 (.cells #[y7,y8,y9] 135 (0,0))::Pt b25 (.cells #[vr19] 83 (0,0))::bM 73 3 vr19 usr19 (b26:(List (List Int)))::Pt y11 (.cells #[y7,y8,y9] 135 (0,0))::Pt y10 (.cells #[y4,y5,y6] 135 (0,0))::Pt b2 (.cells #[(Iv D.kind),(.string D.text),(Iv D.at_),(Iv D.fin),aJ] 24 (0,0))::Pt b1 (.cells #[(Iv E.kind),(.string E.text),(Iv E.at_),(Iv E.fin),aI] 24 (0,0))::L) w) ?_ ?_
 ·refine eQ hc1 (fun s a w=>Env 92 [(5,(Pv y10 0)),(6,(Pv y11 0)),(7,vr19),(8,(.func (.func 105) #[] #[(Pv b23 0),(Pv b24 0),(Pv b25 0)])),(34,vr20),(35,(Iv (W.length:Int))),(36,(Iv s.1))] a∧Hp Z ((((((ρ.un k1).un k2).un k3).un k4).un k5).un k6) (aC 3 vr20 W::Pt b23 (.cells #[y4,y5,y6] 135 (0,0))::Pt b24 (.cells #[y7,y8,y9] 135 (0,0))::Pt b25 (.cells #[vr19] 83 (0,0))::bM 73 3 vr19 usr19 (s.2:(List (List Int)))::Pt y11 (.cells #[y7,y8,y9] 135 (0,0))::Pt y10 (.cells #[y4,y5,y6] 135 (0,0))::Pt b2 (.cells #[(Iv D.kind),(.string D.text),(Iv D.at_),(Iv D.fin),aJ] 24 (0,0))::Pt b1 (.cells #[(Iv E.kind),(.string E.text),(Iv E.at_),(Iv E.fin),aI] 24 (0,0))::L) w) ?_ ?_
  ·exact⟨B.cut ⟨O,O,O,O,O,O,O,tv⟩,A⟩
  rintro⟨aQ,aU⟩ st a w ⟨B,A⟩ H
  dsimp only at B A H
  unfold oO at H
  refine aG (aA ?_)
  refine S B 1 O fun a B=>aB (aG ?_)
  refine dK B O (fun m=>?_) (fun m=>?_)
  ·replace H:=(it m).symm.trans H
   refine bI (aG ?_)
   refine dN (aG ?_)
   refine aA ?_
   obtain⟨n,ex6,H⟩:=bnd H
   obtain⟨b27,b27o,b27r,b27v,b27f⟩:=aC.at A 0 O bD ex6
   refine V B A O (aO O B O O b27r) fun a B=>V B A O (aK O B O (fun w K=>aZ aW (b27f 0 _ O _ _ w (K.get 0 O)))) fun a B=>S B 1 O fun a B=>aB (aG ?_)
   refine aA (V B A O (aK O B O (fun w K=>aX (cs:=[y7,y8,y9]) iO (Hp.cN 5 O 0 _ (aS O) w K))) fun a B=>?_)
   obtain⟨g,ex7,H⟩:=bnd H
   refine s_call (wk0 O) O O B O [(.agg #[y7,y8,y9])] ⟨O,tv⟩ ent93 (I8 M y7 (aH.mono (aH.mono f4 (PH.le_un _ k5)) (PH.le_un _ k6)) y8 (aH.mono f5 (PH.le_un _ k6)) y9 f6 A g ex7) Ret.ret ?_
   intro vr21 a w F B
   obtain⟨u,rfl,A⟩:=Ret.of F
   have A:Hp Z ((((((ρ.un k1).un k2).un k3).un k4).un k5).un k6) (aC 3 vr21 g::_::_::_::_::_::_::_::_::_::L) w:=A
   refine V B A O (bW O B O (aC.len A 0 O bD)) fun a B=>S B 1 O fun a B=>aB ?_
   have B:=B.cut (E':=[(5,(Pv y10 0)),(6,(Pv y11 0)),(7,vr19),(8,(.func (.func 105) #[] #[(Pv b23 0),(Pv b24 0),(Pv b25 0)])),(10,(Iv n)),(34,vr20),(35,(Iv (W.length:Int))),(36,(Iv aQ)),(41,vr21),(42,(Iv (g.length:Int))),(43,(Iv 0))]) ⟨O,O,O,O,O,O,O,O,O,O,O,tv⟩
   obtain⟨b28,hc3,H⟩:=bnd H
   refine dM (fun a w=>Env 92 [(5,(Pv y10 0)),(6,(Pv y11 0)),(7,vr19),(8,(.func (.func 105) #[] #[(Pv b23 0),(Pv b24 0),(Pv b25 0)])),(34,vr20),(35,(Iv (W.length:Int))),(36,(Iv aQ))] a∧Hp Z ((((((ρ.un k1).un k2).un k3).un k4).un k5).un k6) (aC 3 vr21 g::aC 3 vr20 W::Pt b23 (.cells #[y4,y5,y6] 135 (0,0))::Pt b24 (.cells #[y7,y8,y9] 135 (0,0))::Pt b25 (.cells #[vr19] 83 (0,0))::bM 73 3 vr19 usr19 (b28:(List (List Int)))::Pt y11 (.cells #[y7,y8,y9] 135 (0,0))::Pt y10 (.cells #[y4,y5,y6] 135 (0,0))::Pt b2 (.cells #[(Iv D.kind),(.string D.text),(Iv D.at_),(Iv D.fin),aJ] 24 (0,0))::Pt b1 (.cells #[(Iv E.kind),(.string E.text),(Iv E.at_),(Iv E.fin),aI] 24 (0,0))::L) w) ?_ ?_
   ·refine eQ hc3 (fun s a w=>Env 92 [(5,(Pv y10 0)),(6,(Pv y11 0)),(7,vr19),(8,(.func (.func 105) #[] #[(Pv b23 0),(Pv b24 0),(Pv b25 0)])),(10,(Iv n)),(34,vr20),(35,(Iv (W.length:Int))),(36,(Iv aQ)),(41,vr21),(42,(Iv (g.length:Int))),(43,(Iv s.1))] a∧Hp Z ((((((ρ.un k1).un k2).un k3).un k4).un k5).un k6) (aC 3 vr21 g::aC 3 vr20 W::Pt b23 (.cells #[y4,y5,y6] 135 (0,0))::Pt b24 (.cells #[y7,y8,y9] 135 (0,0))::Pt b25 (.cells #[vr19] 83 (0,0))::bM 73 3 vr19 usr19 (s.2:(List (List Int)))::Pt y11 (.cells #[y7,y8,y9] 135 (0,0))::Pt y10 (.cells #[y4,y5,y6] 135 (0,0))::Pt b2 (.cells #[(Iv D.kind),(.string D.text),(Iv D.at_),(Iv D.fin),aJ] 24 (0,0))::Pt b1 (.cells #[(Iv E.kind),(.string E.text),(Iv E.at_),(Iv E.fin),aI] 24 (0,0))::L) w) ?_ ?_
    ·exact⟨B.cut ⟨O,O,O,O,O,O,O,O,O,O,O,tv⟩,A⟩
    rintro⟨bP,eP⟩ st a w ⟨B,A⟩ J
    dsimp only at B A J
    unfold oP at J
    refine aG (aA ?_)
    refine S B 1 O fun a B=>aB (aG ?_)
    refine dK B O (fun l=>?_) (fun l=>?_)
    ·replace J:=(it l).symm.trans J
     refine bI (aG ?_)
     refine dN (aG ?_)
     refine aA ?_
     obtain⟨x8,ex8,J⟩:=bnd J
     obtain⟨b29,b29o,b29r,b29v,b29f⟩:=aC.at A 0 O bD ex8
     refine V B A O (aO O B O O b29r) fun a B=>V B A O (aK O B O (fun w K=>aZ aW (b29f 0 _ O _ _ w (K.get 0 O)))) fun a B=>S B 1 O fun a B=>aB ?_
     have B:=B.cut (E':=[(5,(Pv y10 0)),(6,(Pv y11 0)),(7,vr19),(8,(.func (.func 105) #[] #[(Pv b23 0),(Pv b24 0),(Pv b25 0)])),(10,(Iv n)),(12,(Iv x8)),(34,vr20),(35,(Iv (W.length:Int))),(36,(Iv aQ)),(41,vr21),(42,(Iv (g.length:Int))),(43,(Iv bP))]) ⟨O,O,O,O,O,O,O,O,O,O,O,O,tv⟩
     refine aA (S B 3 O fun a B=>?_)
     obtain⟨x9,ex9,J⟩:=bnd J
     refine rZ (wk0 O) O O B O O [(Iv n),(Iv x8)] ⟨O,O,tv⟩ ent105 (aP5 n x8 b23 R y4 (aH.mono (aH.mono (aH.mono (aH.mono (aH.mono f1 (PH.le_un _ k2)) (PH.le_un _ k3)) (PH.le_un _ k4)) (PH.le_un _ k5)) (PH.le_un _ k6)) y5 (aH.mono (aH.mono (aH.mono (aH.mono f2 (PH.le_un _ k3)) (PH.le_un _ k4)) (PH.le_un _ k5)) (PH.le_un _ k6)) y6 (aH.mono (aH.mono (aH.mono f3 (PH.le_un _ k4)) (PH.le_un _ k5)) (PH.le_un _ k6)) b24 M y7 (aH.mono (aH.mono f4 (PH.le_un _ k5)) (PH.le_un _ k6)) y8 (aH.mono f5 (PH.le_un _ k6)) y9 f6 b25 eP vr19 usr19 ((((A.get 5 O).get 5 O).get 5 O).get 5 O) x9 ex9) Ret.ret ?_
     intro v a w F B
     obtain⟨rfl,A⟩:=Ret.of F
     have A:Hp Z ((((((ρ.un k1).un k2).un k3).un k4).un k5).un k6) (_::_::_::bM 73 3 vr19 usr19 (x9:(List (List Int)))::_::_::_::_::_::_::L) w:=A
     refine aB (aA ?_)
     obtain⟨x10,ex10,J⟩:=bnd J
     refine V B A O (bF O B O O (aN ex10)) fun a B=>S B 1 O fun a B=>aB ?_
     exact⟨_,(oj J).symm,B.cut ⟨O,O,O,O,O,O,O,O,O,O,O,tv⟩,((((((((((A.get 9 O).get 9 O).get 9 O).get 9 O).get 7 O).get 7 O).get 7 O).get 7 O).get 9 O).get 9 O)⟩
    replace J:=(ie l).symm.trans J
    refine dZ ?_
    refine⟨_,(oj J).symm,fun hbb=>?_⟩
    subst hbb
    exact⟨B.cut ⟨O,O,O,O,O,O,O,tv⟩,A⟩
   rintro a w ⟨B,A⟩
   refine aA ?_
   obtain⟨x11,ex11,H⟩:=bnd H
   refine V B A O (bF O B O O (aN ex11)) fun a B=>S B 1 O fun a B=>aB ?_
   exact⟨_,(oj H).symm,B.cut ⟨O,O,O,O,O,O,O,tv⟩,(A.drop)⟩
  replace H:=(ie m).symm.trans H
  refine dZ ?_
  refine⟨_,(oj H).symm,fun hbb=>?_⟩
  subst hbb
  exact⟨B.cut ⟨O,O,O,tv⟩,A⟩
 rintro a w ⟨B,A⟩
 refine aG (aA ?_)
 refine V B A O (xf B jT O O) fun a B=>V B A O (xl B lM 6 O O O O) fun a B=>V B A O (bW O B O (aH.len (aH.mono (aH.mono (aH.mono (aH.mono (aH.mono f1 (PH.le_un _ k2)) (PH.le_un _ k3)) (PH.le_un _ k4)) (PH.le_un _ k5)) (PH.le_un _ k6)) uF)) fun a B=>V B A O (xf B jT O O) fun a B=>V B A O (xl B lM 5 O O O O) fun a B=>V B A O (bW O B O (aH.len (aH.mono (aH.mono f4 (PH.le_un _ k5)) (PH.le_un _ k6)) uF)) fun a B=>?_
 obtain⟨q,ex12,U⟩:=bnd U
 refine s_call (wk0 O) O O B O [(Iv (R.labels.length:Int)),(Iv (M.labels.length:Int))] ⟨O,O,tv⟩ ent91 (J5 (R.labels.length:Int) (M.labels.length:Int) A q ex12) Ret.ret ?_
 intro vr22 a w F B
 obtain⟨u,usr22,rfl,A⟩:=Ret.of F
 have A:Hp Z ((((((ρ.un k1).un k2).un k3).un k4).un k5).un k6) (bM 73 3 vr22 usr22 (q:(List (List Int)))::_::_::_::_::bM 73 3 vr19 usr19 (b26:(List (List Int)))::_::_::_::_::L) w:=A
 refine S B 1 O fun a B=>aB ?_
 have B:=B.cut (E':=[(5,(Pv y10 0)),(6,(Pv y11 0)),(7,vr19),(13,vr22)]) ⟨O,O,O,O,tv⟩
 refine aG (aG ?_)
 refine aA (S B 1 O fun a B=>?_)
 refine V B A O (bW O B O (bM.len A 5 O iE)) fun a B=>S B 1 O fun a B=>aB ?_
 obtain⟨b30,hc5,U⟩:=bnd U
 refine dM (fun a w=>Env 92 [(13,vr22)] a∧Hp Z ((((((ρ.un k1).un k2).un k3).un k4).un k5).un k6) (bM 73 3 vr22 usr22 (b30:(List (List Int)))::aC 3 vr20 W::Pt b23 (.cells #[y4,y5,y6] 135 (0,0))::Pt b24 (.cells #[y7,y8,y9] 135 (0,0))::Pt b25 (.cells #[vr19] 83 (0,0))::bM 73 3 vr19 usr19 (b26:(List (List Int)))::Pt y11 (.cells #[y7,y8,y9] 135 (0,0))::Pt y10 (.cells #[y4,y5,y6] 135 (0,0))::Pt b2 (.cells #[(Iv D.kind),(.string D.text),(Iv D.at_),(Iv D.fin),aJ] 24 (0,0))::Pt b1 (.cells #[(Iv E.kind),(.string E.text),(Iv E.at_),(Iv E.fin),aI] 24 (0,0))::L) w) ?_ ?_
 ·refine eQ hc5 (fun s a w=>Env 92 [(5,(Pv y10 0)),(6,(Pv y11 0)),(13,vr22),(60,vr19),(61,(Iv (b26.length:Int))),(62,(Iv s.1))] a∧Hp Z ((((((ρ.un k1).un k2).un k3).un k4).un k5).un k6) (bM 73 3 vr22 usr22 (s.2:(List (List Int)))::aC 3 vr20 W::Pt b23 (.cells #[y4,y5,y6] 135 (0,0))::Pt b24 (.cells #[y7,y8,y9] 135 (0,0))::Pt b25 (.cells #[vr19] 83 (0,0))::bM 73 3 vr19 usr19 (b26:(List (List Int)))::Pt y11 (.cells #[y7,y8,y9] 135 (0,0))::Pt y10 (.cells #[y4,y5,y6] 135 (0,0))::Pt b2 (.cells #[(Iv D.kind),(.string D.text),(Iv D.at_),(Iv D.fin),aJ] 24 (0,0))::Pt b1 (.cells #[(Iv E.kind),(.string E.text),(Iv E.at_),(Iv E.fin),aI] 24 (0,0))::L) w) ?_ ?_
  ·exact⟨B.cut ⟨O,O,O,O,O,O,tv⟩,A⟩
  rintro⟨dR,vH⟩ st a w ⟨B,A⟩ I
  dsimp only at B A I
  unfold oQ at I
  refine aG (aA ?_)
  refine S B 1 O fun a B=>aB (aG ?_)
  refine dK B O (fun k=>?_) (fun k=>?_)
  ·replace I:=(it k).symm.trans I
   refine bI (aG ?_)
   refine dN (aG ?_)
   refine aA (S B 1 O fun a B=>?_)
   obtain⟨p,Y,I⟩:=bnd I
   obtain⟨b31u,b31,b31o,b31h,b31r,b31v,b31f⟩:=bM.hdr A 5 O iE Y
   refine V B A O (aO O B O O b31r) fun a B=>V B A O (aK O B O (fun w K=>aZ aT (b31f 0 _ O _ _ w (K.get 5 O)))) fun a B=>S B 2 O fun a B=>aB (aG ?_)
   refine aA (S B 1 O fun a B=>?_)
   refine V B A O (bW O B O (bM.rlen A 5 O bD b31h Y)) fun a B=>S B 1 O fun a B=>aB ?_
   obtain⟨b32,hc7,I⟩:=bnd I
   refine dM (fun a w=>Env 92 [(5,(Pv y10 0)),(6,(Pv y11 0)),(13,vr22),(60,vr19),(61,(Iv (b26.length:Int))),(62,(Iv dR))] a∧Hp Z ((((((ρ.un k1).un k2).un k3).un k4).un k5).un k6) (bM 73 3 vr22 usr22 (b32:(List (List Int)))::aC 3 vr20 W::Pt b23 (.cells #[y4,y5,y6] 135 (0,0))::Pt b24 (.cells #[y7,y8,y9] 135 (0,0))::Pt b25 (.cells #[vr19] 83 (0,0))::bM 73 3 vr19 usr19 (b26:(List (List Int)))::Pt y11 (.cells #[y7,y8,y9] 135 (0,0))::Pt y10 (.cells #[y4,y5,y6] 135 (0,0))::Pt b2 (.cells #[(Iv D.kind),(.string D.text),(Iv D.at_),(Iv D.fin),aJ] 24 (0,0))::Pt b1 (.cells #[(Iv E.kind),(.string E.text),(Iv E.at_),(Iv E.fin),aI] 24 (0,0))::L) w) ?_ ?_
   ·refine eQ hc7 (fun s a w=>Env 92 [(5,(Pv y10 0)),(6,(Pv y11 0)),(13,vr22),(14,(Iv dR)),(60,vr19),(61,(Iv (b26.length:Int))),(62,(Iv dR)),(67,(Sl.v b31u)),(68,(Iv (p.length:Int))),(69,(Iv s.1))] a∧Hp Z ((((((ρ.un k1).un k2).un k3).un k4).un k5).un k6) (bM 73 3 vr22 usr22 (s.2:(List (List Int)))::aC 3 vr20 W::Pt b23 (.cells #[y4,y5,y6] 135 (0,0))::Pt b24 (.cells #[y7,y8,y9] 135 (0,0))::Pt b25 (.cells #[vr19] 83 (0,0))::bM 73 3 vr19 usr19 (b26:(List (List Int)))::Pt y11 (.cells #[y7,y8,y9] 135 (0,0))::Pt y10 (.cells #[y4,y5,y6] 135 (0,0))::Pt b2 (.cells #[(Iv D.kind),(.string D.text),(Iv D.at_),(Iv D.fin),aJ] 24 (0,0))::Pt b1 (.cells #[(Iv E.kind),(.string E.text),(Iv E.at_),(Iv E.fin),aI] 24 (0,0))::L) w) ?_ ?_
    ·exact⟨B.cut ⟨O,O,O,O,O,O,O,O,O,O,tv⟩,A⟩
    rintro⟨fZ,jK⟩ st a w ⟨B,A⟩ G
    dsimp only at B A G
    unfold oU at G
    refine aG (aA ?_)
    refine S B 1 O fun a B=>aB (aG ?_)
    refine dK B O (fun j=>?_) (fun j=>?_)
    ·replace G:=(it j).symm.trans G
     refine bI (aG ?_)
     refine dN (aG ?_)
     refine aA (S B 1 O fun a B=>?_)
     obtain⟨i,ex14,G⟩:=bnd G
     obtain⟨b33,b33o,b33r,b33v,b33f⟩:=bM.at A 5 O bD b31h Y ex14
     refine V B A O (aO O B O O b33r) fun a B=>V B A O (aK O B O (fun w K=>aZ aW (b33f 0 _ O _ _ w (K.get 5 O)))) fun a B=>S B 2 O fun a B=>aB ?_
     obtain⟨e,z,G⟩:=bnd G
     obtain⟨o,X,G⟩:=bnd G
     obtain⟨d,y,G⟩:=bnd G
     obtain⟨x18,f,G⟩:=bnd G
     have A:=A.drew
     refine gK ([([],At0 Z ((((((ρ.un k1).un k2).un k3).un k4).un k5).un k6)),([15],At1 Z ((((((ρ.un k1).un k2).un k3).un k4).un k5).un k6) (bM 73 3 vr22 usr22 (jK:(List (List Int))))),([],At1 Z ((((((ρ.un k1).un k2).un k3).un k4).un k5).un k6) (Pt y11 (.cells #[y7,y8,y9] 135 (0,0)))),([],At1 Z ((((((ρ.un k1).un k2).un k3).un k4).un k5).un k6) (Pt y10 (.cells #[y4,y5,y6] 135 (0,0))))]:Facts) (fun a w=>Env 92 [(5,(Pv y10 0)),(6,(Pv y11 0)),(13,vr22),(14,(Iv dR)),(60,vr19),(61,(Iv (b26.length:Int))),(62,(Iv dR)),(67,(Sl.v b31u)),(68,(Iv (p.length:Int))),(69,(Iv fZ))] a∧Hp Z ((((((ρ.un k1).un k2).un k3).un k4).un k5).un k6) (bM 73 3 vr22 usr22 (jK.set e.toNat (o.set d.toNat i):(List (List Int)))::aC 3 vr20 W::Pt b23 (.cells #[y4,y5,y6] 135 (0,0))::Pt b24 (.cells #[y7,y8,y9] 135 (0,0))::Pt b25 (.cells #[vr19] 83 (0,0))::bM 73 3 vr19 usr19 (b26:(List (List Int)))::Pt y11 (.cells #[y7,y8,y9] 135 (0,0))::Pt y10 (.cells #[y4,y5,y6] 135 (0,0))::Pt b2 (.cells #[(Iv D.kind),(.string D.text),(Iv D.at_),(Iv D.fin),aJ] 24 (0,0))::Pt b1 (.cells #[(Iv E.kind),(.string E.text),(Iv E.at_),(Iv E.fin),aI] 24 (0,0))::L) w) kr ⟨fun _=>⟨_,A⟩,fun _=>⟨_,(A.get 0 O)⟩,fun _=>⟨_,(A.get 6 O)⟩,fun _=>⟨_,(A.get 7 O)⟩,tv⟩ (fun C=>?_) ?_
     ·
      generalize w.drew=w at C A⊢
      refine Ts [0] B C O O kr fun a B C=>T0 1 B C O O O kr (fun _=>xf B kP O O) fun a B C=>T 2 3 B C O O O kr (fun _=>xl B aT 0 O O O O) fun a B C=>Ts [3] B C O O kr fun a B C=>?_
      obtain⟨b38,b38o,b38c,b38r,b38k,b38f⟩:=aH.at (aH.mono (aH.mono (aH.mono f3 (PH.le_un _ k4)) (PH.le_un _ k5)) (PH.le_un _ k6)) bD z
      obtain rfl:b38c=Enc.enc e:=b38k
      have b38f:AtP ((((((ρ.un k1).un k2).un k3).un k4).un k5).un k6) b38 b38o [(Iv e)]:=b38f
      refine T0 4 B C O O O kr (fun _=>aO O B O O b38r) fun a B C=>T0 5 B C O O O kr (fun _=>aK O B O (fun w K=>aZ aW (b38f.c 0 O w K))) fun a B C=>?_
      obtain⟨b39u,b39,b39o,b39h,b39r,b39v,b39f⟩:=bM.hdr A 0 O iE X
      refine T0 6 B C O O O kr (fun _=>aO O B O O b39r) fun a B C=>T 7 1 B C O O O kr (fun _=>aK O B O (fun w K=>aZ aT (b39f 0 _ O _ _ w (K.get 0 O)))) fun a B C=>T0 8 B C O O O kr (fun _=>xf B kP O O) fun a B C=>T 9 2 B C O O O kr (fun _=>xl B aT 0 O O O O) fun a B C=>Ts [10] B C O O kr fun a B C=>?_
      obtain⟨b40,b40o,b40c,b40r,b40k,b40f⟩:=aH.at f6 bD y
      obtain rfl:b40c=Enc.enc d:=b40k
      have b40f:AtP ((((((ρ.un k1).un k2).un k3).un k4).un k5).un k6) b40 b40o [(Iv d)]:=b40f
      refine T0 11 B C O O O kr (fun _=>aO O B O O b40r) fun a B C=>T0 12 B C O O O kr (fun _=>aK O B O (fun w K=>aZ aW (b40f.c 0 O w K))) fun a B C=>Ts [13] B C O O kr fun a B C=>?_
      obtain⟨b41,b41o,b41r,b41v,b41f⟩:=bM.at A 0 O bD b39h X f
      refine T0 14 B C O O O kr (fun _=>aO O B O O b41r) fun a B C=>?_
      refine W1 15 kr O ?_
      refine yA (wk0 O) O B A O O O 0 O b39h X f b41v 0 (e':=i) aW.size_ O O O ⟨O,O⟩ ?_
      intro w A
      have A:Hp Z ((((((ρ.un k1).un k2).un k3).un k4).un k5).un k6) (bM 73 3 vr22 usr22 (jK.set e.toNat (o.set d.toNat i):(List (List Int)))::_::_::_::_::_::_::_::_::_::L) w:=A
      refine aB (aF ⟨gp0 A,dead kr,gp 6 A O,gp 7 A O,tv⟩ fun C=>?_)
      exact bT kr ⟨B.cut ⟨O,O,O,O,O,O,O,O,O,O,tv⟩,A⟩
     rintro a w ⟨B,A⟩
     refine aA ?_
     obtain⟨x19,x,G⟩:=bnd G
     refine V B A O (bF O B O O (aN x)) fun a B=>S B 1 O fun a B=>aB ?_
     exact⟨_,(oj G).symm,B.cut ⟨O,O,O,O,O,O,O,O,O,O,tv⟩,A⟩
    replace G:=(ie j).symm.trans G
    refine dZ ?_
    refine⟨_,(oj G).symm,fun hbb=>?_⟩
    subst hbb
    exact⟨B.cut ⟨O,O,O,O,O,O,tv⟩,A⟩
   rintro a w ⟨B,A⟩
   refine aA ?_
   obtain⟨x20,t,I⟩:=bnd I
   refine V B A O (bF O B O O (aN t)) fun a B=>S B 1 O fun a B=>aB ?_
   exact⟨_,(oj I).symm,B.cut ⟨O,O,O,O,O,O,tv⟩,A⟩
  replace I:=(ie k).symm.trans I
  refine dZ ?_
  refine⟨_,(oj I).symm,fun hbb=>?_⟩
  subst hbb
  exact⟨B.cut ⟨O,tv⟩,A⟩
 rintro a w ⟨B,A⟩
 refine aG (aA ?_)
 refine S B 2 O fun a B=>aB (cZ ?_)
 obtain rfl:=oj U
 exact gY B O O ⟨_,O,_,_,O,((((((((((((((((((((((((A.get 9 O).drop).get 8 O).drop).get 7 O).drop).get 6 O).drop).get 5 O).drop).get 4 O).drop).get 3 O).drop).get 2 O).drop).get 1 O).drop).less (PH.le_un _ k6)).less (PH.le_un _ k5)).less (PH.le_un _ k4)).less (PH.le_un _ k3)).less (PH.le_un _ k2)).less (PH.le_un _ k1))⟩
theorem aP4 {Z:World} {ρ:PH} {L:List bQ} {w:World} (B:Node) (aI:Value) (aY:aH ρ aI B.kids) (A:Node) (aJ:Value) (bG:aH ρ aJ A.kids) (C:Hp Z ρ (L) w) (r:((List (List Int))×Int)) (F:sV B A=some r):
  Calls Tryz.prog 48 #[(.agg #[(Iv B.kind),(.string B.text),(Iv B.at_),(Iv B.fin),aI]),(.agg #[(Iv A.kind),(.string A.text),(Iv A.at_),(Iv A.fin),aJ])] w (Ret fun v w'=>∃(vr1:Value) (usr1:List Sl),v= .tuple #[vr1,(Iv r.2)]∧Hp Z ρ (bM 73 3 vr1 usr1 (r.1:(List (List Int)))::L) w'):=by
 refine enter (N:=13) Tryz.func48 O O [(0,(.agg #[(Iv B.kind),(.string B.text),(Iv B.at_),(Iv B.fin),aI])),(1,(.agg #[(Iv A.kind),(.string A.text),(Iv A.at_),(Iv A.fin),aJ]))] O (bH ⟨O,O,tv⟩) fun a D=>?_
 unfold sV at F
 refine aG (aA ?_)
 refine iH (wk0 O) O O D C O (v:=(.agg #[(Iv B.kind),(.string B.text),(Iv B.at_),(Iv B.fin),aI])) O ?_
 intro a w b1 D C
 have C:=r1 C
 refine iH (wk0 O) O O D C O (v:=(.agg #[(Iv A.kind),(.string A.text),(Iv A.at_),(Iv A.fin),aJ])) O ?_
 intro a w b2 D C
 have C:=r2 C
 refine S D 2 O fun a D=>aB (aG ?_)
 refine aG (aA ?_)
 refine V D C O (aK O D O (fun w G=>aX (cs:=[(Iv B.kind),(.string B.text),(Iv B.at_),(Iv B.fin),aI]) cO (Hp.cN 1 O 0 _ (aS O) w G))) fun a D=>V D C O (aK O D O (fun w G=>aX (cs:=[(Iv A.kind),(.string A.text),(Iv A.at_),(Iv A.fin),aJ]) cO (Hp.cN 0 O 0 _ (aS O) w G))) fun a D=>?_
 refine fU (wk0 O) O O D C O [(0,(.agg #[(Iv B.kind),(.string B.text),(Iv B.at_),(Iv B.fin),aI])),(1,(.agg #[(Iv A.kind),(.string A.text),(Iv A.at_),(Iv A.fin),aJ]))] ⟨⟨O,O⟩,⟨O,O⟩,tv⟩ [(Iv B.kind),(.string B.text),(Iv B.at_),(Iv B.fin),aI,(Iv A.kind),(.string A.text),(Iv A.at_),(Iv A.fin),aJ] 24 (fun w=>by have H:=aH.cells aY;simp only[Value.cells] at H;have E:=aH.cells bG;simp only[Value.cells] at E;simp[Instr.buildSlice,Instr.fill,Value.cells,H,E,go_sem]) ?_
 intro a w b3 D C
 have C:=r3 C
 obtain⟨k1,k1a,k1d,C⟩:=(C.get 0 O).lend
 have f1:aH (ρ.un k1) (.slice (some ⟨b3,0,none⟩) 2 2) ([B,A]:List Node):=aH.of_all (l:=(([B,A]:List Node))) k1d k1a ⟨_,_,O,(show NodeAt (ρ.un k1) B [(Iv B.kind),(.string B.text),(Iv B.at_),(Iv B.fin),aI] from NodeAt.shutv ((aH.mono aY (PH.le_un _ k1)))),⟨_,_,O,(show NodeAt (ρ.un k1) A [(Iv A.kind),(.string A.text),(Iv A.at_),(Iv A.fin),aJ] from NodeAt.shutv ((aH.mono bG (PH.le_un _ k1)))),O⟩⟩
 have C:=r2 C
 obtain⟨Q,K,F⟩:=bnd F
 refine Cl D O O ent67 (aS8 ([B,A]:List Node) (.slice (some ⟨b3,0,none⟩) 2 2) f1 C Q K) ⟨O,tv⟩ fun v a w I D=>?_
 obtain⟨rfl,C⟩:=I
 have C:=r2 C
 refine aB ?_
 refine dK D O (fun E=>?_) (fun E=>?_)
 ·replace F:=(it E).symm.trans F
  refine aG (aA ?_)
  refine S D 2 O fun a D=>aB (cZ ?_)
  have C:=C.emp (bM.none (α:=Int) 73 3 none)
  have C:=r3 C
  obtain rfl:=oj F
  exact N7 D O O O ⟨_,O,_,_,O,(((((C.get 2 O).drop).get 1 O).drop).less (PH.le_un _ k1))⟩
 replace F:=(ie E).symm.trans F
 refine bI (aG ?_)
 refine aA (V D C O (aK O D O (fun w G=>aX (cs:=[(Iv B.kind),(.string B.text),(Iv B.at_),(Iv B.fin),aI]) cO (Hp.cN 1 O 0 _ (aS O) w G))) fun a D=>?_)
 refine V D C O (aK O D O (fun w G=>aX (cs:=[(Iv A.kind),(.string A.text),(Iv A.at_),(Iv A.fin),aJ]) cO (Hp.cN 0 O 0 _ (aS O) w G))) fun a D=>?_
 obtain⟨M,J,F⟩:=bnd F
 refine s_call (wk0 O) O O D O [(.agg #[(Iv B.kind),(.string B.text),(Iv B.at_),(Iv B.fin),aI]),(.agg #[(Iv A.kind),(.string A.text),(Iv A.at_),(Iv A.fin),aJ])] ⟨O,O,tv⟩ ent68 (aP6 B aI (aH.mono aY (PH.le_un _ k1)) A aJ (aH.mono bG (PH.le_un _ k1)) C M J) Ret.ret ?_
 intro vr2 a w I D
 obtain⟨u,usr2,rfl,C⟩:=Ret.of I
 have C:=r3 C
 refine S D 2 O fun a D=>aB (cZ ?_)
 obtain rfl:=oj F
 exact N7 D O O O ⟨_,O,_,_,O,(((((C.get 2 O).drop).get 1 O).drop).less (PH.le_un _ k1))⟩
end Go.Proofs.YtopnldfjcciieaaGreat

/- The code goes as its model: assessor/distance.subtrees, assessor/distance.Subtrees. (Printed by wip/sp/gen.py.) -/
import Derived.Test.YtopnldfjcciieaaGreatKFoT
import Derived.Test.YtopnldfjcciieaaGreatKFo3
import Derived.Test.YtopnldfjcciieaaGreatKFo5
import Derived.Test.YtopnldfjcciieaaGreatKFo13
set_option linter.unusedVariables false
set_option linter.unusedSimpArgs false
set_option maxRecDepth 100000
set_option maxHeartbeats 4000000
namespace Go.Proofs.YtopnldfjcciieaaGreat
open Go.RowKit
theorem aH6 {Z:World} {ρ:PH} {L:List bK} {w:World} (p0:Node) (aI:Value) (bD:aH ρ aI p0.kids) (p1:Node) (aJ:Value) (bH:aH ρ aJ p1.kids) (hp:Hp Z ρ (L) w) (r:(List (List Int))) (hm:xM p0 p1=some r):
  Calls Tryz.prog 68 #[(.agg #[(Iv p0.kind),(.string p0.text),(Iv p0.at_),(Iv p0.fin),aI]),(.agg #[(Iv p1.kind),(.string p1.text),(Iv p1.at_),(Iv p1.fin),aJ])] w (Ret fun v w'=>∃(vr1:Value) (usr1:List Sl),v=vr1∧Hp Z ρ (cO 73 3 vr1 usr1 (r:(List (List Int)))::L) w'):=by
 refine enter (N:=92) Tryz.func68 rfl rfl [(0,(.agg #[(Iv p0.kind),(.string p0.text),(Iv p0.at_),(Iv p0.fin),aI])),(1,(.agg #[(Iv p1.kind),(.string p1.text),(Iv p1.at_),(Iv p1.fin),aJ]))] rfl (bC ⟨rfl,rfl,trivial⟩) fun a hE=>?_
 unfold xM at hm
 refine aG (aA ?_)
 refine iI (wk0 rfl) rfl rfl hE hp rfl (v:=(.agg #[(Iv p0.kind),(.string p0.text),(Iv p0.at_),(Iv p0.fin),aI])) rfl ?_
 intro a w b1 hE hp
 have hp:=r1 hp
 refine iI (wk0 rfl) rfl rfl hE hp rfl (v:=(.agg #[(Iv p1.kind),(.string p1.text),(Iv p1.at_),(Iv p1.fin),aJ])) rfl ?_
 intro a w b2 hE hp
 have hp:=r2 hp
 refine S hE 1 rfl fun a hE=>aB (aG ?_)
 obtain⟨x1,ex1,hm⟩:=bnd hm
 obtain⟨x2,ex2,hm⟩:=bnd hm
 have hp:=hp.drew
 refine fG ([([],At0 Z ρ),([],At1 Z ρ (Pt b2 (.cells #[(Iv p1.kind),(.string p1.text),(Iv p1.at_),(Iv p1.fin),aJ] 24 (0,0)))),([],At1 Z ρ (Pt b1 (.cells #[(Iv p0.kind),(.string p0.text),(Iv p0.at_),(Iv p0.fin),aI] 24 (0,0))))]:Facts) (fun a w=>∃y11:Nat,∃y10:Nat,∃y7:Value,∃y8:Value,∃y9:Value,∃y4:Value,∃y5:Value,∃y6:Value,Env 92 [(5,(Pv y10 0)),(6,(Pv y11 0))] a∧Hp Z ρ (Pt y11 (.cells #[y7,y8,y9] 135 (0,0))::Pt y10 (.cells #[y4,y5,y6] 135 (0,0))::aC 156 y7 x2.labels::aC 3 y8 x2.left::aC 3 y9 x2.numbers::aC 156 y4 x1.labels::aC 3 y5 x1.left::aC 3 y6 x1.numbers::Pt b2 (.cells #[(Iv p1.kind),(.string p1.text),(Iv p1.at_),(Iv p1.fin),aJ] 24 (0,0))::Pt b1 (.cells #[(Iv p0.kind),(.string p0.text),(Iv p0.at_),(Iv p0.fin),aI] 24 (0,0))::L) w) (by kernel_rfl) ⟨fun _=>⟨_,hp⟩,fun _=>⟨_,(hp.get 0 rfl)⟩,fun _=>⟨_,(hp.get 1 rfl)⟩,trivial⟩ (fun hS=>?_) ?_
 ·
  generalize w.drew=w at hS hp⊢
  refine T 0 2 hE hS rfl rfl rfl (by kernel_rfl) (fun _=>aK rfl hE rfl (fun w hw=>aW (cs:=[(Iv p0.kind),(.string p0.text),(Iv p0.at_),(Iv p0.fin),aI]) bY (Hp.cN 0 rfl 0 _ (aS rfl) w hw))) fun a hE hS=>T 2 1 hE hS rfl rfl rfl (by kernel_rfl) (fun _=>aK rfl hE rfl (fun w hw=>aW (cs:=[(Iv p1.kind),(.string p1.text),(Iv p1.at_),(Iv p1.fin),aJ]) bY (Hp.cN 0 rfl 0 _ (aS rfl) w hw))) fun a hE hS=>?_
  refine gW [1,4,5] (by kernel_rfl) rfl ?_
  refine List.forall_mem_cons.2 ⟨?_,List.forall_mem_cons.2 ⟨?_,List.forall_mem_cons.2 ⟨?_,fun _ h=>absurd h (by simp)⟩⟩⟩
  ·
   refine dX rfl ?_
   refine Cl hE rfl rfl I9 (eF p0 aI bD hp x1 ex1) ⟨rfl,trivial⟩ fun v a w hR hE=>?_
   obtain⟨zX,aB4,yT,rfl,hp⟩:=hR
   have hp:=r5 hp
   refine aB (aF ⟨gp0 hp,gp 3 hp rfl,gp 4 hp rfl,trivial⟩ fun hS=>?_)
   refine gW [3,4,5] (by kernel_rfl) rfl ?_
   refine List.forall_mem_cons.2 ⟨?_,List.forall_mem_cons.2 ⟨?_,List.forall_mem_cons.2 ⟨?_,fun _ h=>absurd h (by simp)⟩⟩⟩
   ·
    refine dX rfl ?_
    refine Cl hE rfl rfl I9 (eF p1 aJ bH hp x2 ex2) ⟨rfl,trivial⟩ fun v a w hR hE=>?_
    obtain⟨vr4_labels,vr4_left,vr4_numbers,rfl,hp⟩:=hR
    have hp:=r8 hp
    refine aB (aF ⟨gp0 hp,gp 6 hp rfl,gp 7 hp rfl,trivial⟩ fun hS=>?_)
    refine gW [4,5] (by kernel_rfl) rfl ?_
    refine List.forall_mem_cons.2 ⟨?_,List.forall_mem_cons.2 ⟨?_,fun _ h=>absurd h (by simp)⟩⟩
    ·
     refine dX rfl ?_
     refine dL (wk0 rfl) rfl rfl hE hp rfl [N0,N0,N0] (fun w=>by simp[Instr.alloc,go_sem]<;>rfl) ?_
     intro a w b5 hE hp
     have hp:=r9 hp
     refine aB (aF ⟨gp0 hp,gp 7 hp rfl,gp 8 hp rfl,trivial⟩ fun hS=>?_)
     refine W1 5 (by kernel_rfl) rfl ?_
     refine dL (wk0 rfl) rfl rfl hE hp rfl [N0,N0,N0] (fun w=>by simp[Instr.alloc,go_sem]<;>rfl) ?_
     intro a w b6 hE hp
     have hp:=r10 hp
     refine aB (aF ⟨gp0 hp,gp 8 hp rfl,gp 9 hp rfl,trivial⟩ fun hS=>?_)
     refine W1 6 (by kernel_rfl) rfl ?_
     refine aX (wk0 rfl) rfl hE hp rfl rfl rfl 1 rfl iF.size_ rfl (aQ ⟨(aC.one hp 5 rfl),(aC.one hp 6 rfl),(aC.one hp 7 rfl),trivial⟩) [zX,aB4,yT] rfl ?_
     intro w hp
     have hp:=r10 hp
     refine aB (aF ⟨gp0 hp,gp 8 hp rfl,gp 9 hp rfl,trivial⟩ fun hS=>?_)
     refine W1 7 (by kernel_rfl) rfl ?_
     refine aX (wk0 rfl) rfl hE hp rfl rfl rfl 0 rfl iF.size_ rfl (aQ ⟨(aC.one hp 2 rfl),(aC.one hp 3 rfl),(aC.one hp 4 rfl),trivial⟩) [vr4_labels,vr4_left,vr4_numbers] rfl ?_
     intro w hp
     have hp:=r10 hp
     refine aB (aF ⟨gp0 hp,gp 8 hp rfl,gp 9 hp rfl,trivial⟩ fun hS=>?_)
     exact bP (by kernel_rfl) ⟨_,_,_,_,_,_,_,_,hE.cut ⟨rfl,rfl,trivial⟩,hp⟩
    refine dX rfl ?_
    refine dL (wk0 rfl) rfl rfl hE hp rfl [N0,N0,N0] (fun w=>by simp[Instr.alloc,go_sem]<;>rfl) ?_
    intro a w b7 hE hp
    have hp:=r9 hp
    refine aB (aF ⟨gp0 hp,gp 7 hp rfl,gp 8 hp rfl,trivial⟩ fun hS=>?_)
    refine W1 4 (by kernel_rfl) rfl ?_
    refine dL (wk0 rfl) rfl rfl hE hp rfl [N0,N0,N0] (fun w=>by simp[Instr.alloc,go_sem]<;>rfl) ?_
    intro a w b8 hE hp
    have hp:=r10 hp
    refine aB (aF ⟨gp0 hp,gp 8 hp rfl,gp 9 hp rfl,trivial⟩ fun hS=>?_)
    refine W1 6 (by kernel_rfl) rfl ?_
    refine aX (wk0 rfl) rfl hE hp rfl rfl rfl 0 rfl iF.size_ rfl (aQ ⟨(aC.one hp 5 rfl),(aC.one hp 6 rfl),(aC.one hp 7 rfl),trivial⟩) [zX,aB4,yT] rfl ?_
    intro w hp
    have hp:=r10 hp
    refine aB (aF ⟨gp0 hp,gp 8 hp rfl,gp 9 hp rfl,trivial⟩ fun hS=>?_)
    refine W1 7 (by kernel_rfl) rfl ?_
    refine aX (wk0 rfl) rfl hE hp rfl rfl rfl 1 rfl iF.size_ rfl (aQ ⟨(aC.one hp 2 rfl),(aC.one hp 3 rfl),(aC.one hp 4 rfl),trivial⟩) [vr4_labels,vr4_left,vr4_numbers] rfl ?_
    intro w hp
    have hp:=r10 hp
    refine aB (aF ⟨gp0 hp,gp 8 hp rfl,gp 9 hp rfl,trivial⟩ fun hS=>?_)
    exact bP (by kernel_rfl) ⟨_,_,_,_,_,_,_,_,hE.cut ⟨rfl,rfl,trivial⟩,((((((((((hp.get 9 rfl).get 9 rfl).get 9 rfl).get 9 rfl).get 9 rfl).get 9 rfl).get 9 rfl).get 9 rfl).get 8 rfl).get 9 rfl)⟩
   ·
    refine dX rfl ?_
    refine dL (wk0 rfl) rfl rfl hE hp rfl [N0,N0,N0] (fun w=>by simp[Instr.alloc,go_sem]<;>rfl) ?_
    intro a w b9 hE hp
    have hp:=r6 hp
    refine aB (aF ⟨gp0 hp,gp 4 hp rfl,gp 5 hp rfl,trivial⟩ fun hS=>?_)
    refine gW [3,5] (by kernel_rfl) rfl ?_
    refine List.forall_mem_cons.2 ⟨?_,List.forall_mem_cons.2 ⟨?_,fun _ h=>absurd h (by simp)⟩⟩
    ·
     refine dX rfl ?_
     refine Cl hE rfl rfl I9 (eF p1 aJ bH hp x2 ex2) ⟨rfl,trivial⟩ fun v a w hR hE=>?_
     obtain⟨vr5_labels,vr5_left,vr5_numbers,rfl,hp⟩:=hR
     have hp:=r9 hp
     refine aB (aF ⟨gp0 hp,gp 7 hp rfl,gp 8 hp rfl,trivial⟩ fun hS=>?_)
     refine W1 5 (by kernel_rfl) rfl ?_
     refine dL (wk0 rfl) rfl rfl hE hp rfl [N0,N0,N0] (fun w=>by simp[Instr.alloc,go_sem]<;>rfl) ?_
     intro a w b10 hE hp
     have hp:=r10 hp
     refine aB (aF ⟨gp0 hp,gp 8 hp rfl,gp 9 hp rfl,trivial⟩ fun hS=>?_)
     refine W1 6 (by kernel_rfl) rfl ?_
     refine aX (wk0 rfl) rfl hE hp rfl rfl rfl 4 rfl iF.size_ rfl (aQ ⟨(aC.one hp 5 rfl),(aC.one hp 6 rfl),(aC.one hp 7 rfl),trivial⟩) [zX,aB4,yT] rfl ?_
     intro w hp
     have hp:=r10 hp
     refine aB (aF ⟨gp0 hp,gp 8 hp rfl,gp 9 hp rfl,trivial⟩ fun hS=>?_)
     refine W1 7 (by kernel_rfl) rfl ?_
     refine aX (wk0 rfl) rfl hE hp rfl rfl rfl 0 rfl iF.size_ rfl (aQ ⟨(aC.one hp 1 rfl),(aC.one hp 2 rfl),(aC.one hp 3 rfl),trivial⟩) [vr5_labels,vr5_left,vr5_numbers] rfl ?_
     intro w hp
     have hp:=r10 hp
     refine aB (aF ⟨gp0 hp,gp 8 hp rfl,gp 9 hp rfl,trivial⟩ fun hS=>?_)
     exact bP (by kernel_rfl) ⟨_,_,_,_,_,_,_,_,hE.cut ⟨rfl,rfl,trivial⟩,((((((((((hp.get 9 rfl).get 9 rfl).get 9 rfl).get 9 rfl).get 9 rfl).get 8 rfl).get 8 rfl).get 8 rfl).get 9 rfl).get 9 rfl)⟩
    refine dX rfl ?_
    refine dL (wk0 rfl) rfl rfl hE hp rfl [N0,N0,N0] (fun w=>by simp[Instr.alloc,go_sem]<;>rfl) ?_
    intro a w b11 hE hp
    have hp:=r7 hp
    refine aB (aF ⟨gp0 hp,gp 5 hp rfl,gp 6 hp rfl,trivial⟩ fun hS=>?_)
    refine W1 3 (by kernel_rfl) rfl ?_
    refine Cl hE rfl rfl I9 (eF p1 aJ bH hp x2 ex2) ⟨rfl,trivial⟩ fun v a w hR hE=>?_
    obtain⟨vr6_labels,vr6_left,vr6_numbers,rfl,hp⟩:=hR
    have hp:=r10 hp
    refine aB (aF ⟨gp0 hp,gp 8 hp rfl,gp 9 hp rfl,trivial⟩ fun hS=>?_)
    refine W1 6 (by kernel_rfl) rfl ?_
    refine aX (wk0 rfl) rfl hE hp rfl rfl rfl 4 rfl iF.size_ rfl (aQ ⟨(aC.one hp 5 rfl),(aC.one hp 6 rfl),(aC.one hp 7 rfl),trivial⟩) [zX,aB4,yT] rfl ?_
    intro w hp
    have hp:=r10 hp
    refine aB (aF ⟨gp0 hp,gp 8 hp rfl,gp 9 hp rfl,trivial⟩ fun hS=>?_)
    refine W1 7 (by kernel_rfl) rfl ?_
    refine aX (wk0 rfl) rfl hE hp rfl rfl rfl 3 rfl iF.size_ rfl (aQ ⟨(aC.one hp 0 rfl),(aC.one hp 1 rfl),(aC.one hp 2 rfl),trivial⟩) [vr6_labels,vr6_left,vr6_numbers] rfl ?_
    intro w hp
    have hp:=r10 hp
    refine aB (aF ⟨gp0 hp,gp 8 hp rfl,gp 9 hp rfl,trivial⟩ fun hS=>?_)
    exact bP (by kernel_rfl) ⟨_,_,_,_,_,_,_,_,hE.cut ⟨rfl,rfl,trivial⟩,((((((((((hp.get 9 rfl).get 9 rfl).get 9 rfl).get 9 rfl).get 9 rfl).get 7 rfl).get 7 rfl).get 7 rfl).get 9 rfl).get 9 rfl)⟩
   refine dX rfl ?_
   refine dL (wk0 rfl) rfl rfl hE hp rfl [N0,N0,N0] (fun w=>by simp[Instr.alloc,go_sem]<;>rfl) ?_
   intro a w b12 hE hp
   have hp:=r6 hp
   refine aB (aF ⟨gp0 hp,gp 4 hp rfl,gp 5 hp rfl,trivial⟩ fun hS=>?_)
   refine gW [3,4] (by kernel_rfl) rfl ?_
   refine List.forall_mem_cons.2 ⟨?_,List.forall_mem_cons.2 ⟨?_,fun _ h=>absurd h (by simp)⟩⟩
   ·
    refine dX rfl ?_
    refine Cl hE rfl rfl I9 (eF p1 aJ bH hp x2 ex2) ⟨rfl,trivial⟩ fun v a w hR hE=>?_
    obtain⟨vr7_labels,vr7_left,vr7_numbers,rfl,hp⟩:=hR
    have hp:=r9 hp
    refine aB (aF ⟨gp0 hp,gp 7 hp rfl,gp 8 hp rfl,trivial⟩ fun hS=>?_)
    refine W1 4 (by kernel_rfl) rfl ?_
    refine dL (wk0 rfl) rfl rfl hE hp rfl [N0,N0,N0] (fun w=>by simp[Instr.alloc,go_sem]<;>rfl) ?_
    intro a w b13 hE hp
    have hp:=r10 hp
    refine aB (aF ⟨gp0 hp,gp 8 hp rfl,gp 9 hp rfl,trivial⟩ fun hS=>?_)
    refine W1 6 (by kernel_rfl) rfl ?_
    refine aX (wk0 rfl) rfl hE hp rfl rfl rfl 0 rfl iF.size_ rfl (aQ ⟨(aC.one hp 5 rfl),(aC.one hp 6 rfl),(aC.one hp 7 rfl),trivial⟩) [zX,aB4,yT] rfl ?_
    intro w hp
    have hp:=r10 hp
    refine aB (aF ⟨gp0 hp,gp 8 hp rfl,gp 9 hp rfl,trivial⟩ fun hS=>?_)
    refine W1 7 (by kernel_rfl) rfl ?_
    refine aX (wk0 rfl) rfl hE hp rfl rfl rfl 4 rfl iF.size_ rfl (aQ ⟨(aC.one hp 1 rfl),(aC.one hp 2 rfl),(aC.one hp 3 rfl),trivial⟩) [vr7_labels,vr7_left,vr7_numbers] rfl ?_
    intro w hp
    have hp:=r10 hp
    refine aB (aF ⟨gp0 hp,gp 8 hp rfl,gp 9 hp rfl,trivial⟩ fun hS=>?_)
    exact bP (by kernel_rfl) ⟨_,_,_,_,_,_,_,_,hE.cut ⟨rfl,rfl,trivial⟩,((((((((((hp.get 9 rfl).get 9 rfl).get 9 rfl).get 9 rfl).get 9 rfl).get 8 rfl).get 8 rfl).get 8 rfl).get 8 rfl).get 9 rfl)⟩
   refine dX rfl ?_
   refine dL (wk0 rfl) rfl rfl hE hp rfl [N0,N0,N0] (fun w=>by simp[Instr.alloc,go_sem]<;>rfl) ?_
   intro a w b14 hE hp
   have hp:=r7 hp
   refine aB (aF ⟨gp0 hp,gp 5 hp rfl,gp 6 hp rfl,trivial⟩ fun hS=>?_)
   refine W1 3 (by kernel_rfl) rfl ?_
   refine Cl hE rfl rfl I9 (eF p1 aJ bH hp x2 ex2) ⟨rfl,trivial⟩ fun v a w hR hE=>?_
   obtain⟨vr8_labels,vr8_left,vr8_numbers,rfl,hp⟩:=hR
   have hp:=r10 hp
   refine aB (aF ⟨gp0 hp,gp 8 hp rfl,gp 9 hp rfl,trivial⟩ fun hS=>?_)
   refine W1 6 (by kernel_rfl) rfl ?_
   refine aX (wk0 rfl) rfl hE hp rfl rfl rfl 3 rfl iF.size_ rfl (aQ ⟨(aC.one hp 5 rfl),(aC.one hp 6 rfl),(aC.one hp 7 rfl),trivial⟩) [zX,aB4,yT] rfl ?_
   intro w hp
   have hp:=r10 hp
   refine aB (aF ⟨gp0 hp,gp 8 hp rfl,gp 9 hp rfl,trivial⟩ fun hS=>?_)
   refine W1 7 (by kernel_rfl) rfl ?_
   refine aX (wk0 rfl) rfl hE hp rfl rfl rfl 4 rfl iF.size_ rfl (aQ ⟨(aC.one hp 0 rfl),(aC.one hp 1 rfl),(aC.one hp 2 rfl),trivial⟩) [vr8_labels,vr8_left,vr8_numbers] rfl ?_
   intro w hp
   have hp:=r10 hp
   refine aB (aF ⟨gp0 hp,gp 8 hp rfl,gp 9 hp rfl,trivial⟩ fun hS=>?_)
   exact bP (by kernel_rfl) ⟨_,_,_,_,_,_,_,_,hE.cut ⟨rfl,rfl,trivial⟩,((((((((((hp.get 9 rfl).get 9 rfl).get 9 rfl).get 9 rfl).get 9 rfl).get 7 rfl).get 7 rfl).get 7 rfl).get 8 rfl).get 9 rfl)⟩
  ·
   refine dX rfl ?_
   refine dL (wk0 rfl) rfl rfl hE hp rfl [N0,N0,N0] (fun w=>by simp[Instr.alloc,go_sem]<;>rfl) ?_
   intro a w b15 hE hp
   have hp:=r3 hp
   refine aB (aF ⟨gp0 hp,gp 1 hp rfl,gp 2 hp rfl,trivial⟩ fun hS=>?_)
   refine gW [1,5] (by kernel_rfl) rfl ?_
   refine List.forall_mem_cons.2 ⟨?_,List.forall_mem_cons.2 ⟨?_,fun _ h=>absurd h (by simp)⟩⟩
   ·
    refine dX rfl ?_
    refine Cl hE rfl rfl I9 (eF p0 aI bD hp x1 ex1) ⟨rfl,trivial⟩ fun v a w hR hE=>?_
    obtain⟨vr9_labels,vr9_left,vr9_numbers,rfl,hp⟩:=hR
    have hp:=r6 hp
    refine aB (aF ⟨gp0 hp,gp 4 hp rfl,gp 5 hp rfl,trivial⟩ fun hS=>?_)
    refine gW [3,5] (by kernel_rfl) rfl ?_
    refine List.forall_mem_cons.2 ⟨?_,List.forall_mem_cons.2 ⟨?_,fun _ h=>absurd h (by simp)⟩⟩
    ·
     refine dX rfl ?_
     refine Cl hE rfl rfl I9 (eF p1 aJ bH hp x2 ex2) ⟨rfl,trivial⟩ fun v a w hR hE=>?_
     obtain⟨vr10_labels,vr10_left,vr10_numbers,rfl,hp⟩:=hR
     have hp:=r9 hp
     refine aB (aF ⟨gp0 hp,gp 7 hp rfl,gp 8 hp rfl,trivial⟩ fun hS=>?_)
     refine W1 5 (by kernel_rfl) rfl ?_
     refine dL (wk0 rfl) rfl rfl hE hp rfl [N0,N0,N0] (fun w=>by simp[Instr.alloc,go_sem]<;>rfl) ?_
     intro a w b16 hE hp
     have hp:=r10 hp
     refine aB (aF ⟨gp0 hp,gp 8 hp rfl,gp 9 hp rfl,trivial⟩ fun hS=>?_)
     refine W1 6 (by kernel_rfl) rfl ?_
     refine aX (wk0 rfl) rfl hE hp rfl rfl rfl 7 rfl iF.size_ rfl (aQ ⟨(aC.one hp 4 rfl),(aC.one hp 5 rfl),(aC.one hp 6 rfl),trivial⟩) [vr9_labels,vr9_left,vr9_numbers] rfl ?_
     intro w hp
     have hp:=r10 hp
     refine aB (aF ⟨gp0 hp,gp 8 hp rfl,gp 9 hp rfl,trivial⟩ fun hS=>?_)
     refine W1 7 (by kernel_rfl) rfl ?_
     refine aX (wk0 rfl) rfl hE hp rfl rfl rfl 0 rfl iF.size_ rfl (aQ ⟨(aC.one hp 1 rfl),(aC.one hp 2 rfl),(aC.one hp 3 rfl),trivial⟩) [vr10_labels,vr10_left,vr10_numbers] rfl ?_
     intro w hp
     have hp:=r10 hp
     refine aB (aF ⟨gp0 hp,gp 8 hp rfl,gp 9 hp rfl,trivial⟩ fun hS=>?_)
     exact bP (by kernel_rfl) ⟨_,_,_,_,_,_,_,_,hE.cut ⟨rfl,rfl,trivial⟩,((((((((((hp.get 9 rfl).get 9 rfl).get 8 rfl).get 8 rfl).get 8 rfl).get 8 rfl).get 8 rfl).get 8 rfl).get 9 rfl).get 9 rfl)⟩
    refine dX rfl ?_
    refine dL (wk0 rfl) rfl rfl hE hp rfl [N0,N0,N0] (fun w=>by simp[Instr.alloc,go_sem]<;>rfl) ?_
    intro a w b17 hE hp
    have hp:=r7 hp
    refine aB (aF ⟨gp0 hp,gp 5 hp rfl,gp 6 hp rfl,trivial⟩ fun hS=>?_)
    refine W1 3 (by kernel_rfl) rfl ?_
    refine Cl hE rfl rfl I9 (eF p1 aJ bH hp x2 ex2) ⟨rfl,trivial⟩ fun v a w hR hE=>?_
    obtain⟨vr11_labels,vr11_left,vr11_numbers,rfl,hp⟩:=hR
    have hp:=r10 hp
    refine aB (aF ⟨gp0 hp,gp 8 hp rfl,gp 9 hp rfl,trivial⟩ fun hS=>?_)
    refine W1 6 (by kernel_rfl) rfl ?_
    refine aX (wk0 rfl) rfl hE hp rfl rfl rfl 7 rfl iF.size_ rfl (aQ ⟨(aC.one hp 4 rfl),(aC.one hp 5 rfl),(aC.one hp 6 rfl),trivial⟩) [vr9_labels,vr9_left,vr9_numbers] rfl ?_
    intro w hp
    have hp:=r10 hp
    refine aB (aF ⟨gp0 hp,gp 8 hp rfl,gp 9 hp rfl,trivial⟩ fun hS=>?_)
    refine W1 7 (by kernel_rfl) rfl ?_
    refine aX (wk0 rfl) rfl hE hp rfl rfl rfl 3 rfl iF.size_ rfl (aQ ⟨(aC.one hp 0 rfl),(aC.one hp 1 rfl),(aC.one hp 2 rfl),trivial⟩) [vr11_labels,vr11_left,vr11_numbers] rfl ?_
    intro w hp
    have hp:=r10 hp
    refine aB (aF ⟨gp0 hp,gp 8 hp rfl,gp 9 hp rfl,trivial⟩ fun hS=>?_)
    exact bP (by kernel_rfl) ⟨_,_,_,_,_,_,_,_,hE.cut ⟨rfl,rfl,trivial⟩,((((((((((hp.get 9 rfl).get 9 rfl).get 8 rfl).get 8 rfl).get 8 rfl).get 7 rfl).get 7 rfl).get 7 rfl).get 9 rfl).get 9 rfl)⟩
   refine dX rfl ?_
   refine dL (wk0 rfl) rfl rfl hE hp rfl [N0,N0,N0] (fun w=>by simp[Instr.alloc,go_sem]<;>rfl) ?_
   intro a w b18 hE hp
   have hp:=r4 hp
   refine aB (aF ⟨gp0 hp,gp 2 hp rfl,gp 3 hp rfl,trivial⟩ fun hS=>?_)
   refine W1 1 (by kernel_rfl) rfl ?_
   refine Cl hE rfl rfl I9 (eF p0 aI bD hp x1 ex1) ⟨rfl,trivial⟩ fun v a w hR hE=>?_
   obtain⟨vr12_labels,vr12_left,vr12_numbers,rfl,hp⟩:=hR
   have hp:=r7 hp
   refine aB (aF ⟨gp0 hp,gp 5 hp rfl,gp 6 hp rfl,trivial⟩ fun hS=>?_)
   refine W1 3 (by kernel_rfl) rfl ?_
   refine Cl hE rfl rfl I9 (eF p1 aJ bH hp x2 ex2) ⟨rfl,trivial⟩ fun v a w hR hE=>?_
   obtain⟨vr13_labels,vr13_left,vr13_numbers,rfl,hp⟩:=hR
   have hp:=r10 hp
   refine aB (aF ⟨gp0 hp,gp 8 hp rfl,gp 9 hp rfl,trivial⟩ fun hS=>?_)
   refine W1 6 (by kernel_rfl) rfl ?_
   refine aX (wk0 rfl) rfl hE hp rfl rfl rfl 7 rfl iF.size_ rfl (aQ ⟨(aC.one hp 3 rfl),(aC.one hp 4 rfl),(aC.one hp 5 rfl),trivial⟩) [vr12_labels,vr12_left,vr12_numbers] rfl ?_
   intro w hp
   have hp:=r10 hp
   refine aB (aF ⟨gp0 hp,gp 8 hp rfl,gp 9 hp rfl,trivial⟩ fun hS=>?_)
   refine W1 7 (by kernel_rfl) rfl ?_
   refine aX (wk0 rfl) rfl hE hp rfl rfl rfl 6 rfl iF.size_ rfl (aQ ⟨(aC.one hp 0 rfl),(aC.one hp 1 rfl),(aC.one hp 2 rfl),trivial⟩) [vr13_labels,vr13_left,vr13_numbers] rfl ?_
   intro w hp
   have hp:=r10 hp
   refine aB (aF ⟨gp0 hp,gp 8 hp rfl,gp 9 hp rfl,trivial⟩ fun hS=>?_)
   exact bP (by kernel_rfl) ⟨_,_,_,_,_,_,_,_,hE.cut ⟨rfl,rfl,trivial⟩,((((((((((hp.get 9 rfl).get 9 rfl).get 7 rfl).get 7 rfl).get 7 rfl).get 7 rfl).get 7 rfl).get 7 rfl).get 9 rfl).get 9 rfl)⟩
  refine dX rfl ?_
  refine dL (wk0 rfl) rfl rfl hE hp rfl [N0,N0,N0] (fun w=>by simp[Instr.alloc,go_sem]<;>rfl) ?_
  intro a w b19 hE hp
  have hp:=r3 hp
  refine aB (aF ⟨gp0 hp,gp 1 hp rfl,gp 2 hp rfl,trivial⟩ fun hS=>?_)
  refine gW [1,4] (by kernel_rfl) rfl ?_
  refine List.forall_mem_cons.2 ⟨?_,List.forall_mem_cons.2 ⟨?_,fun _ h=>absurd h (by simp)⟩⟩
  ·
   refine dX rfl ?_
   refine Cl hE rfl rfl I9 (eF p0 aI bD hp x1 ex1) ⟨rfl,trivial⟩ fun v a w hR hE=>?_
   obtain⟨vr14_labels,vr14_left,aJ9,rfl,hp⟩:=hR
   have hp:=r6 hp
   refine aB (aF ⟨gp0 hp,gp 4 hp rfl,gp 5 hp rfl,trivial⟩ fun hS=>?_)
   refine gW [3,4] (by kernel_rfl) rfl ?_
   refine List.forall_mem_cons.2 ⟨?_,List.forall_mem_cons.2 ⟨?_,fun _ h=>absurd h (by simp)⟩⟩
   ·
    refine dX rfl ?_
    refine Cl hE rfl rfl I9 (eF p1 aJ bH hp x2 ex2) ⟨rfl,trivial⟩ fun v a w hR hE=>?_
    obtain⟨vr15_labels,vr15_left,vr15_numbers,rfl,hp⟩:=hR
    have hp:=r9 hp
    refine aB (aF ⟨gp0 hp,gp 7 hp rfl,gp 8 hp rfl,trivial⟩ fun hS=>?_)
    refine W1 4 (by kernel_rfl) rfl ?_
    refine dL (wk0 rfl) rfl rfl hE hp rfl [N0,N0,N0] (fun w=>by simp[Instr.alloc,go_sem]<;>rfl) ?_
    intro a w b20 hE hp
    have hp:=r10 hp
    refine aB (aF ⟨gp0 hp,gp 8 hp rfl,gp 9 hp rfl,trivial⟩ fun hS=>?_)
    refine W1 6 (by kernel_rfl) rfl ?_
    refine aX (wk0 rfl) rfl hE hp rfl rfl rfl 0 rfl iF.size_ rfl (aQ ⟨(aC.one hp 4 rfl),(aC.one hp 5 rfl),(aC.one hp 6 rfl),trivial⟩) [vr14_labels,vr14_left,aJ9] rfl ?_
    intro w hp
    have hp:=r10 hp
    refine aB (aF ⟨gp0 hp,gp 8 hp rfl,gp 9 hp rfl,trivial⟩ fun hS=>?_)
    refine W1 7 (by kernel_rfl) rfl ?_
    refine aX (wk0 rfl) rfl hE hp rfl rfl rfl 7 rfl iF.size_ rfl (aQ ⟨(aC.one hp 1 rfl),(aC.one hp 2 rfl),(aC.one hp 3 rfl),trivial⟩) [vr15_labels,vr15_left,vr15_numbers] rfl ?_
    intro w hp
    have hp:=r10 hp
    refine aB (aF ⟨gp0 hp,gp 8 hp rfl,gp 9 hp rfl,trivial⟩ fun hS=>?_)
    exact bP (by kernel_rfl) ⟨_,_,_,_,_,_,_,_,hE.cut ⟨rfl,rfl,trivial⟩,((((((((((hp.get 9 rfl).get 9 rfl).get 8 rfl).get 8 rfl).get 8 rfl).get 8 rfl).get 8 rfl).get 8 rfl).get 8 rfl).get 9 rfl)⟩
   refine dX rfl ?_
   refine dL (wk0 rfl) rfl rfl hE hp rfl [N0,N0,N0] (fun w=>by simp[Instr.alloc,go_sem]<;>rfl) ?_
   intro a w b21 hE hp
   have hp:=r7 hp
   refine aB (aF ⟨gp0 hp,gp 5 hp rfl,gp 6 hp rfl,trivial⟩ fun hS=>?_)
   refine W1 3 (by kernel_rfl) rfl ?_
   refine Cl hE rfl rfl I9 (eF p1 aJ bH hp x2 ex2) ⟨rfl,trivial⟩ fun v a w hR hE=>?_
   obtain⟨vr16_labels,vr16_left,vr16_numbers,rfl,hp⟩:=hR
   have hp:=r10 hp
   refine aB (aF ⟨gp0 hp,gp 8 hp rfl,gp 9 hp rfl,trivial⟩ fun hS=>?_)
   refine W1 6 (by kernel_rfl) rfl ?_
   refine aX (wk0 rfl) rfl hE hp rfl rfl rfl 3 rfl iF.size_ rfl (aQ ⟨(aC.one hp 4 rfl),(aC.one hp 5 rfl),(aC.one hp 6 rfl),trivial⟩) [vr14_labels,vr14_left,aJ9] rfl ?_
   intro w hp
   have hp:=r10 hp
   refine aB (aF ⟨gp0 hp,gp 8 hp rfl,gp 9 hp rfl,trivial⟩ fun hS=>?_)
   refine W1 7 (by kernel_rfl) rfl ?_
   refine aX (wk0 rfl) rfl hE hp rfl rfl rfl 7 rfl iF.size_ rfl (aQ ⟨(aC.one hp 0 rfl),(aC.one hp 1 rfl),(aC.one hp 2 rfl),trivial⟩) [vr16_labels,vr16_left,vr16_numbers] rfl ?_
   intro w hp
   have hp:=r10 hp
   refine aB (aF ⟨gp0 hp,gp 8 hp rfl,gp 9 hp rfl,trivial⟩ fun hS=>?_)
   exact bP (by kernel_rfl) ⟨_,_,_,_,_,_,_,_,hE.cut ⟨rfl,rfl,trivial⟩,((((((((((hp.get 9 rfl).get 9 rfl).get 8 rfl).get 8 rfl).get 8 rfl).get 7 rfl).get 7 rfl).get 7 rfl).get 8 rfl).get 9 rfl)⟩
  refine dX rfl ?_
  refine dL (wk0 rfl) rfl rfl hE hp rfl [N0,N0,N0] (fun w=>by simp[Instr.alloc,go_sem]<;>rfl) ?_
  intro a w b22 hE hp
  have hp:=r4 hp
  refine aB (aF ⟨gp0 hp,gp 2 hp rfl,gp 3 hp rfl,trivial⟩ fun hS=>?_)
  refine W1 1 (by kernel_rfl) rfl ?_
  refine Cl hE rfl rfl I9 (eF p0 aI bD hp x1 ex1) ⟨rfl,trivial⟩ fun v a w hR hE=>?_
  obtain⟨vr17_labels,vr17_left,vr17_numbers,rfl,hp⟩:=hR
  have hp:=r7 hp
  refine aB (aF ⟨gp0 hp,gp 5 hp rfl,gp 6 hp rfl,trivial⟩ fun hS=>?_)
  refine W1 3 (by kernel_rfl) rfl ?_
  refine Cl hE rfl rfl I9 (eF p1 aJ bH hp x2 ex2) ⟨rfl,trivial⟩ fun v a w hR hE=>?_
  obtain⟨vr18_labels,vr18_left,vr18_numbers,rfl,hp⟩:=hR
  have hp:=r10 hp
  refine aB (aF ⟨gp0 hp,gp 8 hp rfl,gp 9 hp rfl,trivial⟩ fun hS=>?_)
  refine W1 6 (by kernel_rfl) rfl ?_
  refine aX (wk0 rfl) rfl hE hp rfl rfl rfl 6 rfl iF.size_ rfl (aQ ⟨(aC.one hp 3 rfl),(aC.one hp 4 rfl),(aC.one hp 5 rfl),trivial⟩) [vr17_labels,vr17_left,vr17_numbers] rfl ?_
  intro w hp
  have hp:=r10 hp
  refine aB (aF ⟨gp0 hp,gp 8 hp rfl,gp 9 hp rfl,trivial⟩ fun hS=>?_)
  refine W1 7 (by kernel_rfl) rfl ?_
  refine aX (wk0 rfl) rfl hE hp rfl rfl rfl 7 rfl iF.size_ rfl (aQ ⟨(aC.one hp 0 rfl),(aC.one hp 1 rfl),(aC.one hp 2 rfl),trivial⟩) [vr18_labels,vr18_left,vr18_numbers] rfl ?_
  intro w hp
  have hp:=r10 hp
  refine aB (aF ⟨gp0 hp,gp 8 hp rfl,gp 9 hp rfl,trivial⟩ fun hS=>?_)
  exact bP (by kernel_rfl) ⟨_,_,_,_,_,_,_,_,hE.cut ⟨rfl,rfl,trivial⟩,((((((((((hp.get 9 rfl).get 9 rfl).get 7 rfl).get 7 rfl).get 7 rfl).get 7 rfl).get 7 rfl).get 7 rfl).get 8 rfl).get 9 rfl)⟩
 rintro a w ⟨y11,y10,y7,y8,y9,y4,y5,y6,hE,hp⟩
 refine aG (aA ?_)
 refine V hE hp rfl (xf hE jB rfl rfl) fun a hE=>V hE hp rfl (xl hE kH 1 rfl rfl rfl rfl) fun a hE=>V hE hp rfl (bT rfl hE rfl (aC.len hp 5 rfl rD)) fun a hE=>V hE hp rfl (xf hE jB rfl rfl) fun a hE=>V hE hp rfl (xl hE kH 0 rfl rfl rfl rfl) fun a hE=>V hE hp rfl (bT rfl hE rfl (aC.len hp 2 rfl rD)) fun a hE=>?_
 obtain⟨x3,ex3,hm⟩:=bnd hm
 refine s_call (wk0 rfl) rfl rfl hE rfl [(Iv (x1.labels.length:Int)),(Iv (x2.labels.length:Int))] ⟨rfl,rfl,trivial⟩ ent91 (zL (x1.labels.length:Int) (x2.labels.length:Int) hp x3 ex3) Ret.ret ?_
 intro vr19 a w hR hE
 obtain⟨u,usr19,rfl,hp⟩:=Ret.of hR
 have hp:=r11 hp
 refine S hE 1 rfl fun a hE=>aB (aG ?_)
 refine aA (V hE hp rfl (aK rfl hE rfl (fun w hw=>aW (cs:=[y4,y5,y6]) iF (Hp.cN 2 rfl 0 _ (aS rfl) w hw))) fun a hE=>?_)
 refine V hE hp rfl (aK rfl hE rfl (fun w hw=>aW (cs:=[y7,y8,y9]) iF (Hp.cN 1 rfl 0 _ (aS rfl) w hw))) fun a hE=>S hE 1 rfl fun a hE=>?_
 obtain⟨k1,k1a,k1d,hp⟩:=(hp.get 6 rfl).lend
 have f1:aH (ρ.un k1) y4 x1.labels:=aC.ro k1d k1a
 have hp:=r10 hp
 obtain⟨k2,k2a,k2d,hp⟩:=(hp.get 6 rfl).lend
 have f2:aH ((ρ.un k1).un k2) y5 x1.left:=aC.ro k2d k2a
 have hp:Hp Z ((ρ.un k1).un k2) (_::_::_::_::_::_::_::_::_::L) w:=hp
 obtain⟨k3,k3a,k3d,hp⟩:=(hp.get 6 rfl).lend
 have f3:aH (((ρ.un k1).un k2).un k3) y6 x1.numbers:=aC.ro k3d k3a
 have hp:Hp Z (((ρ.un k1).un k2).un k3) (_::_::_::_::_::_::_::_::L) w:=hp
 obtain⟨k4,k4a,k4d,hp⟩:=(hp.get 3 rfl).lend
 have f4:aH ((((ρ.un k1).un k2).un k3).un k4) y7 x2.labels:=aC.ro k4d k4a
 have hp:Hp Z ((((ρ.un k1).un k2).un k3).un k4) (_::_::_::_::_::_::_::L) w:=hp
 obtain⟨k5,k5a,k5d,hp⟩:=(hp.get 3 rfl).lend
 have f5:aH (((((ρ.un k1).un k2).un k3).un k4).un k5) y8 x2.left:=aC.ro k5d k5a
 have hp:Hp Z (((((ρ.un k1).un k2).un k3).un k4).un k5) (_::_::_::_::_::_::L) w:=hp
 obtain⟨k6,k6a,k6d,hp⟩:=(hp.get 3 rfl).lend
 have f6:aH ((((((ρ.un k1).un k2).un k3).un k4).un k5).un k6) y9 x2.numbers:=aC.ro k6d k6a
 have hp:Hp Z ((((((ρ.un k1).un k2).un k3).un k4).un k5).un k6) (_::_::_::_::_::L) w:=hp
 obtain⟨x4,ex4,hm⟩:=bnd hm
 refine Cl hE rfl rfl ent92 (aJ1 x1 y4 (aH.mono (aH.mono (aH.mono (aH.mono (aH.mono f1 (PH.le_un _ k2)) (PH.le_un _ k3)) (PH.le_un _ k4)) (PH.le_un _ k5)) (PH.le_un _ k6)) y5 (aH.mono (aH.mono (aH.mono (aH.mono f2 (PH.le_un _ k3)) (PH.le_un _ k4)) (PH.le_un _ k5)) (PH.le_un _ k6)) y6 (aH.mono (aH.mono (aH.mono f3 (PH.le_un _ k4)) (PH.le_un _ k5)) (PH.le_un _ k6)) x2 y7 (aH.mono (aH.mono f4 (PH.le_un _ k5)) (PH.le_un _ k6)) y8 (aH.mono f5 (PH.le_un _ k6)) y9 f6 x3 vr19 usr19 hp x4 ex4) ⟨rfl,rfl,rfl,trivial⟩ fun v a w hR hE=>?_
 obtain⟨b23,b24,b25,rfl,hp⟩:=hR
 have hp:Hp Z ((((((ρ.un k1).un k2).un k3).un k4).un k5).un k6) (Pt b23 (.cells #[y4,y5,y6] 135 (0,0))::Pt b24 (.cells #[y7,y8,y9] 135 (0,0))::Pt b25 (.cells #[vr19] 83 (0,0))::cO 73 3 vr19 usr19 (x4:(List (List Int)))::_::_::_::_::L) w:=hp
 refine S hE 1 rfl fun a hE=>aB (aG ?_)
 refine aG (aA ?_)
 refine V hE hp rfl (aK rfl hE rfl (fun w hw=>aW (cs:=[y4,y5,y6]) iF (Hp.cN 5 rfl 0 _ (aS rfl) w hw))) fun a hE=>?_
 obtain⟨x5,ex5,hm⟩:=bnd hm
 refine s_call (wk0 rfl) rfl rfl hE rfl [(.agg #[y4,y5,y6])] ⟨rfl,trivial⟩ ent93 (zJ x1 y4 (aH.mono (aH.mono (aH.mono (aH.mono (aH.mono f1 (PH.le_un _ k2)) (PH.le_un _ k3)) (PH.le_un _ k4)) (PH.le_un _ k5)) (PH.le_un _ k6)) y5 (aH.mono (aH.mono (aH.mono (aH.mono f2 (PH.le_un _ k3)) (PH.le_un _ k4)) (PH.le_un _ k5)) (PH.le_un _ k6)) y6 (aH.mono (aH.mono (aH.mono f3 (PH.le_un _ k4)) (PH.le_un _ k5)) (PH.le_un _ k6)) hp x5 ex5) Ret.ret ?_
 intro vr20 a w hR hE
 obtain⟨u,rfl,hp⟩:=Ret.of hR
 have hp:Hp Z ((((((ρ.un k1).un k2).un k3).un k4).un k5).un k6) (aC 3 vr20 x5::_::_::_::_::_::_::_::_::L) w:=hp
 refine V hE hp rfl (bT rfl hE rfl (aC.len hp 0 rfl bI)) fun a hE=>S hE 1 rfl fun a hE=>aB ?_
 obtain⟨b26,hc1,hm⟩:=bnd hm
 refine dH (fun a w=>Env 92 [(5,(Pv y10 0)),(6,(Pv y11 0)),(7,vr19)] a∧Hp Z ((((((ρ.un k1).un k2).un k3).un k4).un k5).un k6) (aC 3 vr20 x5::Pt b23 (.cells #[y4,y5,y6] 135 (0,0))::Pt b24 (.cells #[y7,y8,y9] 135 (0,0))::Pt b25 (.cells #[vr19] 83 (0,0))::cO 73 3 vr19 usr19 (b26:(List (List Int)))::Pt y11 (.cells #[y7,y8,y9] 135 (0,0))::Pt y10 (.cells #[y4,y5,y6] 135 (0,0))::Pt b2 (.cells #[(Iv p1.kind),(.string p1.text),(Iv p1.at_),(Iv p1.fin),aJ] 24 (0,0))::Pt b1 (.cells #[(Iv p0.kind),(.string p0.text),(Iv p0.at_),(Iv p0.fin),aI] 24 (0,0))::L) w) ?_ ?_
 ·refine dZ hc1 (fun s a w=>Env 92 [(5,(Pv y10 0)),(6,(Pv y11 0)),(7,vr19),(8,(.func (.func 105) #[] #[(Pv b23 0),(Pv b24 0),(Pv b25 0)])),(34,vr20),(35,(Iv (x5.length:Int))),(36,(Iv s.1))] a∧Hp Z ((((((ρ.un k1).un k2).un k3).un k4).un k5).un k6) (aC 3 vr20 x5::Pt b23 (.cells #[y4,y5,y6] 135 (0,0))::Pt b24 (.cells #[y7,y8,y9] 135 (0,0))::Pt b25 (.cells #[vr19] 83 (0,0))::cO 73 3 vr19 usr19 (s.2:(List (List Int)))::Pt y11 (.cells #[y7,y8,y9] 135 (0,0))::Pt y10 (.cells #[y4,y5,y6] 135 (0,0))::Pt b2 (.cells #[(Iv p1.kind),(.string p1.text),(Iv p1.at_),(Iv p1.fin),aJ] 24 (0,0))::Pt b1 (.cells #[(Iv p0.kind),(.string p0.text),(Iv p0.at_),(Iv p0.fin),aI] 24 (0,0))::L) w) ?_ ?_
  ·exact⟨hE.cut ⟨rfl,rfl,rfl,rfl,rfl,rfl,rfl,trivial⟩,hp⟩
  rintro⟨aP,aU⟩ st a w ⟨hE,hp⟩ hl1
  dsimp only at hE hp hl1
  unfold yN at hl1
  refine aG (aA ?_)
  refine S hE 1 rfl fun a hE=>aB (aG ?_)
  refine dE hE rfl (fun hc2=>?_) (fun hc2=>?_)
  ·replace hl1:=(it hc2).symm.trans hl1
   refine aZ (aG ?_)
   refine dM (aG ?_)
   refine aA ?_
   obtain⟨x6,ex6,hl1⟩:=bnd hl1
   obtain⟨b27,b27o,b27r,b27v,b27f⟩:=aC.at hp 0 rfl bI ex6
   refine V hE hp rfl (aN rfl hE rfl rfl b27r) fun a hE=>V hE hp rfl (aK rfl hE rfl (fun w hw=>aV aT (b27f 0 _ rfl _ _ w (hw.get 0 rfl)))) fun a hE=>S hE 1 rfl fun a hE=>aB (aG ?_)
   refine aA (V hE hp rfl (aK rfl hE rfl (fun w hw=>aW (cs:=[y7,y8,y9]) iF (Hp.cN 5 rfl 0 _ (aS rfl) w hw))) fun a hE=>?_)
   obtain⟨x7,ex7,hl1⟩:=bnd hl1
   refine s_call (wk0 rfl) rfl rfl hE rfl [(.agg #[y7,y8,y9])] ⟨rfl,trivial⟩ ent93 (zJ x2 y7 (aH.mono (aH.mono f4 (PH.le_un _ k5)) (PH.le_un _ k6)) y8 (aH.mono f5 (PH.le_un _ k6)) y9 f6 hp x7 ex7) Ret.ret ?_
   intro vr21 a w hR hE
   obtain⟨u,rfl,hp⟩:=Ret.of hR
   have hp:Hp Z ((((((ρ.un k1).un k2).un k3).un k4).un k5).un k6) (aC 3 vr21 x7::_::_::_::_::_::_::_::_::_::L) w:=hp
   refine V hE hp rfl (bT rfl hE rfl (aC.len hp 0 rfl bI)) fun a hE=>S hE 1 rfl fun a hE=>aB ?_
   have hE:=hE.cut (E':=[(5,(Pv y10 0)),(6,(Pv y11 0)),(7,vr19),(8,(.func (.func 105) #[] #[(Pv b23 0),(Pv b24 0),(Pv b25 0)])),(10,(Iv x6)),(34,vr20),(35,(Iv (x5.length:Int))),(36,(Iv aP)),(41,vr21),(42,(Iv (x7.length:Int))),(43,(Iv 0))]) ⟨rfl,rfl,rfl,rfl,rfl,rfl,rfl,rfl,rfl,rfl,rfl,trivial⟩
   obtain⟨b28,hc3,hl1⟩:=bnd hl1
   refine dH (fun a w=>Env 92 [(5,(Pv y10 0)),(6,(Pv y11 0)),(7,vr19),(8,(.func (.func 105) #[] #[(Pv b23 0),(Pv b24 0),(Pv b25 0)])),(34,vr20),(35,(Iv (x5.length:Int))),(36,(Iv aP))] a∧Hp Z ((((((ρ.un k1).un k2).un k3).un k4).un k5).un k6) (aC 3 vr21 x7::aC 3 vr20 x5::Pt b23 (.cells #[y4,y5,y6] 135 (0,0))::Pt b24 (.cells #[y7,y8,y9] 135 (0,0))::Pt b25 (.cells #[vr19] 83 (0,0))::cO 73 3 vr19 usr19 (b28:(List (List Int)))::Pt y11 (.cells #[y7,y8,y9] 135 (0,0))::Pt y10 (.cells #[y4,y5,y6] 135 (0,0))::Pt b2 (.cells #[(Iv p1.kind),(.string p1.text),(Iv p1.at_),(Iv p1.fin),aJ] 24 (0,0))::Pt b1 (.cells #[(Iv p0.kind),(.string p0.text),(Iv p0.at_),(Iv p0.fin),aI] 24 (0,0))::L) w) ?_ ?_
   ·refine dZ hc3 (fun s a w=>Env 92 [(5,(Pv y10 0)),(6,(Pv y11 0)),(7,vr19),(8,(.func (.func 105) #[] #[(Pv b23 0),(Pv b24 0),(Pv b25 0)])),(10,(Iv x6)),(34,vr20),(35,(Iv (x5.length:Int))),(36,(Iv aP)),(41,vr21),(42,(Iv (x7.length:Int))),(43,(Iv s.1))] a∧Hp Z ((((((ρ.un k1).un k2).un k3).un k4).un k5).un k6) (aC 3 vr21 x7::aC 3 vr20 x5::Pt b23 (.cells #[y4,y5,y6] 135 (0,0))::Pt b24 (.cells #[y7,y8,y9] 135 (0,0))::Pt b25 (.cells #[vr19] 83 (0,0))::cO 73 3 vr19 usr19 (s.2:(List (List Int)))::Pt y11 (.cells #[y7,y8,y9] 135 (0,0))::Pt y10 (.cells #[y4,y5,y6] 135 (0,0))::Pt b2 (.cells #[(Iv p1.kind),(.string p1.text),(Iv p1.at_),(Iv p1.fin),aJ] 24 (0,0))::Pt b1 (.cells #[(Iv p0.kind),(.string p0.text),(Iv p0.at_),(Iv p0.fin),aI] 24 (0,0))::L) w) ?_ ?_
    ·exact⟨hE.cut ⟨rfl,rfl,rfl,rfl,rfl,rfl,rfl,rfl,rfl,rfl,rfl,trivial⟩,hp⟩
    rintro⟨bJ,dY⟩ st a w ⟨hE,hp⟩ hl2
    dsimp only at hE hp hl2
    unfold yO at hl2
    refine aG (aA ?_)
    refine S hE 1 rfl fun a hE=>aB (aG ?_)
    refine dE hE rfl (fun hc4=>?_) (fun hc4=>?_)
    ·replace hl2:=(it hc4).symm.trans hl2
     refine aZ (aG ?_)
     refine dM (aG ?_)
     refine aA ?_
     obtain⟨x8,ex8,hl2⟩:=bnd hl2
     obtain⟨b29,b29o,b29r,b29v,b29f⟩:=aC.at hp 0 rfl bI ex8
     refine V hE hp rfl (aN rfl hE rfl rfl b29r) fun a hE=>V hE hp rfl (aK rfl hE rfl (fun w hw=>aV aT (b29f 0 _ rfl _ _ w (hw.get 0 rfl)))) fun a hE=>S hE 1 rfl fun a hE=>aB ?_
     have hE:=hE.cut (E':=[(5,(Pv y10 0)),(6,(Pv y11 0)),(7,vr19),(8,(.func (.func 105) #[] #[(Pv b23 0),(Pv b24 0),(Pv b25 0)])),(10,(Iv x6)),(12,(Iv x8)),(34,vr20),(35,(Iv (x5.length:Int))),(36,(Iv aP)),(41,vr21),(42,(Iv (x7.length:Int))),(43,(Iv bJ))]) ⟨rfl,rfl,rfl,rfl,rfl,rfl,rfl,rfl,rfl,rfl,rfl,rfl,trivial⟩
     refine aA (S hE 3 rfl fun a hE=>?_)
     obtain⟨x9,ex9,hl2⟩:=bnd hl2
     refine pU (wk0 rfl) rfl rfl hE rfl rfl [(Iv x6),(Iv x8)] ⟨rfl,rfl,trivial⟩ ent105 (aH5 x6 x8 b23 x1 y4 (aH.mono (aH.mono (aH.mono (aH.mono (aH.mono f1 (PH.le_un _ k2)) (PH.le_un _ k3)) (PH.le_un _ k4)) (PH.le_un _ k5)) (PH.le_un _ k6)) y5 (aH.mono (aH.mono (aH.mono (aH.mono f2 (PH.le_un _ k3)) (PH.le_un _ k4)) (PH.le_un _ k5)) (PH.le_un _ k6)) y6 (aH.mono (aH.mono (aH.mono f3 (PH.le_un _ k4)) (PH.le_un _ k5)) (PH.le_un _ k6)) b24 x2 y7 (aH.mono (aH.mono f4 (PH.le_un _ k5)) (PH.le_un _ k6)) y8 (aH.mono f5 (PH.le_un _ k6)) y9 f6 b25 dY vr19 usr19 ((((hp.get 5 rfl).get 5 rfl).get 5 rfl).get 5 rfl) x9 ex9) Ret.ret ?_
     intro v a w hR hE
     obtain⟨rfl,hp⟩:=Ret.of hR
     have hp:Hp Z ((((((ρ.un k1).un k2).un k3).un k4).un k5).un k6) (_::_::_::cO 73 3 vr19 usr19 (x9:(List (List Int)))::_::_::_::_::_::_::L) w:=hp
     refine aB (aA ?_)
     obtain⟨x10,ex10,hl2⟩:=bnd hl2
     refine V hE hp rfl (bF rfl hE rfl rfl (aO ex10)) fun a hE=>S hE 1 rfl fun a hE=>aB ?_
     exact⟨_,(oj hl2).symm,hE.cut ⟨rfl,rfl,rfl,rfl,rfl,rfl,rfl,rfl,rfl,rfl,rfl,trivial⟩,((((((((((hp.get 9 rfl).get 9 rfl).get 9 rfl).get 9 rfl).get 7 rfl).get 7 rfl).get 7 rfl).get 7 rfl).get 9 rfl).get 9 rfl)⟩
    replace hl2:=(ie hc4).symm.trans hl2
    refine dS ?_
    refine⟨_,(oj hl2).symm,fun hbb=>?_⟩
    subst hbb
    exact⟨hE.cut ⟨rfl,rfl,rfl,rfl,rfl,rfl,rfl,trivial⟩,hp⟩
   rintro a w ⟨hE,hp⟩
   refine aA ?_
   obtain⟨x11,ex11,hl1⟩:=bnd hl1
   refine V hE hp rfl (bF rfl hE rfl rfl (aO ex11)) fun a hE=>S hE 1 rfl fun a hE=>aB ?_
   exact⟨_,(oj hl1).symm,hE.cut ⟨rfl,rfl,rfl,rfl,rfl,rfl,rfl,trivial⟩,(hp.drop)⟩
  replace hl1:=(ie hc2).symm.trans hl1
  refine dS ?_
  refine⟨_,(oj hl1).symm,fun hbb=>?_⟩
  subst hbb
  exact⟨hE.cut ⟨rfl,rfl,rfl,trivial⟩,hp⟩
 rintro a w ⟨hE,hp⟩
 refine aG (aA ?_)
 refine V hE hp rfl (xf hE jB rfl rfl) fun a hE=>V hE hp rfl (xl hE kH 6 rfl rfl rfl rfl) fun a hE=>V hE hp rfl (bT rfl hE rfl (aH.len (aH.mono (aH.mono (aH.mono (aH.mono (aH.mono f1 (PH.le_un _ k2)) (PH.le_un _ k3)) (PH.le_un _ k4)) (PH.le_un _ k5)) (PH.le_un _ k6)) rD)) fun a hE=>V hE hp rfl (xf hE jB rfl rfl) fun a hE=>V hE hp rfl (xl hE kH 5 rfl rfl rfl rfl) fun a hE=>V hE hp rfl (bT rfl hE rfl (aH.len (aH.mono (aH.mono f4 (PH.le_un _ k5)) (PH.le_un _ k6)) rD)) fun a hE=>?_
 obtain⟨x12,ex12,hm⟩:=bnd hm
 refine s_call (wk0 rfl) rfl rfl hE rfl [(Iv (x1.labels.length:Int)),(Iv (x2.labels.length:Int))] ⟨rfl,rfl,trivial⟩ ent91 (zL (x1.labels.length:Int) (x2.labels.length:Int) hp x12 ex12) Ret.ret ?_
 intro vr22 a w hR hE
 obtain⟨u,usr22,rfl,hp⟩:=Ret.of hR
 have hp:Hp Z ((((((ρ.un k1).un k2).un k3).un k4).un k5).un k6) (cO 73 3 vr22 usr22 (x12:(List (List Int)))::_::_::_::_::cO 73 3 vr19 usr19 (b26:(List (List Int)))::_::_::_::_::L) w:=hp
 refine S hE 1 rfl fun a hE=>aB ?_
 have hE:=hE.cut (E':=[(5,(Pv y10 0)),(6,(Pv y11 0)),(7,vr19),(13,vr22)]) ⟨rfl,rfl,rfl,rfl,trivial⟩
 refine aG (aG ?_)
 refine aA (S hE 1 rfl fun a hE=>?_)
 refine V hE hp rfl (bT rfl hE rfl (cO.len hp 5 rfl jD)) fun a hE=>S hE 1 rfl fun a hE=>aB ?_
 obtain⟨b30,hc5,hm⟩:=bnd hm
 refine dH (fun a w=>Env 92 [(13,vr22)] a∧Hp Z ((((((ρ.un k1).un k2).un k3).un k4).un k5).un k6) (cO 73 3 vr22 usr22 (b30:(List (List Int)))::aC 3 vr20 x5::Pt b23 (.cells #[y4,y5,y6] 135 (0,0))::Pt b24 (.cells #[y7,y8,y9] 135 (0,0))::Pt b25 (.cells #[vr19] 83 (0,0))::cO 73 3 vr19 usr19 (b26:(List (List Int)))::Pt y11 (.cells #[y7,y8,y9] 135 (0,0))::Pt y10 (.cells #[y4,y5,y6] 135 (0,0))::Pt b2 (.cells #[(Iv p1.kind),(.string p1.text),(Iv p1.at_),(Iv p1.fin),aJ] 24 (0,0))::Pt b1 (.cells #[(Iv p0.kind),(.string p0.text),(Iv p0.at_),(Iv p0.fin),aI] 24 (0,0))::L) w) ?_ ?_
 ·refine dZ hc5 (fun s a w=>Env 92 [(5,(Pv y10 0)),(6,(Pv y11 0)),(13,vr22),(60,vr19),(61,(Iv (b26.length:Int))),(62,(Iv s.1))] a∧Hp Z ((((((ρ.un k1).un k2).un k3).un k4).un k5).un k6) (cO 73 3 vr22 usr22 (s.2:(List (List Int)))::aC 3 vr20 x5::Pt b23 (.cells #[y4,y5,y6] 135 (0,0))::Pt b24 (.cells #[y7,y8,y9] 135 (0,0))::Pt b25 (.cells #[vr19] 83 (0,0))::cO 73 3 vr19 usr19 (b26:(List (List Int)))::Pt y11 (.cells #[y7,y8,y9] 135 (0,0))::Pt y10 (.cells #[y4,y5,y6] 135 (0,0))::Pt b2 (.cells #[(Iv p1.kind),(.string p1.text),(Iv p1.at_),(Iv p1.fin),aJ] 24 (0,0))::Pt b1 (.cells #[(Iv p0.kind),(.string p0.text),(Iv p0.at_),(Iv p0.fin),aI] 24 (0,0))::L) w) ?_ ?_
  ·exact⟨hE.cut ⟨rfl,rfl,rfl,rfl,rfl,rfl,trivial⟩,hp⟩
  rintro⟨eQ,uG⟩ st a w ⟨hE,hp⟩ hl3
  dsimp only at hE hp hl3
  unfold yP at hl3
  refine aG (aA ?_)
  refine S hE 1 rfl fun a hE=>aB (aG ?_)
  refine dE hE rfl (fun hc6=>?_) (fun hc6=>?_)
  ·replace hl3:=(it hc6).symm.trans hl3
   refine aZ (aG ?_)
   refine dM (aG ?_)
   refine aA (S hE 1 rfl fun a hE=>?_)
   obtain⟨x13,ex13,hl3⟩:=bnd hl3
   obtain⟨b31u,b31,b31o,b31h,b31r,b31v,b31f⟩:=cO.hdr hp 5 rfl jD ex13
   refine V hE hp rfl (aN rfl hE rfl rfl b31r) fun a hE=>V hE hp rfl (aK rfl hE rfl (fun w hw=>aV aY (b31f 0 _ rfl _ _ w (hw.get 5 rfl)))) fun a hE=>S hE 2 rfl fun a hE=>aB (aG ?_)
   refine aA (S hE 1 rfl fun a hE=>?_)
   refine V hE hp rfl (bT rfl hE rfl (cO.rlen hp 5 rfl bI b31h ex13)) fun a hE=>S hE 1 rfl fun a hE=>aB ?_
   obtain⟨b32,hc7,hl3⟩:=bnd hl3
   refine dH (fun a w=>Env 92 [(5,(Pv y10 0)),(6,(Pv y11 0)),(13,vr22),(60,vr19),(61,(Iv (b26.length:Int))),(62,(Iv eQ))] a∧Hp Z ((((((ρ.un k1).un k2).un k3).un k4).un k5).un k6) (cO 73 3 vr22 usr22 (b32:(List (List Int)))::aC 3 vr20 x5::Pt b23 (.cells #[y4,y5,y6] 135 (0,0))::Pt b24 (.cells #[y7,y8,y9] 135 (0,0))::Pt b25 (.cells #[vr19] 83 (0,0))::cO 73 3 vr19 usr19 (b26:(List (List Int)))::Pt y11 (.cells #[y7,y8,y9] 135 (0,0))::Pt y10 (.cells #[y4,y5,y6] 135 (0,0))::Pt b2 (.cells #[(Iv p1.kind),(.string p1.text),(Iv p1.at_),(Iv p1.fin),aJ] 24 (0,0))::Pt b1 (.cells #[(Iv p0.kind),(.string p0.text),(Iv p0.at_),(Iv p0.fin),aI] 24 (0,0))::L) w) ?_ ?_
   ·refine dZ hc7 (fun s a w=>Env 92 [(5,(Pv y10 0)),(6,(Pv y11 0)),(13,vr22),(14,(Iv eQ)),(60,vr19),(61,(Iv (b26.length:Int))),(62,(Iv eQ)),(67,(Sl.v b31u)),(68,(Iv (x13.length:Int))),(69,(Iv s.1))] a∧Hp Z ((((((ρ.un k1).un k2).un k3).un k4).un k5).un k6) (cO 73 3 vr22 usr22 (s.2:(List (List Int)))::aC 3 vr20 x5::Pt b23 (.cells #[y4,y5,y6] 135 (0,0))::Pt b24 (.cells #[y7,y8,y9] 135 (0,0))::Pt b25 (.cells #[vr19] 83 (0,0))::cO 73 3 vr19 usr19 (b26:(List (List Int)))::Pt y11 (.cells #[y7,y8,y9] 135 (0,0))::Pt y10 (.cells #[y4,y5,y6] 135 (0,0))::Pt b2 (.cells #[(Iv p1.kind),(.string p1.text),(Iv p1.at_),(Iv p1.fin),aJ] 24 (0,0))::Pt b1 (.cells #[(Iv p0.kind),(.string p0.text),(Iv p0.at_),(Iv p0.fin),aI] 24 (0,0))::L) w) ?_ ?_
    ·exact⟨hE.cut ⟨rfl,rfl,rfl,rfl,rfl,rfl,rfl,rfl,rfl,rfl,trivial⟩,hp⟩
    rintro⟨fJ,iY⟩ st a w ⟨hE,hp⟩ hl4
    dsimp only at hE hp hl4
    unfold yQ at hl4
    refine aG (aA ?_)
    refine S hE 1 rfl fun a hE=>aB (aG ?_)
    refine dE hE rfl (fun hc8=>?_) (fun hc8=>?_)
    ·replace hl4:=(it hc8).symm.trans hl4
     refine aZ (aG ?_)
     refine dM (aG ?_)
     refine aA (S hE 1 rfl fun a hE=>?_)
     obtain⟨x14,ex14,hl4⟩:=bnd hl4
     obtain⟨b33,b33o,b33r,b33v,b33f⟩:=cO.at hp 5 rfl bI b31h ex13 ex14
     refine V hE hp rfl (aN rfl hE rfl rfl b33r) fun a hE=>V hE hp rfl (aK rfl hE rfl (fun w hw=>aV aT (b33f 0 _ rfl _ _ w (hw.get 5 rfl)))) fun a hE=>S hE 2 rfl fun a hE=>aB ?_
     obtain⟨x15,ex15,hl4⟩:=bnd hl4
     obtain⟨x16,ex16,hl4⟩:=bnd hl4
     obtain⟨x17,ex17,hl4⟩:=bnd hl4
     obtain⟨x18,ex18,hl4⟩:=bnd hl4
     have hp:=hp.drew
     refine fG ([([],At0 Z ((((((ρ.un k1).un k2).un k3).un k4).un k5).un k6)),([15],At1 Z ((((((ρ.un k1).un k2).un k3).un k4).un k5).un k6) (cO 73 3 vr22 usr22 (iY:(List (List Int))))),([],At1 Z ((((((ρ.un k1).un k2).un k3).un k4).un k5).un k6) (Pt y11 (.cells #[y7,y8,y9] 135 (0,0)))),([],At1 Z ((((((ρ.un k1).un k2).un k3).un k4).un k5).un k6) (Pt y10 (.cells #[y4,y5,y6] 135 (0,0))))]:Facts) (fun a w=>Env 92 [(5,(Pv y10 0)),(6,(Pv y11 0)),(13,vr22),(14,(Iv eQ)),(60,vr19),(61,(Iv (b26.length:Int))),(62,(Iv eQ)),(67,(Sl.v b31u)),(68,(Iv (x13.length:Int))),(69,(Iv fJ))] a∧Hp Z ((((((ρ.un k1).un k2).un k3).un k4).un k5).un k6) (cO 73 3 vr22 usr22 (iY.set x15.toNat (x16.set x17.toNat x14):(List (List Int)))::aC 3 vr20 x5::Pt b23 (.cells #[y4,y5,y6] 135 (0,0))::Pt b24 (.cells #[y7,y8,y9] 135 (0,0))::Pt b25 (.cells #[vr19] 83 (0,0))::cO 73 3 vr19 usr19 (b26:(List (List Int)))::Pt y11 (.cells #[y7,y8,y9] 135 (0,0))::Pt y10 (.cells #[y4,y5,y6] 135 (0,0))::Pt b2 (.cells #[(Iv p1.kind),(.string p1.text),(Iv p1.at_),(Iv p1.fin),aJ] 24 (0,0))::Pt b1 (.cells #[(Iv p0.kind),(.string p0.text),(Iv p0.at_),(Iv p0.fin),aI] 24 (0,0))::L) w) (by kernel_rfl) ⟨fun _=>⟨_,hp⟩,fun _=>⟨_,(hp.get 0 rfl)⟩,fun _=>⟨_,(hp.get 6 rfl)⟩,fun _=>⟨_,(hp.get 7 rfl)⟩,trivial⟩ (fun hS=>?_) ?_
     ·
      generalize w.drew=w at hS hp⊢
      refine Ts [0] hE hS rfl rfl (by kernel_rfl) fun a hE hS=>T0 1 hE hS rfl rfl rfl (by kernel_rfl) (fun _=>xf hE jP rfl rfl) fun a hE hS=>T 2 3 hE hS rfl rfl rfl (by kernel_rfl) (fun _=>xl hE aY 0 rfl rfl rfl rfl) fun a hE hS=>Ts [3] hE hS rfl rfl (by kernel_rfl) fun a hE hS=>?_
      obtain⟨b38,b38o,b38c,b38r,b38k,b38f⟩:=aH.at (aH.mono (aH.mono (aH.mono f3 (PH.le_un _ k4)) (PH.le_un _ k5)) (PH.le_un _ k6)) bI ex15
      obtain rfl:b38c=Enc.enc x15:=b38k
      have b38f:AtP ((((((ρ.un k1).un k2).un k3).un k4).un k5).un k6) b38 b38o [(Iv x15)]:=b38f
      refine T0 4 hE hS rfl rfl rfl (by kernel_rfl) (fun _=>aN rfl hE rfl rfl b38r) fun a hE hS=>T0 5 hE hS rfl rfl rfl (by kernel_rfl) (fun _=>aK rfl hE rfl (fun w hw=>aV aT (b38f.c 0 rfl w hw))) fun a hE hS=>?_
      obtain⟨b39u,b39,b39o,b39h,b39r,b39v,b39f⟩:=cO.hdr hp 0 rfl jD ex16
      refine T0 6 hE hS rfl rfl rfl (by kernel_rfl) (fun _=>aN rfl hE rfl rfl b39r) fun a hE hS=>T 7 1 hE hS rfl rfl rfl (by kernel_rfl) (fun _=>aK rfl hE rfl (fun w hw=>aV aY (b39f 0 _ rfl _ _ w (hw.get 0 rfl)))) fun a hE hS=>T0 8 hE hS rfl rfl rfl (by kernel_rfl) (fun _=>xf hE jP rfl rfl) fun a hE hS=>T 9 2 hE hS rfl rfl rfl (by kernel_rfl) (fun _=>xl hE aY 0 rfl rfl rfl rfl) fun a hE hS=>Ts [10] hE hS rfl rfl (by kernel_rfl) fun a hE hS=>?_
      obtain⟨b40,b40o,b40c,b40r,b40k,b40f⟩:=aH.at f6 bI ex17
      obtain rfl:b40c=Enc.enc x17:=b40k
      have b40f:AtP ((((((ρ.un k1).un k2).un k3).un k4).un k5).un k6) b40 b40o [(Iv x17)]:=b40f
      refine T0 11 hE hS rfl rfl rfl (by kernel_rfl) (fun _=>aN rfl hE rfl rfl b40r) fun a hE hS=>T0 12 hE hS rfl rfl rfl (by kernel_rfl) (fun _=>aK rfl hE rfl (fun w hw=>aV aT (b40f.c 0 rfl w hw))) fun a hE hS=>Ts [13] hE hS rfl rfl (by kernel_rfl) fun a hE hS=>?_
      obtain⟨b41,b41o,b41r,b41v,b41f⟩:=cO.at hp 0 rfl bI b39h ex16 ex18
      refine T0 14 hE hS rfl rfl rfl (by kernel_rfl) (fun _=>aN rfl hE rfl rfl b41r) fun a hE hS=>?_
      refine W1 15 (by kernel_rfl) rfl ?_
      refine J5 (wk0 rfl) rfl hE hp rfl rfl rfl 0 rfl b39h ex16 ex18 b41v 0 (e':=x14) aT.size_ rfl rfl rfl ⟨rfl,rfl⟩ ?_
      intro w hp
      have hp:Hp Z ((((((ρ.un k1).un k2).un k3).un k4).un k5).un k6) (cO 73 3 vr22 usr22 (iY.set x15.toNat (x16.set x17.toNat x14):(List (List Int)))::_::_::_::_::_::_::_::_::_::L) w:=hp
      refine aB (aF ⟨gp0 hp,dead (by kernel_rfl),gp 6 hp rfl,gp 7 hp rfl,trivial⟩ fun hS=>?_)
      exact bP (by kernel_rfl) ⟨hE.cut ⟨rfl,rfl,rfl,rfl,rfl,rfl,rfl,rfl,rfl,rfl,trivial⟩,hp⟩
     rintro a w ⟨hE,hp⟩
     refine aA ?_
     obtain⟨x19,ex19,hl4⟩:=bnd hl4
     refine V hE hp rfl (bF rfl hE rfl rfl (aO ex19)) fun a hE=>S hE 1 rfl fun a hE=>aB ?_
     exact⟨_,(oj hl4).symm,hE.cut ⟨rfl,rfl,rfl,rfl,rfl,rfl,rfl,rfl,rfl,rfl,trivial⟩,hp⟩
    replace hl4:=(ie hc8).symm.trans hl4
    refine dS ?_
    refine⟨_,(oj hl4).symm,fun hbb=>?_⟩
    subst hbb
    exact⟨hE.cut ⟨rfl,rfl,rfl,rfl,rfl,rfl,trivial⟩,hp⟩
   rintro a w ⟨hE,hp⟩
   refine aA ?_
   obtain⟨x20,ex20,hl3⟩:=bnd hl3
   refine V hE hp rfl (bF rfl hE rfl rfl (aO ex20)) fun a hE=>S hE 1 rfl fun a hE=>aB ?_
   exact⟨_,(oj hl3).symm,hE.cut ⟨rfl,rfl,rfl,rfl,rfl,rfl,trivial⟩,hp⟩
  replace hl3:=(ie hc6).symm.trans hl3
  refine dS ?_
  refine⟨_,(oj hl3).symm,fun hbb=>?_⟩
  subst hbb
  exact⟨hE.cut ⟨rfl,trivial⟩,hp⟩
 rintro a w ⟨hE,hp⟩
 refine aG (aA ?_)
 refine S hE 2 rfl fun a hE=>aB (bZ ?_)
 obtain rfl:=oj hm
 exact gJ hE rfl rfl ⟨_,rfl,_,_,rfl,((((((((((((((((((((((((hp.get 9 rfl).drop).get 8 rfl).drop).get 7 rfl).drop).get 6 rfl).drop).get 5 rfl).drop).get 4 rfl).drop).get 3 rfl).drop).get 2 rfl).drop).get 1 rfl).drop).less (PH.le_un _ k6)).less (PH.le_un _ k5)).less (PH.le_un _ k4)).less (PH.le_un _ k3)).less (PH.le_un _ k2)).less (PH.le_un _ k1))⟩
theorem aH4 {Z:World} {ρ:PH} {L:List bK} {w:World} (p0:Node) (aI:Value) (bD:aH ρ aI p0.kids) (p1:Node) (aJ:Value) (bH:aH ρ aJ p1.kids) (hp:Hp Z ρ (L) w) (r:((List (List Int))×Int)) (hm:xJ p0 p1=some r):
  Calls Tryz.prog 48 #[(.agg #[(Iv p0.kind),(.string p0.text),(Iv p0.at_),(Iv p0.fin),aI]),(.agg #[(Iv p1.kind),(.string p1.text),(Iv p1.at_),(Iv p1.fin),aJ])] w (Ret fun v w'=>∃(vr1:Value) (usr1:List Sl),v= .tuple #[vr1,(Iv r.2)]∧Hp Z ρ (cO 73 3 vr1 usr1 (r.1:(List (List Int)))::L) w'):=by
 refine enter (N:=13) Tryz.func48 rfl rfl [(0,(.agg #[(Iv p0.kind),(.string p0.text),(Iv p0.at_),(Iv p0.fin),aI])),(1,(.agg #[(Iv p1.kind),(.string p1.text),(Iv p1.at_),(Iv p1.fin),aJ]))] rfl (bC ⟨rfl,rfl,trivial⟩) fun a hE=>?_
 unfold xJ at hm
 refine aG (aA ?_)
 refine iI (wk0 rfl) rfl rfl hE hp rfl (v:=(.agg #[(Iv p0.kind),(.string p0.text),(Iv p0.at_),(Iv p0.fin),aI])) rfl ?_
 intro a w b1 hE hp
 have hp:=r1 hp
 refine iI (wk0 rfl) rfl rfl hE hp rfl (v:=(.agg #[(Iv p1.kind),(.string p1.text),(Iv p1.at_),(Iv p1.fin),aJ])) rfl ?_
 intro a w b2 hE hp
 have hp:=r2 hp
 refine S hE 2 rfl fun a hE=>aB (aG ?_)
 refine aG (aA ?_)
 refine V hE hp rfl (aK rfl hE rfl (fun w hw=>aW (cs:=[(Iv p0.kind),(.string p0.text),(Iv p0.at_),(Iv p0.fin),aI]) bY (Hp.cN 1 rfl 0 _ (aS rfl) w hw))) fun a hE=>V hE hp rfl (aK rfl hE rfl (fun w hw=>aW (cs:=[(Iv p1.kind),(.string p1.text),(Iv p1.at_),(Iv p1.fin),aJ]) bY (Hp.cN 0 rfl 0 _ (aS rfl) w hw))) fun a hE=>?_
 refine fP (wk0 rfl) rfl rfl hE hp rfl [(0,(.agg #[(Iv p0.kind),(.string p0.text),(Iv p0.at_),(Iv p0.fin),aI])),(1,(.agg #[(Iv p1.kind),(.string p1.text),(Iv p1.at_),(Iv p1.fin),aJ]))] ⟨⟨rfl,rfl⟩,⟨rfl,rfl⟩,trivial⟩ [(Iv p0.kind),(.string p0.text),(Iv p0.at_),(Iv p0.fin),aI,(Iv p1.kind),(.string p1.text),(Iv p1.at_),(Iv p1.fin),aJ] 24 (fun w=>by have hc0:=aH.cells bD;simp only[Value.cells] at hc0;have hc1:=aH.cells bH;simp only[Value.cells] at hc1;simp[Instr.buildSlice,Instr.fill,Value.cells,hc0,hc1,go_sem]) ?_
 intro a w b3 hE hp
 have hp:=r3 hp
 obtain⟨k1,k1a,k1d,hp⟩:=(hp.get 0 rfl).lend
 have f1:aH (ρ.un k1) (.slice (some ⟨b3,0,none⟩) 2 2) ([p0,p1]:List Node):=aH.of_all (l:=(([p0,p1]:List Node))) k1d k1a ⟨_,_,rfl,(show NodeAt (ρ.un k1) p0 [(Iv p0.kind),(.string p0.text),(Iv p0.at_),(Iv p0.fin),aI] from NodeAt.shutv ((aH.mono bD (PH.le_un _ k1)))),⟨_,_,rfl,(show NodeAt (ρ.un k1) p1 [(Iv p1.kind),(.string p1.text),(Iv p1.at_),(Iv p1.fin),aJ] from NodeAt.shutv ((aH.mono bH (PH.le_un _ k1)))),rfl⟩⟩
 have hp:=r2 hp
 obtain⟨x1,ex1,hm⟩:=bnd hm
 refine Cl hE rfl rfl ent67 (aK4 ([p0,p1]:List Node) (.slice (some ⟨b3,0,none⟩) 2 2) f1 hp x1 ex1) ⟨rfl,trivial⟩ fun v a w hR hE=>?_
 obtain⟨rfl,hp⟩:=hR
 have hp:=r2 hp
 refine aB ?_
 refine dE hE rfl (fun hc1=>?_) (fun hc1=>?_)
 ·replace hm:=(it hc1).symm.trans hm
  refine aG (aA ?_)
  refine S hE 2 rfl fun a hE=>aB (bZ ?_)
  have hp:=hp.emp (cO.none (α:=Int) 73 3 none)
  have hp:=r3 hp
  obtain rfl:=oj hm
  exact yU hE rfl rfl rfl ⟨_,rfl,_,_,rfl,(((((hp.get 2 rfl).drop).get 1 rfl).drop).less (PH.le_un _ k1))⟩
 replace hm:=(ie hc1).symm.trans hm
 refine aZ (aG ?_)
 refine aA (V hE hp rfl (aK rfl hE rfl (fun w hw=>aW (cs:=[(Iv p0.kind),(.string p0.text),(Iv p0.at_),(Iv p0.fin),aI]) bY (Hp.cN 1 rfl 0 _ (aS rfl) w hw))) fun a hE=>?_)
 refine V hE hp rfl (aK rfl hE rfl (fun w hw=>aW (cs:=[(Iv p1.kind),(.string p1.text),(Iv p1.at_),(Iv p1.fin),aJ]) bY (Hp.cN 0 rfl 0 _ (aS rfl) w hw))) fun a hE=>?_
 obtain⟨x2,ex2,hm⟩:=bnd hm
 refine s_call (wk0 rfl) rfl rfl hE rfl [(.agg #[(Iv p0.kind),(.string p0.text),(Iv p0.at_),(Iv p0.fin),aI]),(.agg #[(Iv p1.kind),(.string p1.text),(Iv p1.at_),(Iv p1.fin),aJ])] ⟨rfl,rfl,trivial⟩ ent68 (aH6 p0 aI (aH.mono bD (PH.le_un _ k1)) p1 aJ (aH.mono bH (PH.le_un _ k1)) hp x2 ex2) Ret.ret ?_
 intro vr2 a w hR hE
 obtain⟨u,usr2,rfl,hp⟩:=Ret.of hR
 have hp:=r3 hp
 refine S hE 2 rfl fun a hE=>aB (bZ ?_)
 obtain rfl:=oj hm
 exact yU hE rfl rfl rfl ⟨_,rfl,_,_,rfl,(((((hp.get 2 rfl).drop).get 1 rfl).drop).less (PH.le_un _ k1))⟩
end Go.Proofs.YtopnldfjcciieaaGreat

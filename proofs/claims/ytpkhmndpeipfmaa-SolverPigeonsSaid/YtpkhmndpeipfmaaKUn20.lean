/- The code goes as its model: assessor/assessorlaw28.awake. (Printed by wip/sp/gen.py.) -/
import Derived.Test.YtpkhmndpeipfmaaKUnT
import Derived.Test.YtpkhmndpeipfmaaKUn6
import Derived.Test.YtpkhmndpeipfmaaKUn15
import Derived.Test.YtpkhmndpeipfmaaKUn17
import Derived.Test.YtpkhmndpeipfmaaKUn19
set_option linter.unusedVariables false
set_option linter.unusedSimpArgs false
set_option maxRecDepth 100000
set_option maxHeartbeats 4000000
namespace Go.Proofs.Ytpkhmndpeipfmaa
open Go.RowKit
theorem vS {Z:World} {ρ:PH} {L:List bZ} {w:World} (hp:Hp Z ρ (L) w) (r:Bool) (hm:kX=some r):
  Calls Try.prog 10 #[] w (Ret fun v w'=>v=(.bool r)∧Hp Z ρ (L) w'):=by
 refine enter (N:=81) Try.func10 rfl rfl [] rfl (bM trivial) fun a hE=>?_
 unfold kX at hm
 refine aG (aB ?_)
 refine S hE 1 rfl fun a hE=>aC (aG ?_)
 refine aB ?_
 refine iP (wk0 rfl) rfl rfl hE hp rfl [(0,(Iv 1)),(1,(Iv 2))] ⟨⟨rfl,rfl⟩,⟨rfl,rfl⟩,trivial⟩ [(Iv 1),(Iv 2)] 3 (fun w=>by simp[Instr.buildSlice,Instr.fill,Value.cells,go_sem]) ?_
 intro a w b1 hE hp
 have hp:=r1 hp
 refine iP (wk0 rfl) rfl rfl hE hp rfl [(0,(Iv (-1))),(1,(Iv 2))] ⟨⟨rfl,rfl⟩,⟨rfl,rfl⟩,trivial⟩ [(Iv (-1)),(Iv 2)] 3 (fun w=>by simp[Instr.buildSlice,Instr.fill,Value.cells,go_sem]) ?_
 intro a w b2 hE hp
 have hp:=r2 hp
 refine iP (wk0 rfl) rfl rfl hE hp rfl [(0,(.slice (some ⟨b1,0,none⟩) 2 2)),(1,(.slice (some ⟨b2,0,none⟩) 2 2))] ⟨⟨rfl,rfl⟩,⟨rfl,rfl⟩,trivial⟩ [(.slice (some ⟨b1,0,none⟩) 2 2),(.slice (some ⟨b2,0,none⟩) 2 2)] 25 (fun w=>by simp[Instr.buildSlice,Instr.fill,Value.cells,go_sem]) ?_
 intro a w b3 hE hp
 have hp:=r3 hp
 have hp:=(hp.get 2 rfl).imp (oH (l:=(([1,2]:List Int):List Int)) (n:=2) rfl (by decide) rfl)
 have hp:=r3 hp
 have hp:=r3 hp
 have hp:=(hp.get 2 rfl).imp (oH (l:=(([(-1),2]:List Int):List Int)) (n:=2) rfl (by decide) rfl)
 have hp:=r3 hp
 have hp:=r3 hp
 obtain⟨sl1,sl1e⟩:=aA.toSl hp 1 rfl
 obtain⟨sl2,sl2e⟩:=aA.toSl hp 0 rfl
 have hp:=Hp.rowsNil (α:=Int) 3 hp
 have hp:=Hp.rowsCons sl2e (hp.get 1 rfl)
 have hp:=Hp.rowsCons sl1e (hp.get 1 rfl)
 have hp:=r2 hp
 have hp:=Hp.tblShut (hp.front2 0 rfl (oH (α:=Sl) (l:=[sl1,sl2]) (n:=2) rfl (by decide) (by simp[flat,Enc.enc,sl1e,sl2e])))
 have hp:=r1 hp
 refine V hE hp rfl (v:=(.agg #[(Iv 2),(.slice (some ⟨b3,0,none⟩) 2 2)])) (qN rfl hE [(0,(Iv 2)),(1,(.slice (some ⟨b3,0,none⟩) 2 2))] (by exact⟨⟨rfl,rfl⟩,⟨rfl,rfl⟩,trivial⟩) (fun w=>by have hc0:=bT.cells hp 0 rfl;simp only[Value.cells] at hc0;simp[Instr.build,Instr.fill,Value.cells,hc0,go_sem])) fun a hE=>?_
 refine qB (wk0 rfl) rfl rfl hE hp rfl [(Iv 0),N0] (fun w=>by simp[Instr.alloc,go_sem]<;>rfl) ?_
 intro a w b4 hE hp
 have hp:=r2 hp
 refine dO (wk0 rfl) rfl hE hp rfl rfl rfl 0 rfl fC.size_ rfl (bY ⟨rfl,(bT.one hp 1 rfl),trivial⟩) [(Iv 2),(.slice (some ⟨b3,0,none⟩) 2 2)] rfl ?_
 intro w hp
 have hp:=r2 hp
 refine aC (aG ?_)
 refine aB (V hE hp rfl (bD rfl hE rfl (fun w hw=>gB (cs:=[(Iv 2),(.slice (some ⟨b3,0,none⟩) 2 2)]) fC (Hp.cN 0 rfl 0 _ (bV rfl) w hw))) fun a hE=>?_)
 refine iP (wk0 rfl) rfl rfl hE hp rfl [(0,(Iv (-2)))] ⟨⟨rfl,rfl⟩,trivial⟩ [(Iv (-2))] 3 (fun w=>by simp[Instr.buildSlice,Instr.fill,Value.cells,go_sem]) ?_
 intro a w b5 hE hp
 have hp:=r3 hp
 have hp:=(hp.get 0 rfl).imp (oH (l:=(([(-2)]:List Int):List Int)) (n:=1) rfl (by decide) rfl)
 have hp:=r3 hp
 obtain⟨k1,k1a,k1d,k1h⟩:=(hp.get 2 rfl).lend
 obtain⟨k2,k2a,k2d,k2h⟩:=(k1h.get 0 rfl).lend
 obtain⟨x1,ex1,hm⟩:=bnd hm
 refine Cl hE rfl rfl ent12 (vG (Formula.mk 2 ([([1,2]:List Int),([(-1),2]:List Int)])) (.slice (some ⟨b3,0,none⟩) 2 2) (bW.mono (bT.ro k1d k1a) (PH.le_un _ _)) ([(-2)]:List Int) (.slice (some ⟨b5,0,none⟩) 1 1) (aA.ro k2d k2a) 100 k2h x1 ex1) ⟨rfl,rfl,rfl,trivial⟩ fun v a w hR hE=>?_
 obtain⟨qU,nS,sN,rfl,hp⟩:=hR
 have hp:=Hp.back k2a k2d hp
 have hp:=Hp.back k1a k1d hp
 have hp:=r5 hp
 refine S hE 3 rfl fun a hE=>?_
 refine qB (wk0 rfl) rfl rfl hE hp rfl [(Iv 0),N0,N0,(Iv 0)] (fun w=>by simp[Instr.alloc,go_sem]<;>rfl) ?_
 intro a w b6 hE hp
 have hp:=r6 hp
 refine dO (wk0 rfl) rfl hE hp rfl rfl rfl 0 rfl fE.size_ rfl (bY ⟨rfl,(aA.one hp 3 rfl),(bT.one hp 4 rfl),rfl,trivial⟩) [(Iv x1.1.kind),qU,nS,(Iv x1.1.conflicts)] rfl ?_
 intro w hp
 have hp:=r6 hp
 refine S hE 1 rfl fun a hE=>aC (aG ?_)
 refine aB (V hE hp rfl (bD rfl hE rfl (fun w hw=>gB (cs:=[(Iv 2),(.slice (some ⟨b3,0,none⟩) 2 2)]) fC (Hp.cN 5 rfl 0 _ (bV rfl) w hw))) fun a hE=>?_)
 obtain⟨k3,k3a,k3d,k3h⟩:=(hp.get 1 rfl).lend
 obtain⟨x2,ex2,hm⟩:=bnd hm
 refine Cl hE rfl rfl ent12 (vG (Formula.mk 2 ([([1,2]:List Int),([(-1),2]:List Int)])) (.slice (some ⟨b3,0,none⟩) 2 2) (bT.ro k3d k3a) [] N0 (bW.nil _) 100 k3h x2 ex2) ⟨rfl,rfl,rfl,trivial⟩ fun v a w hR hE=>?_
 obtain⟨qV,rV,usr3_proof,rfl,hp⟩:=hR
 have hp:=Hp.back k3a k3d hp
 have hp:=r8 hp
 refine S hE 3 rfl fun a hE=>?_
 refine qB (wk0 rfl) rfl rfl hE hp rfl [(Iv 0),N0,N0,(Iv 0)] (fun w=>by simp[Instr.alloc,go_sem]<;>rfl) ?_
 intro a w b7 hE hp
 have hp:=r9 hp
 refine dO (wk0 rfl) rfl hE hp rfl rfl rfl 0 rfl fE.size_ rfl (bY ⟨rfl,(aA.one hp 2 rfl),(bT.one hp 3 rfl),rfl,trivial⟩) [(Iv x2.1.kind),qV,rV,(Iv x2.1.conflicts)] rfl ?_
 intro w hp
 have hp:=r9 hp
 refine S hE 1 rfl fun a hE=>aC (aG ?_)
 refine aB (V hE hp rfl (bD rfl hE rfl (fun w hw=>gB (cs:=[(Iv 2),(.slice (some ⟨b3,0,none⟩) 2 2)]) fC (Hp.cN 8 rfl 0 _ (bV rfl) w hw))) fun a hE=>?_)
 refine iP (wk0 rfl) rfl rfl hE hp rfl [(0,(Iv 1)),(1,(Iv 2))] ⟨⟨rfl,rfl⟩,⟨rfl,rfl⟩,trivial⟩ [(Iv 1),(Iv 2)] 3 (fun w=>by simp[Instr.buildSlice,Instr.fill,Value.cells,go_sem]) ?_
 intro a w b8 hE hp
 have hp:=r10 hp
 have hp:=(hp.get 0 rfl).imp (oH (l:=(([1,2]:List Int):List Int)) (n:=2) rfl (by decide) rfl)
 have hp:=r10 hp
 obtain⟨k4,k4a,k4d,k4h⟩:=(hp.get 2 rfl).lend
 obtain⟨k5,k5a,k5d,k5h⟩:=(k4h.get 0 rfl).lend
 obtain⟨x3,ex3,hm⟩:=bnd hm
 refine Cl hE rfl rfl ent17 (c_solver_Least (Formula.mk 2 ([([1,2]:List Int),([(-1),2]:List Int)])) (.slice (some ⟨b3,0,none⟩) 2 2) (bW.mono (bT.ro k4d k4a) (PH.le_un _ _)) ([1,2]:List Int) (.slice (some ⟨b8,0,none⟩) 2 2) (aA.ro k5d k5a) 100 k5h x3 ex3) ⟨rfl,rfl,rfl,trivial⟩ fun v a w hR hE=>?_
 obtain⟨vr5_model,vr5_proof,usr5_proof,rfl,hp⟩:=hR
 have hp:=Hp.back k5a k5d hp
 have hp:=Hp.back k4a k4d hp
 have hp:=r12 hp
 refine S hE 3 rfl fun a hE=>?_
 refine qB (wk0 rfl) rfl rfl hE hp rfl [(Iv 0),N0,N0,(Iv 0)] (fun w=>by simp[Instr.alloc,go_sem]<;>rfl) ?_
 intro a w b9 hE hp
 have hp:=r13 hp
 refine dO (wk0 rfl) rfl hE hp rfl rfl rfl 0 rfl fE.size_ rfl (bY ⟨rfl,(aA.one hp 3 rfl),(bT.one hp 4 rfl),rfl,trivial⟩) [(Iv x3.1.kind),vr5_model,vr5_proof,(Iv x3.1.conflicts)] rfl ?_
 intro w hp
 have hp:=r13 hp
 refine S hE 1 rfl fun a hE=>aC ?_
 have hE:=hE.cut (E':=[(1,(Pv b4 0)),(2,(Pv b6 0)),(3,(Iv x1.2)),(4,(Pv b7 0)),(5,(Iv x2.2)),(6,(Pv b9 0)),(7,(Iv x3.2))]) ⟨rfl,rfl,rfl,rfl,rfl,rfl,rfl,trivial⟩
 refine aG ?_
 obtain⟨m1,hg1,hm⟩:=bnd hm
 obtain⟨m2,hg2,hm⟩:=bnd hm
 obtain⟨m3,hg3,hm⟩:=bnd hm
 have hp:=hp.drew
 refine jS ([([],At0 Z ρ),([],At1 Z ρ (Pt b9 (.cells #[(Iv x3.1.kind),vr5_model,vr5_proof,(Iv x3.1.conflicts)] 29 (0,0)))),([],At1 Z ρ (Pt b7 (.cells #[(Iv x2.1.kind),qV,rV,(Iv x2.1.conflicts)] 29 (0,0)))),([],At1 Z ρ (aA 3 qV x2.1.model)),([],At1 Z ρ (Pt b6 (.cells #[(Iv x1.1.kind),qU,nS,(Iv x1.1.conflicts)] 29 (0,0)))),([10],At1 Z ρ (Pt b4 (.cells #[(Iv 2),(.slice (some ⟨b3,0,none⟩) 2 2)] 24 (0,0))))]:Facts) (fun a w=>Env 81 [(0,(.bool m3))] a∧Hp Z ρ (L) w) (by kernel_rfl) ⟨fun _=>⟨_,hp⟩,fun _=>⟨_,(hp.get 0 rfl)⟩,fun _=>⟨_,(hp.get 5 rfl)⟩,fun _=>⟨_,(hp.get 6 rfl)⟩,fun _=>⟨_,(hp.get 8 rfl)⟩,fun _=>⟨_,(hp.get 12 rfl)⟩,trivial⟩ (fun hS=>?_) ?_
 ·
  generalize w.drew=w at hS hp⊢
  refine Ts [0,1,2] hE hS rfl rfl (by kernel_rfl) fun a hE hS=>?_
  rcases Bool.eq_false_or_eq_true (decide (x1.2=0)) with hc10|hc10
  ·
   refine Tg0 3 hE hc10 hS rfl rfl rfl (by kernel_rfl) (fun _=>xf hE sU rfl rfl) fun a hE hS=>Tg 4 4 hE hc10 hS rfl rfl rfl (by kernel_rfl) (fun _=>xl hE bG 0 rfl rfl rfl rfl) fun a hE hS=>Tg0 5 hE hc10 hS rfl rfl rfl (by kernel_rfl) (fun _=>V4 rfl hE rfl rfl) fun a hE hS=>T0 6 hE hS rfl rfl rfl (by kernel_rfl) (fun _=>oW rfl hE rfl hc10 rfl) fun a hE hS=>?_
   have hE:=hE.eqv (v':=(.bool ((decide (x1.2=0))&&(decide (x1.1.kind=1))))) (by rw[hc10];rfl)
   refine Ts [7] hE hS rfl rfl (by kernel_rfl) fun a hE hS=>?_
   rcases Bool.eq_false_or_eq_true ((decide (x1.2=0))&&(decide (x1.1.kind=1))) with hc11|hc11
   ·
    have hg1:=(it hc11).symm.trans hg1
    obtain⟨x4,ex4,hg1⟩:=bnd hg1
    obtain⟨x5,ex5,hg1⟩:=bnd hg1
    refine Tg 8 5 hE hc11 hS rfl rfl rfl (by kernel_rfl) (fun _=>bD rfl hE rfl (fun w hw=>gB (cs:=[(Iv 2),(.slice (some ⟨b3,0,none⟩) 2 2)]) fC (Hp.cN 0 rfl 0 _ (bV rfl) w hw))) fun a hE hS=>Tg0 11 hE hc11 hS rfl rfl rfl (by kernel_rfl) (fun _=>xf hE fldty29_2 rfl rfl) fun a hE hS=>Tg 12 4 hE hc11 hS rfl rfl rfl (by kernel_rfl) (fun _=>xl hE jD 0 rfl rfl rfl rfl) fun a hE hS=>?_
    refine W1 9 (by kernel_rfl) rfl ?_
    refine iP (wk1 hE rfl rfl rfl hc11) rfl rfl hE hp rfl [(0,(Iv (-2)))] ⟨⟨rfl,rfl⟩,trivial⟩ [(Iv (-2))] 3 (fun w=>by simp[Instr.buildSlice,Instr.fill,Value.cells,go_sem]) ?_
    intro a w b13 hE hp
    have hp:=r14 hp
    refine aC (aI ⟨gp0 hp,gp 1 hp rfl,gp 6 hp rfl,gp 7 hp rfl,gp 9 hp rfl,gp 13 hp rfl,trivial⟩ fun hS=>?_)
    refine W1 10 (by kernel_rfl) rfl ?_
    obtain⟨k11,k11a,k11d,hp⟩:=(hp.get 2 rfl).lend
    have f3:bW (ρ.un k11) (.slice (some ⟨b3,0,none⟩) 2 2) ([([1,2]:List Int),([(-1),2]:List Int)]:(List (List Int))):=bT.ro k11d k11a
    have hp:=r13 hp
    have hp:=(hp.get 0 rfl).imp (oH (l:=(([(-2)]:List Int):List Int)) (n:=1) rfl (by decide) rfl)
    have hp:=r13 hp
    obtain⟨k12,k12a,k12d,hp⟩:=(hp.get 0 rfl).lend
    have f4:bW ((ρ.un k11).un k12) (.slice (some ⟨b13,0,none⟩) 1 1) ([(-2)]:List Int):=aA.ro k12d k12a
    have hp:Hp Z ((ρ.un k11).un k12) (_::_::_::_::_::_::_::_::_::_::_::_::L) w:=hp
    refine Cg hE hc11 rfl rfl ent26 (U7 (Formula.mk 2 ([([1,2]:List Int),([(-1),2]:List Int)])) (.slice (some ⟨b3,0,none⟩) 2 2) (bW.mono f3 (PH.le_un _ k12)) ([(-2)]:List Int) (.slice (some ⟨b13,0,none⟩) 1 1) f4 hp x4 ex4) ⟨rfl,rfl,trivial⟩ fun v a w hR hE=>?_
    obtain⟨ρ2,vr10_clauses,hle2,rfl,hr10_clauses,hp⟩:=hR
    have hp:=r12 hp
    refine aC (aI ⟨fun _=>⟨_,(((hp.less hle2).less (PH.le_un _ k12)).less (PH.le_un _ k11))⟩,fun _=>⟨_,((((hp.get 0 rfl).less hle2).less (PH.le_un _ k12)).less (PH.le_un _ k11))⟩,fun _=>⟨_,((((hp.get 4 rfl).less hle2).less (PH.le_un _ k12)).less (PH.le_un _ k11))⟩,fun _=>⟨_,((((hp.get 5 rfl).less hle2).less (PH.le_un _ k12)).less (PH.le_un _ k11))⟩,fun _=>⟨_,((((hp.get 7 rfl).less hle2).less (PH.le_un _ k12)).less (PH.le_un _ k11))⟩,dead (by kernel_rfl),trivial⟩ fun hS=>?_)
    refine W1 13 (by kernel_rfl) rfl ?_
    obtain⟨k13,k13a,k13d,k13h⟩:=(hp.get 10 rfl).lend
    refine Cg hE hc11 rfl rfl ent21 (zS x4 vr10_clauses (bW.mono hr10_clauses (PH.le_un _ _)) x1.1.proof nS (bT.ro k13d k13a) k13h x5 ex5) ⟨rfl,rfl,trivial⟩ fun v a w hR hE=>?_
    obtain⟨rfl,hp⟩:=hR
    have hp:=Hp.back k13a k13d hp
    have hp:=r12 hp
    refine aC (aI ⟨fun _=>⟨_,(((hp.less hle2).less (PH.le_un _ k12)).less (PH.le_un _ k11))⟩,fun _=>⟨_,((((hp.get 1 rfl).less hle2).less (PH.le_un _ k12)).less (PH.le_un _ k11))⟩,fun _=>⟨_,((((hp.get 5 rfl).less hle2).less (PH.le_un _ k12)).less (PH.le_un _ k11))⟩,fun _=>⟨_,((((hp.get 6 rfl).less hle2).less (PH.le_un _ k12)).less (PH.le_un _ k11))⟩,fun _=>⟨_,((((hp.get 8 rfl).less hle2).less (PH.le_un _ k12)).less (PH.le_un _ k11))⟩,dead (by kernel_rfl),trivial⟩ fun hS=>?_)
    refine T0 14 hE hS rfl rfl rfl (by kernel_rfl) (fun _=>oW rfl hE rfl hc11 rfl) fun a hE hS=>?_
    have hE:=hE.eqv (v':=(.bool m1)) (congrArg Value.bool (oj hg1))
    refine Ts [15] hE hS rfl rfl (by kernel_rfl) fun a hE hS=>?_
    rcases Bool.eq_false_or_eq_true m1 with hc12|hc12
    ·
     refine Tg0 16 hE hc12 hS rfl rfl rfl (by kernel_rfl) (fun _=>oC rfl hE rfl) fun a hE hS=>Tg0 17 hE hc12 hS rfl rfl rfl (by kernel_rfl) (fun _=>V4 rfl hE rfl rfl) fun a hE hS=>T0 18 hE hS rfl rfl rfl (by kernel_rfl) (fun _=>oW rfl hE rfl hc12 rfl) fun a hE hS=>?_
     have hE:=hE.eqv (v':=(.bool (m1&&(decide (x2.2=0))))) (by rw[hc12];rfl)
     refine Ts [19] hE hS rfl rfl (by kernel_rfl) fun a hE hS=>?_
     rcases Bool.eq_false_or_eq_true (m1&&(decide (x2.2=0))) with hc13|hc13
     ·
      refine Tg0 20 hE hc13 hS rfl rfl rfl (by kernel_rfl) (fun _=>xf hE sU rfl rfl) fun a hE hS=>Tg 21 2 hE hc13 hS rfl rfl rfl (by kernel_rfl) (fun _=>xl hE bG 0 rfl rfl rfl rfl) fun a hE hS=>Tg0 22 hE hc13 hS rfl rfl rfl (by kernel_rfl) (fun _=>V4 rfl hE rfl rfl) fun a hE hS=>T0 23 hE hS rfl rfl rfl (by kernel_rfl) (fun _=>oW rfl hE rfl hc13 rfl) fun a hE hS=>?_
      have hE:=hE.eqv (v':=(.bool ((m1&&(decide (x2.2=0)))&&(decide (x2.1.kind=0))))) (by rw[hc13];rfl)
      refine Ts [24] hE hS rfl rfl (by kernel_rfl) fun a hE hS=>?_
      rcases Bool.eq_false_or_eq_true ((m1&&(decide (x2.2=0)))&&(decide (x2.1.kind=0))) with hc14|hc14
      ·
       refine Tg0 25 hE hc14 hS rfl rfl rfl (by kernel_rfl) (fun _=>xf hE vX rfl rfl) fun a hE hS=>Tg 26 2 hE hc14 hS rfl rfl rfl (by kernel_rfl) (fun _=>xl hE bJ 0 rfl rfl rfl rfl) fun a hE hS=>Tg0 27 hE hc14 hS rfl rfl rfl (by kernel_rfl) (fun _=>dL rfl hE rfl (aA.len hp 6 rfl bC)) fun a hE hS=>Tg0 28 hE hc14 hS rfl rfl rfl (by kernel_rfl) (fun _=>V4 rfl hE rfl rfl) fun a hE hS=>T0 29 hE hS rfl rfl rfl (by kernel_rfl) (fun _=>oW rfl hE rfl hc14 rfl) fun a hE hS=>?_
       have hE:=hE.eqv (v':=(.bool (((m1&&(decide (x2.2=0)))&&(decide (x2.1.kind=0)))&&(decide ((x2.1.model.length:Int)=2))))) (by rw[hc14];rfl)
       refine Ts [30] hE hS rfl rfl (by kernel_rfl) fun a hE hS=>?_
       rcases Bool.eq_false_or_eq_true (((m1&&(decide (x2.2=0)))&&(decide (x2.1.kind=0)))&&(decide ((x2.1.model.length:Int)=2))) with hc15|hc15
       ·
        have hg2:=(it hc15).symm.trans hg2
        obtain⟨x6,ex6,hg2⟩:=bnd hg2
        refine Tg0 31 hE hc15 hS rfl rfl rfl (by kernel_rfl) (fun _=>xf hE vX rfl rfl) fun a hE hS=>Tg 32 2 hE hc15 hS rfl rfl rfl (by kernel_rfl) (fun _=>xl hE bJ 0 rfl rfl rfl rfl) fun a hE hS=>?_
        obtain⟨b14,b14o,b14r,b14v,b14f⟩:=aA.at hp 6 rfl bC ex6
        refine Tg0 33 hE hc15 hS rfl rfl rfl (by kernel_rfl) (fun _=>aU rfl hE rfl rfl b14r) fun a hE hS=>Tg 34 3 hE hc15 hS rfl rfl rfl (by kernel_rfl) (fun _=>bD rfl hE rfl (fun w hw=>bH bG (b14f 0 _ rfl _ _ w (hw.get 0 rfl)))) fun a hE hS=>Tg0 35 hE hc15 hS rfl rfl rfl (by kernel_rfl) (fun _=>V4 rfl hE rfl rfl) fun a hE hS=>T0 36 hE hS rfl rfl rfl (by kernel_rfl) (fun _=>oW rfl hE rfl hc15 rfl) fun a hE hS=>?_
        have hE:=hE.eqv (v':=(.bool m2)) (congrArg Value.bool (oj hg2))
        refine Ts [37] hE hS rfl rfl (by kernel_rfl) fun a hE hS=>?_
        rcases Bool.eq_false_or_eq_true m2 with hc16|hc16
        ·
         refine Tg0 38 hE hc16 hS rfl rfl rfl (by kernel_rfl) (fun _=>oC rfl hE rfl) fun a hE hS=>Tg0 39 hE hc16 hS rfl rfl rfl (by kernel_rfl) (fun _=>V4 rfl hE rfl rfl) fun a hE hS=>T0 40 hE hS rfl rfl rfl (by kernel_rfl) (fun _=>oW rfl hE rfl hc16 rfl) fun a hE hS=>?_
         have hE:=hE.eqv (v':=(.bool (m2&&(decide (x3.2=0))))) (by rw[hc16];rfl)
         refine Ts [41] hE hS rfl rfl (by kernel_rfl) fun a hE hS=>?_
         rcases Bool.eq_false_or_eq_true (m2&&(decide (x3.2=0))) with hc17|hc17
         ·
          refine Tg0 42 hE hc17 hS rfl rfl rfl (by kernel_rfl) (fun _=>xf hE sU rfl rfl) fun a hE hS=>Tg 43 1 hE hc17 hS rfl rfl rfl (by kernel_rfl) (fun _=>xl hE bG 0 rfl rfl rfl rfl) fun a hE hS=>Tg0 44 hE hc17 hS rfl rfl rfl (by kernel_rfl) (fun _=>V4 rfl hE rfl rfl) fun a hE hS=>T0 45 hE hS rfl rfl rfl (by kernel_rfl) (fun _=>oW rfl hE rfl hc17 rfl) fun a hE hS=>?_
          have hE:=hE.eqv (v':=(.bool ((m2&&(decide (x3.2=0)))&&(decide (x3.1.kind=0))))) (by rw[hc17];rfl)
          refine Ts [46] hE hS rfl rfl (by kernel_rfl) fun a hE hS=>?_
          rcases Bool.eq_false_or_eq_true ((m2&&(decide (x3.2=0)))&&(decide (x3.1.kind=0))) with hc18|hc18
          ·
           have hg3:=(it hc18).symm.trans hg3
           obtain⟨x7,ex7,hg3⟩:=bnd hg3
           refine Tg0 47 hE hc18 hS rfl rfl rfl (by kernel_rfl) (fun _=>xf hE vX rfl rfl) fun a hE hS=>Tg 48 1 hE hc18 hS rfl rfl rfl (by kernel_rfl) (fun _=>xl hE bJ 0 rfl rfl rfl rfl) fun a hE hS=>?_
           refine W1 49 (by kernel_rfl) rfl ?_
           refine iP (wk1 hE rfl rfl rfl hc18) rfl rfl hE hp rfl [(0,(Iv (-1))),(1,(Iv 2))] ⟨⟨rfl,rfl⟩,⟨rfl,rfl⟩,trivial⟩ [(Iv (-1)),(Iv 2)] 3 (fun w=>by simp[Instr.buildSlice,Instr.fill,Value.cells,go_sem]) ?_
           intro a w b15 hE hp
           have hp:=r13 hp
           refine aC (aI ⟨fun _=>⟨_,(((hp.less hle2).less (PH.le_un _ k12)).less (PH.le_un _ k11))⟩,fun _=>⟨_,((((hp.get 2 rfl).less hle2).less (PH.le_un _ k12)).less (PH.le_un _ k11))⟩,fun _=>⟨_,((((hp.get 6 rfl).less hle2).less (PH.le_un _ k12)).less (PH.le_un _ k11))⟩,fun _=>⟨_,((((hp.get 7 rfl).less hle2).less (PH.le_un _ k12)).less (PH.le_un _ k11))⟩,fun _=>⟨_,((((hp.get 9 rfl).less hle2).less (PH.le_un _ k12)).less (PH.le_un _ k11))⟩,dead (by kernel_rfl),trivial⟩ fun hS=>?_)
           refine W1 50 (by kernel_rfl) rfl ?_
           have hp:=(hp.get 0 rfl).imp (oH (l:=(([(-1),2]:List Int):List Int)) (n:=2) rfl (by decide) rfl)
           have hp:=r13 hp
           obtain⟨k14,k14a,k14d,k14h⟩:=(hp.get 4 rfl).lend
           obtain⟨k15,k15a,k15d,k15h⟩:=(k14h.get 0 rfl).lend
           refine Cg hE hc18 rfl rfl ent27 (D9 x3.1.model vr5_model (bW.mono (aA.ro k14d k14a) (PH.le_un _ _)) ([(-1),2]:List Int) (.slice (some ⟨b15,0,none⟩) 2 2) (aA.ro k15d k15a) k15h x7 ex7) ⟨rfl,rfl,trivial⟩ fun v a w hR hE=>?_
           obtain⟨rfl,hp⟩:=hR
           have hp:=Hp.back k15a k15d hp
           have hp:=Hp.back k14a k14d hp
           have hp:=r13 hp
           refine aC (aI ⟨fun _=>⟨_,(((hp.less hle2).less (PH.le_un _ k12)).less (PH.le_un _ k11))⟩,fun _=>⟨_,((((hp.get 3 rfl).less hle2).less (PH.le_un _ k12)).less (PH.le_un _ k11))⟩,fun _=>⟨_,((((hp.get 6 rfl).less hle2).less (PH.le_un _ k12)).less (PH.le_un _ k11))⟩,fun _=>⟨_,((((hp.get 7 rfl).less hle2).less (PH.le_un _ k12)).less (PH.le_un _ k11))⟩,fun _=>⟨_,((((hp.get 9 rfl).less hle2).less (PH.le_un _ k12)).less (PH.le_un _ k11))⟩,dead (by kernel_rfl),trivial⟩ fun hS=>?_)
           refine T0 51 hE hS rfl rfl rfl (by kernel_rfl) (fun _=>oW rfl hE rfl hc18 rfl) fun a hE hS=>?_
           have hE:=hE.eqv (v':=(.bool m3)) (congrArg Value.bool (oj hg3))
           refine Ts [52] hE hS rfl rfl (by kernel_rfl) fun a hE hS=>?_
           exact eG (by kernel_rfl) ⟨hE.cut ⟨rfl,trivial⟩,((((((((((((((((((((((((((((hp.get 12 rfl).drop).get 11 rfl).drop).get 10 rfl).drop).get 9 rfl).drop).get 8 rfl).drop).get 7 rfl).drop).get 6 rfl).drop).get 5 rfl).drop).get 4 rfl).drop).get 3 rfl).drop).get 2 rfl).drop).get 1 rfl).drop).drop).less hle2).less (PH.le_un _ k12)).less (PH.le_un _ k11))⟩
          have hg3:=(ie hc18).symm.trans hg3
          refine Tk 47 hE hc18 hS rfl rfl rfl (by kernel_rfl) fun a hE hS=>Tk 48 hE hc18 hS rfl rfl rfl (by kernel_rfl) fun a hE hS=>Tk 49 hE hc18 hS rfl rfl rfl (by kernel_rfl) fun a hE hS=>Tk 50 hE hc18 hS rfl rfl rfl (by kernel_rfl) fun a hE hS=>T0 51 hE hS rfl rfl rfl (by kernel_rfl) (fun _=>dI rfl hE rfl hc18 rfl) fun a hE hS=>?_
          have hE:=hE.eqv (v':=(.bool m3)) (congrArg Value.bool (oj hg3))
          refine Ts [52] hE hS rfl rfl (by kernel_rfl) fun a hE hS=>?_
          exact eG (by kernel_rfl) ⟨hE.cut ⟨rfl,trivial⟩,((((((((((((((((((((((((((hp.get 11 rfl).drop).get 10 rfl).drop).get 9 rfl).drop).get 8 rfl).drop).get 7 rfl).drop).get 6 rfl).drop).get 5 rfl).drop).get 4 rfl).drop).get 3 rfl).drop).get 2 rfl).drop).get 1 rfl).drop).drop).less hle2).less (PH.le_un _ k12)).less (PH.le_un _ k11))⟩
         refine Tk 42 hE hc17 hS rfl rfl rfl (by kernel_rfl) fun a hE hS=>Tk 43 hE hc17 hS rfl rfl rfl (by kernel_rfl) fun a hE hS=>Tk 44 hE hc17 hS rfl rfl rfl (by kernel_rfl) fun a hE hS=>T0 45 hE hS rfl rfl rfl (by kernel_rfl) (fun _=>dI rfl hE rfl hc17 rfl) fun a hE hS=>?_
         have hE:=hE.eqv (v':=(.bool ((m2&&(decide (x3.2=0)))&&(decide (x3.1.kind=0))))) (by rw[hc17];rfl)
         have hk1:((m2&&(decide (x3.2=0)))&&(decide (x3.1.kind=0)):Bool)=false:=by rw[hc17];rfl
         refine Ts [46] hE hS rfl rfl (by kernel_rfl) fun a hE hS=>?_
         have hg3:=(ie hk1).symm.trans hg3
         refine Tk 47 hE hk1 hS rfl rfl rfl (by kernel_rfl) fun a hE hS=>Tk 48 hE hk1 hS rfl rfl rfl (by kernel_rfl) fun a hE hS=>Tk 49 hE hk1 hS rfl rfl rfl (by kernel_rfl) fun a hE hS=>Tk 50 hE hk1 hS rfl rfl rfl (by kernel_rfl) fun a hE hS=>T0 51 hE hS rfl rfl rfl (by kernel_rfl) (fun _=>dI rfl hE rfl hk1 rfl) fun a hE hS=>?_
         have hE:=hE.eqv (v':=(.bool m3)) (congrArg Value.bool (oj hg3))
         refine Ts [52] hE hS rfl rfl (by kernel_rfl) fun a hE hS=>?_
         exact eG (by kernel_rfl) ⟨hE.cut ⟨rfl,trivial⟩,((((((((((((((((((((((((((hp.get 11 rfl).drop).get 10 rfl).drop).get 9 rfl).drop).get 8 rfl).drop).get 7 rfl).drop).get 6 rfl).drop).get 5 rfl).drop).get 4 rfl).drop).get 3 rfl).drop).get 2 rfl).drop).get 1 rfl).drop).drop).less hle2).less (PH.le_un _ k12)).less (PH.le_un _ k11))⟩
        refine Tk 38 hE hc16 hS rfl rfl rfl (by kernel_rfl) fun a hE hS=>Tk 39 hE hc16 hS rfl rfl rfl (by kernel_rfl) fun a hE hS=>T0 40 hE hS rfl rfl rfl (by kernel_rfl) (fun _=>dI rfl hE rfl hc16 rfl) fun a hE hS=>?_
        have hE:=hE.eqv (v':=(.bool (m2&&(decide (x3.2=0))))) (by rw[hc16];rfl)
        have hk2:(m2&&(decide (x3.2=0)):Bool)=false:=by rw[hc16];rfl
        refine Ts [41] hE hS rfl rfl (by kernel_rfl) fun a hE hS=>Tk 42 hE hk2 hS rfl rfl rfl (by kernel_rfl) fun a hE hS=>Tk 43 hE hk2 hS rfl rfl rfl (by kernel_rfl) fun a hE hS=>Tk 44 hE hk2 hS rfl rfl rfl (by kernel_rfl) fun a hE hS=>T0 45 hE hS rfl rfl rfl (by kernel_rfl) (fun _=>dI rfl hE rfl hk2 rfl) fun a hE hS=>?_
        have hE:=hE.eqv (v':=(.bool ((m2&&(decide (x3.2=0)))&&(decide (x3.1.kind=0))))) (by rw[hk2];rfl)
        have hk3:((m2&&(decide (x3.2=0)))&&(decide (x3.1.kind=0)):Bool)=false:=by rw[hk2];rfl
        refine Ts [46] hE hS rfl rfl (by kernel_rfl) fun a hE hS=>?_
        have hg3:=(ie hk3).symm.trans hg3
        refine Tk 47 hE hk3 hS rfl rfl rfl (by kernel_rfl) fun a hE hS=>Tk 48 hE hk3 hS rfl rfl rfl (by kernel_rfl) fun a hE hS=>Tk 49 hE hk3 hS rfl rfl rfl (by kernel_rfl) fun a hE hS=>Tk 50 hE hk3 hS rfl rfl rfl (by kernel_rfl) fun a hE hS=>T0 51 hE hS rfl rfl rfl (by kernel_rfl) (fun _=>dI rfl hE rfl hk3 rfl) fun a hE hS=>?_
        have hE:=hE.eqv (v':=(.bool m3)) (congrArg Value.bool (oj hg3))
        refine Ts [52] hE hS rfl rfl (by kernel_rfl) fun a hE hS=>?_
        exact eG (by kernel_rfl) ⟨hE.cut ⟨rfl,trivial⟩,((((((((((((((((((((((((((hp.get 11 rfl).drop).get 10 rfl).drop).get 9 rfl).drop).get 8 rfl).drop).get 7 rfl).drop).get 6 rfl).drop).get 5 rfl).drop).get 4 rfl).drop).get 3 rfl).drop).get 2 rfl).drop).get 1 rfl).drop).drop).less hle2).less (PH.le_un _ k12)).less (PH.le_un _ k11))⟩
       have hg2:=(ie hc15).symm.trans hg2
       refine Tk 31 hE hc15 hS rfl rfl rfl (by kernel_rfl) fun a hE hS=>Tk 32 hE hc15 hS rfl rfl rfl (by kernel_rfl) fun a hE hS=>Tk 33 hE hc15 hS rfl rfl rfl (by kernel_rfl) fun a hE hS=>Tk 34 hE hc15 hS rfl rfl rfl (by kernel_rfl) fun a hE hS=>Tk 35 hE hc15 hS rfl rfl rfl (by kernel_rfl) fun a hE hS=>T0 36 hE hS rfl rfl rfl (by kernel_rfl) (fun _=>dI rfl hE rfl hc15 rfl) fun a hE hS=>?_
       have hE:=hE.eqv (v':=(.bool m2)) (congrArg Value.bool (oj hg2))
       refine Ts [37] hE hS rfl rfl (by kernel_rfl) fun a hE hS=>Tk 38 hE (oj hg2).symm hS rfl rfl rfl (by kernel_rfl) fun a hE hS=>Tk 39 hE (oj hg2).symm hS rfl rfl rfl (by kernel_rfl) fun a hE hS=>T0 40 hE hS rfl rfl rfl (by kernel_rfl) (fun _=>dI rfl hE rfl (oj hg2).symm rfl) fun a hE hS=>?_
       have hE:=hE.eqv (v':=(.bool (m2&&(decide (x3.2=0))))) (by rw[(oj hg2).symm];rfl)
       have hk4:(m2&&(decide (x3.2=0)):Bool)=false:=by rw[(oj hg2).symm];rfl
       refine Ts [41] hE hS rfl rfl (by kernel_rfl) fun a hE hS=>Tk 42 hE hk4 hS rfl rfl rfl (by kernel_rfl) fun a hE hS=>Tk 43 hE hk4 hS rfl rfl rfl (by kernel_rfl) fun a hE hS=>Tk 44 hE hk4 hS rfl rfl rfl (by kernel_rfl) fun a hE hS=>T0 45 hE hS rfl rfl rfl (by kernel_rfl) (fun _=>dI rfl hE rfl hk4 rfl) fun a hE hS=>?_
       have hE:=hE.eqv (v':=(.bool ((m2&&(decide (x3.2=0)))&&(decide (x3.1.kind=0))))) (by rw[hk4];rfl)
       have hk5:((m2&&(decide (x3.2=0)))&&(decide (x3.1.kind=0)):Bool)=false:=by rw[hk4];rfl
       refine Ts [46] hE hS rfl rfl (by kernel_rfl) fun a hE hS=>?_
       have hg3:=(ie hk5).symm.trans hg3
       refine Tk 47 hE hk5 hS rfl rfl rfl (by kernel_rfl) fun a hE hS=>Tk 48 hE hk5 hS rfl rfl rfl (by kernel_rfl) fun a hE hS=>Tk 49 hE hk5 hS rfl rfl rfl (by kernel_rfl) fun a hE hS=>Tk 50 hE hk5 hS rfl rfl rfl (by kernel_rfl) fun a hE hS=>T0 51 hE hS rfl rfl rfl (by kernel_rfl) (fun _=>dI rfl hE rfl hk5 rfl) fun a hE hS=>?_
       have hE:=hE.eqv (v':=(.bool m3)) (congrArg Value.bool (oj hg3))
       refine Ts [52] hE hS rfl rfl (by kernel_rfl) fun a hE hS=>?_
       exact eG (by kernel_rfl) ⟨hE.cut ⟨rfl,trivial⟩,((((((((((((((((((((((((((hp.get 11 rfl).drop).get 10 rfl).drop).get 9 rfl).drop).get 8 rfl).drop).get 7 rfl).drop).get 6 rfl).drop).get 5 rfl).drop).get 4 rfl).drop).get 3 rfl).drop).get 2 rfl).drop).get 1 rfl).drop).drop).less hle2).less (PH.le_un _ k12)).less (PH.le_un _ k11))⟩
      refine Tk 25 hE hc14 hS rfl rfl rfl (by kernel_rfl) fun a hE hS=>Tk 26 hE hc14 hS rfl rfl rfl (by kernel_rfl) fun a hE hS=>Tk 27 hE hc14 hS rfl rfl rfl (by kernel_rfl) fun a hE hS=>Tk 28 hE hc14 hS rfl rfl rfl (by kernel_rfl) fun a hE hS=>T0 29 hE hS rfl rfl rfl (by kernel_rfl) (fun _=>dI rfl hE rfl hc14 rfl) fun a hE hS=>?_
      have hE:=hE.eqv (v':=(.bool (((m1&&(decide (x2.2=0)))&&(decide (x2.1.kind=0)))&&(decide ((x2.1.model.length:Int)=2))))) (by rw[hc14];rfl)
      have hk6:(((m1&&(decide (x2.2=0)))&&(decide (x2.1.kind=0)))&&(decide ((x2.1.model.length:Int)=2)):Bool)=false:=by rw[hc14];rfl
      refine Ts [30] hE hS rfl rfl (by kernel_rfl) fun a hE hS=>?_
      have hg2:=(ie hk6).symm.trans hg2
      refine Tk 31 hE hk6 hS rfl rfl rfl (by kernel_rfl) fun a hE hS=>Tk 32 hE hk6 hS rfl rfl rfl (by kernel_rfl) fun a hE hS=>Tk 33 hE hk6 hS rfl rfl rfl (by kernel_rfl) fun a hE hS=>Tk 34 hE hk6 hS rfl rfl rfl (by kernel_rfl) fun a hE hS=>Tk 35 hE hk6 hS rfl rfl rfl (by kernel_rfl) fun a hE hS=>T0 36 hE hS rfl rfl rfl (by kernel_rfl) (fun _=>dI rfl hE rfl hk6 rfl) fun a hE hS=>?_
      have hE:=hE.eqv (v':=(.bool m2)) (congrArg Value.bool (oj hg2))
      refine Ts [37] hE hS rfl rfl (by kernel_rfl) fun a hE hS=>Tk 38 hE (oj hg2).symm hS rfl rfl rfl (by kernel_rfl) fun a hE hS=>Tk 39 hE (oj hg2).symm hS rfl rfl rfl (by kernel_rfl) fun a hE hS=>T0 40 hE hS rfl rfl rfl (by kernel_rfl) (fun _=>dI rfl hE rfl (oj hg2).symm rfl) fun a hE hS=>?_
      have hE:=hE.eqv (v':=(.bool (m2&&(decide (x3.2=0))))) (by rw[(oj hg2).symm];rfl)
      have hk7:(m2&&(decide (x3.2=0)):Bool)=false:=by rw[(oj hg2).symm];rfl
      refine Ts [41] hE hS rfl rfl (by kernel_rfl) fun a hE hS=>Tk 42 hE hk7 hS rfl rfl rfl (by kernel_rfl) fun a hE hS=>Tk 43 hE hk7 hS rfl rfl rfl (by kernel_rfl) fun a hE hS=>Tk 44 hE hk7 hS rfl rfl rfl (by kernel_rfl) fun a hE hS=>T0 45 hE hS rfl rfl rfl (by kernel_rfl) (fun _=>dI rfl hE rfl hk7 rfl) fun a hE hS=>?_
      have hE:=hE.eqv (v':=(.bool ((m2&&(decide (x3.2=0)))&&(decide (x3.1.kind=0))))) (by rw[hk7];rfl)
      have hk8:((m2&&(decide (x3.2=0)))&&(decide (x3.1.kind=0)):Bool)=false:=by rw[hk7];rfl
      refine Ts [46] hE hS rfl rfl (by kernel_rfl) fun a hE hS=>?_
      have hg3:=(ie hk8).symm.trans hg3
      refine Tk 47 hE hk8 hS rfl rfl rfl (by kernel_rfl) fun a hE hS=>Tk 48 hE hk8 hS rfl rfl rfl (by kernel_rfl) fun a hE hS=>Tk 49 hE hk8 hS rfl rfl rfl (by kernel_rfl) fun a hE hS=>Tk 50 hE hk8 hS rfl rfl rfl (by kernel_rfl) fun a hE hS=>T0 51 hE hS rfl rfl rfl (by kernel_rfl) (fun _=>dI rfl hE rfl hk8 rfl) fun a hE hS=>?_
      have hE:=hE.eqv (v':=(.bool m3)) (congrArg Value.bool (oj hg3))
      refine Ts [52] hE hS rfl rfl (by kernel_rfl) fun a hE hS=>?_
      exact eG (by kernel_rfl) ⟨hE.cut ⟨rfl,trivial⟩,((((((((((((((((((((((((((hp.get 11 rfl).drop).get 10 rfl).drop).get 9 rfl).drop).get 8 rfl).drop).get 7 rfl).drop).get 6 rfl).drop).get 5 rfl).drop).get 4 rfl).drop).get 3 rfl).drop).get 2 rfl).drop).get 1 rfl).drop).drop).less hle2).less (PH.le_un _ k12)).less (PH.le_un _ k11))⟩
     refine Tk 20 hE hc13 hS rfl rfl rfl (by kernel_rfl) fun a hE hS=>Tk 21 hE hc13 hS rfl rfl rfl (by kernel_rfl) fun a hE hS=>Tk 22 hE hc13 hS rfl rfl rfl (by kernel_rfl) fun a hE hS=>T0 23 hE hS rfl rfl rfl (by kernel_rfl) (fun _=>dI rfl hE rfl hc13 rfl) fun a hE hS=>?_
     have hE:=hE.eqv (v':=(.bool ((m1&&(decide (x2.2=0)))&&(decide (x2.1.kind=0))))) (by rw[hc13];rfl)
     have hk9:((m1&&(decide (x2.2=0)))&&(decide (x2.1.kind=0)):Bool)=false:=by rw[hc13];rfl
     refine Ts [24] hE hS rfl rfl (by kernel_rfl) fun a hE hS=>Tk 25 hE hk9 hS rfl rfl rfl (by kernel_rfl) fun a hE hS=>Tk 26 hE hk9 hS rfl rfl rfl (by kernel_rfl) fun a hE hS=>Tk 27 hE hk9 hS rfl rfl rfl (by kernel_rfl) fun a hE hS=>Tk 28 hE hk9 hS rfl rfl rfl (by kernel_rfl) fun a hE hS=>T0 29 hE hS rfl rfl rfl (by kernel_rfl) (fun _=>dI rfl hE rfl hk9 rfl) fun a hE hS=>?_
     have hE:=hE.eqv (v':=(.bool (((m1&&(decide (x2.2=0)))&&(decide (x2.1.kind=0)))&&(decide ((x2.1.model.length:Int)=2))))) (by rw[hk9];rfl)
     have hk10:(((m1&&(decide (x2.2=0)))&&(decide (x2.1.kind=0)))&&(decide ((x2.1.model.length:Int)=2)):Bool)=false:=by rw[hk9];rfl
     refine Ts [30] hE hS rfl rfl (by kernel_rfl) fun a hE hS=>?_
     have hg2:=(ie hk10).symm.trans hg2
     refine Tk 31 hE hk10 hS rfl rfl rfl (by kernel_rfl) fun a hE hS=>Tk 32 hE hk10 hS rfl rfl rfl (by kernel_rfl) fun a hE hS=>Tk 33 hE hk10 hS rfl rfl rfl (by kernel_rfl) fun a hE hS=>Tk 34 hE hk10 hS rfl rfl rfl (by kernel_rfl) fun a hE hS=>Tk 35 hE hk10 hS rfl rfl rfl (by kernel_rfl) fun a hE hS=>T0 36 hE hS rfl rfl rfl (by kernel_rfl) (fun _=>dI rfl hE rfl hk10 rfl) fun a hE hS=>?_
     have hE:=hE.eqv (v':=(.bool m2)) (congrArg Value.bool (oj hg2))
     refine Ts [37] hE hS rfl rfl (by kernel_rfl) fun a hE hS=>Tk 38 hE (oj hg2).symm hS rfl rfl rfl (by kernel_rfl) fun a hE hS=>Tk 39 hE (oj hg2).symm hS rfl rfl rfl (by kernel_rfl) fun a hE hS=>T0 40 hE hS rfl rfl rfl (by kernel_rfl) (fun _=>dI rfl hE rfl (oj hg2).symm rfl) fun a hE hS=>?_
     have hE:=hE.eqv (v':=(.bool (m2&&(decide (x3.2=0))))) (by rw[(oj hg2).symm];rfl)
     have hk11:(m2&&(decide (x3.2=0)):Bool)=false:=by rw[(oj hg2).symm];rfl
     refine Ts [41] hE hS rfl rfl (by kernel_rfl) fun a hE hS=>Tk 42 hE hk11 hS rfl rfl rfl (by kernel_rfl) fun a hE hS=>Tk 43 hE hk11 hS rfl rfl rfl (by kernel_rfl) fun a hE hS=>Tk 44 hE hk11 hS rfl rfl rfl (by kernel_rfl) fun a hE hS=>T0 45 hE hS rfl rfl rfl (by kernel_rfl) (fun _=>dI rfl hE rfl hk11 rfl) fun a hE hS=>?_
     have hE:=hE.eqv (v':=(.bool ((m2&&(decide (x3.2=0)))&&(decide (x3.1.kind=0))))) (by rw[hk11];rfl)
     have hk12:((m2&&(decide (x3.2=0)))&&(decide (x3.1.kind=0)):Bool)=false:=by rw[hk11];rfl
     refine Ts [46] hE hS rfl rfl (by kernel_rfl) fun a hE hS=>?_
     have hg3:=(ie hk12).symm.trans hg3
     refine Tk 47 hE hk12 hS rfl rfl rfl (by kernel_rfl) fun a hE hS=>Tk 48 hE hk12 hS rfl rfl rfl (by kernel_rfl) fun a hE hS=>Tk 49 hE hk12 hS rfl rfl rfl (by kernel_rfl) fun a hE hS=>Tk 50 hE hk12 hS rfl rfl rfl (by kernel_rfl) fun a hE hS=>T0 51 hE hS rfl rfl rfl (by kernel_rfl) (fun _=>dI rfl hE rfl hk12 rfl) fun a hE hS=>?_
     have hE:=hE.eqv (v':=(.bool m3)) (congrArg Value.bool (oj hg3))
     refine Ts [52] hE hS rfl rfl (by kernel_rfl) fun a hE hS=>?_
     exact eG (by kernel_rfl) ⟨hE.cut ⟨rfl,trivial⟩,((((((((((((((((((((((((((hp.get 11 rfl).drop).get 10 rfl).drop).get 9 rfl).drop).get 8 rfl).drop).get 7 rfl).drop).get 6 rfl).drop).get 5 rfl).drop).get 4 rfl).drop).get 3 rfl).drop).get 2 rfl).drop).get 1 rfl).drop).drop).less hle2).less (PH.le_un _ k12)).less (PH.le_un _ k11))⟩
    refine Tk 16 hE hc12 hS rfl rfl rfl (by kernel_rfl) fun a hE hS=>Tk 17 hE hc12 hS rfl rfl rfl (by kernel_rfl) fun a hE hS=>T0 18 hE hS rfl rfl rfl (by kernel_rfl) (fun _=>dI rfl hE rfl hc12 rfl) fun a hE hS=>?_
    have hE:=hE.eqv (v':=(.bool (m1&&(decide (x2.2=0))))) (by rw[hc12];rfl)
    have hk13:(m1&&(decide (x2.2=0)):Bool)=false:=by rw[hc12];rfl
    refine Ts [19] hE hS rfl rfl (by kernel_rfl) fun a hE hS=>Tk 20 hE hk13 hS rfl rfl rfl (by kernel_rfl) fun a hE hS=>Tk 21 hE hk13 hS rfl rfl rfl (by kernel_rfl) fun a hE hS=>Tk 22 hE hk13 hS rfl rfl rfl (by kernel_rfl) fun a hE hS=>T0 23 hE hS rfl rfl rfl (by kernel_rfl) (fun _=>dI rfl hE rfl hk13 rfl) fun a hE hS=>?_
    have hE:=hE.eqv (v':=(.bool ((m1&&(decide (x2.2=0)))&&(decide (x2.1.kind=0))))) (by rw[hk13];rfl)
    have hk14:((m1&&(decide (x2.2=0)))&&(decide (x2.1.kind=0)):Bool)=false:=by rw[hk13];rfl
    refine Ts [24] hE hS rfl rfl (by kernel_rfl) fun a hE hS=>Tk 25 hE hk14 hS rfl rfl rfl (by kernel_rfl) fun a hE hS=>Tk 26 hE hk14 hS rfl rfl rfl (by kernel_rfl) fun a hE hS=>Tk 27 hE hk14 hS rfl rfl rfl (by kernel_rfl) fun a hE hS=>Tk 28 hE hk14 hS rfl rfl rfl (by kernel_rfl) fun a hE hS=>T0 29 hE hS rfl rfl rfl (by kernel_rfl) (fun _=>dI rfl hE rfl hk14 rfl) fun a hE hS=>?_
    have hE:=hE.eqv (v':=(.bool (((m1&&(decide (x2.2=0)))&&(decide (x2.1.kind=0)))&&(decide ((x2.1.model.length:Int)=2))))) (by rw[hk14];rfl)
    have hk15:(((m1&&(decide (x2.2=0)))&&(decide (x2.1.kind=0)))&&(decide ((x2.1.model.length:Int)=2)):Bool)=false:=by rw[hk14];rfl
    refine Ts [30] hE hS rfl rfl (by kernel_rfl) fun a hE hS=>?_
    have hg2:=(ie hk15).symm.trans hg2
    refine Tk 31 hE hk15 hS rfl rfl rfl (by kernel_rfl) fun a hE hS=>Tk 32 hE hk15 hS rfl rfl rfl (by kernel_rfl) fun a hE hS=>Tk 33 hE hk15 hS rfl rfl rfl (by kernel_rfl) fun a hE hS=>Tk 34 hE hk15 hS rfl rfl rfl (by kernel_rfl) fun a hE hS=>Tk 35 hE hk15 hS rfl rfl rfl (by kernel_rfl) fun a hE hS=>T0 36 hE hS rfl rfl rfl (by kernel_rfl) (fun _=>dI rfl hE rfl hk15 rfl) fun a hE hS=>?_
    have hE:=hE.eqv (v':=(.bool m2)) (congrArg Value.bool (oj hg2))
    refine Ts [37] hE hS rfl rfl (by kernel_rfl) fun a hE hS=>Tk 38 hE (oj hg2).symm hS rfl rfl rfl (by kernel_rfl) fun a hE hS=>Tk 39 hE (oj hg2).symm hS rfl rfl rfl (by kernel_rfl) fun a hE hS=>T0 40 hE hS rfl rfl rfl (by kernel_rfl) (fun _=>dI rfl hE rfl (oj hg2).symm rfl) fun a hE hS=>?_
    have hE:=hE.eqv (v':=(.bool (m2&&(decide (x3.2=0))))) (by rw[(oj hg2).symm];rfl)
    have hk16:(m2&&(decide (x3.2=0)):Bool)=false:=by rw[(oj hg2).symm];rfl
    refine Ts [41] hE hS rfl rfl (by kernel_rfl) fun a hE hS=>Tk 42 hE hk16 hS rfl rfl rfl (by kernel_rfl) fun a hE hS=>Tk 43 hE hk16 hS rfl rfl rfl (by kernel_rfl) fun a hE hS=>Tk 44 hE hk16 hS rfl rfl rfl (by kernel_rfl) fun a hE hS=>T0 45 hE hS rfl rfl rfl (by kernel_rfl) (fun _=>dI rfl hE rfl hk16 rfl) fun a hE hS=>?_
    have hE:=hE.eqv (v':=(.bool ((m2&&(decide (x3.2=0)))&&(decide (x3.1.kind=0))))) (by rw[hk16];rfl)
    have hk17:((m2&&(decide (x3.2=0)))&&(decide (x3.1.kind=0)):Bool)=false:=by rw[hk16];rfl
    refine Ts [46] hE hS rfl rfl (by kernel_rfl) fun a hE hS=>?_
    have hg3:=(ie hk17).symm.trans hg3
    refine Tk 47 hE hk17 hS rfl rfl rfl (by kernel_rfl) fun a hE hS=>Tk 48 hE hk17 hS rfl rfl rfl (by kernel_rfl) fun a hE hS=>Tk 49 hE hk17 hS rfl rfl rfl (by kernel_rfl) fun a hE hS=>Tk 50 hE hk17 hS rfl rfl rfl (by kernel_rfl) fun a hE hS=>T0 51 hE hS rfl rfl rfl (by kernel_rfl) (fun _=>dI rfl hE rfl hk17 rfl) fun a hE hS=>?_
    have hE:=hE.eqv (v':=(.bool m3)) (congrArg Value.bool (oj hg3))
    refine Ts [52] hE hS rfl rfl (by kernel_rfl) fun a hE hS=>?_
    exact eG (by kernel_rfl) ⟨hE.cut ⟨rfl,trivial⟩,((((((((((((((((((((((((((hp.get 11 rfl).drop).get 10 rfl).drop).get 9 rfl).drop).get 8 rfl).drop).get 7 rfl).drop).get 6 rfl).drop).get 5 rfl).drop).get 4 rfl).drop).get 3 rfl).drop).get 2 rfl).drop).get 1 rfl).drop).drop).less hle2).less (PH.le_un _ k12)).less (PH.le_un _ k11))⟩
   have hg1:=(ie hc11).symm.trans hg1
   refine Tk 8 hE hc11 hS rfl rfl rfl (by kernel_rfl) fun a hE hS=>Tk 9 hE hc11 hS rfl rfl rfl (by kernel_rfl) fun a hE hS=>Tk 11 hE hc11 hS rfl rfl rfl (by kernel_rfl) fun a hE hS=>Tk 12 hE hc11 hS rfl rfl rfl (by kernel_rfl) fun a hE hS=>?_
   refine W1 10 (by kernel_rfl) rfl ?_
   refine Gk hE hc11 rfl fun a hE=>?_
   refine aC (aI ⟨gp0 hp,gp 0 hp rfl,gp 5 hp rfl,gp 6 hp rfl,gp 8 hp rfl,dead (by kernel_rfl),trivial⟩ fun hS=>?_)
   refine Tk 13 hE hc11 hS rfl rfl rfl (by kernel_rfl) fun a hE hS=>T0 14 hE hS rfl rfl rfl (by kernel_rfl) (fun _=>dI rfl hE rfl hc11 rfl) fun a hE hS=>?_
   have hE:=hE.eqv (v':=(.bool m1)) (congrArg Value.bool (oj hg1))
   refine Ts [15] hE hS rfl rfl (by kernel_rfl) fun a hE hS=>Tk 16 hE (oj hg1).symm hS rfl rfl rfl (by kernel_rfl) fun a hE hS=>Tk 17 hE (oj hg1).symm hS rfl rfl rfl (by kernel_rfl) fun a hE hS=>T0 18 hE hS rfl rfl rfl (by kernel_rfl) (fun _=>dI rfl hE rfl (oj hg1).symm rfl) fun a hE hS=>?_
   have hE:=hE.eqv (v':=(.bool (m1&&(decide (x2.2=0))))) (by rw[(oj hg1).symm];rfl)
   have hk18:(m1&&(decide (x2.2=0)):Bool)=false:=by rw[(oj hg1).symm];rfl
   refine Ts [19] hE hS rfl rfl (by kernel_rfl) fun a hE hS=>Tk 20 hE hk18 hS rfl rfl rfl (by kernel_rfl) fun a hE hS=>Tk 21 hE hk18 hS rfl rfl rfl (by kernel_rfl) fun a hE hS=>Tk 22 hE hk18 hS rfl rfl rfl (by kernel_rfl) fun a hE hS=>T0 23 hE hS rfl rfl rfl (by kernel_rfl) (fun _=>dI rfl hE rfl hk18 rfl) fun a hE hS=>?_
   have hE:=hE.eqv (v':=(.bool ((m1&&(decide (x2.2=0)))&&(decide (x2.1.kind=0))))) (by rw[hk18];rfl)
   have hk19:((m1&&(decide (x2.2=0)))&&(decide (x2.1.kind=0)):Bool)=false:=by rw[hk18];rfl
   refine Ts [24] hE hS rfl rfl (by kernel_rfl) fun a hE hS=>Tk 25 hE hk19 hS rfl rfl rfl (by kernel_rfl) fun a hE hS=>Tk 26 hE hk19 hS rfl rfl rfl (by kernel_rfl) fun a hE hS=>Tk 27 hE hk19 hS rfl rfl rfl (by kernel_rfl) fun a hE hS=>Tk 28 hE hk19 hS rfl rfl rfl (by kernel_rfl) fun a hE hS=>T0 29 hE hS rfl rfl rfl (by kernel_rfl) (fun _=>dI rfl hE rfl hk19 rfl) fun a hE hS=>?_
   have hE:=hE.eqv (v':=(.bool (((m1&&(decide (x2.2=0)))&&(decide (x2.1.kind=0)))&&(decide ((x2.1.model.length:Int)=2))))) (by rw[hk19];rfl)
   have hk20:(((m1&&(decide (x2.2=0)))&&(decide (x2.1.kind=0)))&&(decide ((x2.1.model.length:Int)=2)):Bool)=false:=by rw[hk19];rfl
   refine Ts [30] hE hS rfl rfl (by kernel_rfl) fun a hE hS=>?_
   have hg2:=(ie hk20).symm.trans hg2
   refine Tk 31 hE hk20 hS rfl rfl rfl (by kernel_rfl) fun a hE hS=>Tk 32 hE hk20 hS rfl rfl rfl (by kernel_rfl) fun a hE hS=>Tk 33 hE hk20 hS rfl rfl rfl (by kernel_rfl) fun a hE hS=>Tk 34 hE hk20 hS rfl rfl rfl (by kernel_rfl) fun a hE hS=>Tk 35 hE hk20 hS rfl rfl rfl (by kernel_rfl) fun a hE hS=>T0 36 hE hS rfl rfl rfl (by kernel_rfl) (fun _=>dI rfl hE rfl hk20 rfl) fun a hE hS=>?_
   have hE:=hE.eqv (v':=(.bool m2)) (congrArg Value.bool (oj hg2))
   refine Ts [37] hE hS rfl rfl (by kernel_rfl) fun a hE hS=>Tk 38 hE (oj hg2).symm hS rfl rfl rfl (by kernel_rfl) fun a hE hS=>Tk 39 hE (oj hg2).symm hS rfl rfl rfl (by kernel_rfl) fun a hE hS=>T0 40 hE hS rfl rfl rfl (by kernel_rfl) (fun _=>dI rfl hE rfl (oj hg2).symm rfl) fun a hE hS=>?_
   have hE:=hE.eqv (v':=(.bool (m2&&(decide (x3.2=0))))) (by rw[(oj hg2).symm];rfl)
   have hk21:(m2&&(decide (x3.2=0)):Bool)=false:=by rw[(oj hg2).symm];rfl
   refine Ts [41] hE hS rfl rfl (by kernel_rfl) fun a hE hS=>Tk 42 hE hk21 hS rfl rfl rfl (by kernel_rfl) fun a hE hS=>Tk 43 hE hk21 hS rfl rfl rfl (by kernel_rfl) fun a hE hS=>Tk 44 hE hk21 hS rfl rfl rfl (by kernel_rfl) fun a hE hS=>T0 45 hE hS rfl rfl rfl (by kernel_rfl) (fun _=>dI rfl hE rfl hk21 rfl) fun a hE hS=>?_
   have hE:=hE.eqv (v':=(.bool ((m2&&(decide (x3.2=0)))&&(decide (x3.1.kind=0))))) (by rw[hk21];rfl)
   have hk22:((m2&&(decide (x3.2=0)))&&(decide (x3.1.kind=0)):Bool)=false:=by rw[hk21];rfl
   refine Ts [46] hE hS rfl rfl (by kernel_rfl) fun a hE hS=>?_
   have hg3:=(ie hk22).symm.trans hg3
   refine Tk 47 hE hk22 hS rfl rfl rfl (by kernel_rfl) fun a hE hS=>Tk 48 hE hk22 hS rfl rfl rfl (by kernel_rfl) fun a hE hS=>Tk 49 hE hk22 hS rfl rfl rfl (by kernel_rfl) fun a hE hS=>Tk 50 hE hk22 hS rfl rfl rfl (by kernel_rfl) fun a hE hS=>T0 51 hE hS rfl rfl rfl (by kernel_rfl) (fun _=>dI rfl hE rfl hk22 rfl) fun a hE hS=>?_
   have hE:=hE.eqv (v':=(.bool m3)) (congrArg Value.bool (oj hg3))
   refine Ts [52] hE hS rfl rfl (by kernel_rfl) fun a hE hS=>?_
   exact eG (by kernel_rfl) ⟨hE.cut ⟨rfl,trivial⟩,(((((((((((((((((((((((((hp.get 12 rfl).drop).get 11 rfl).drop).get 10 rfl).drop).get 9 rfl).drop).get 8 rfl).drop).get 7 rfl).drop).get 6 rfl).drop).get 5 rfl).drop).get 4 rfl).drop).get 3 rfl).drop).get 2 rfl).drop).get 1 rfl).drop).drop)⟩
  refine Tk 3 hE hc10 hS rfl rfl rfl (by kernel_rfl) fun a hE hS=>Tk 4 hE hc10 hS rfl rfl rfl (by kernel_rfl) fun a hE hS=>Tk 5 hE hc10 hS rfl rfl rfl (by kernel_rfl) fun a hE hS=>T0 6 hE hS rfl rfl rfl (by kernel_rfl) (fun _=>dI rfl hE rfl hc10 rfl) fun a hE hS=>?_
  have hE:=hE.eqv (v':=(.bool ((decide (x1.2=0))&&(decide (x1.1.kind=1))))) (by rw[hc10];rfl)
  have hk23:((decide (x1.2=0))&&(decide (x1.1.kind=1)):Bool)=false:=by rw[hc10];rfl
  refine Ts [7] hE hS rfl rfl (by kernel_rfl) fun a hE hS=>?_
  have hg1:=(ie hk23).symm.trans hg1
  refine Tk 8 hE hk23 hS rfl rfl rfl (by kernel_rfl) fun a hE hS=>Tk 9 hE hk23 hS rfl rfl rfl (by kernel_rfl) fun a hE hS=>Tk 11 hE hk23 hS rfl rfl rfl (by kernel_rfl) fun a hE hS=>Tk 12 hE hk23 hS rfl rfl rfl (by kernel_rfl) fun a hE hS=>?_
  refine W1 10 (by kernel_rfl) rfl ?_
  refine Gk hE hk23 rfl fun a hE=>?_
  refine aC (aI ⟨gp0 hp,gp 0 hp rfl,gp 5 hp rfl,gp 6 hp rfl,gp 8 hp rfl,dead (by kernel_rfl),trivial⟩ fun hS=>?_)
  refine Tk 13 hE hk23 hS rfl rfl rfl (by kernel_rfl) fun a hE hS=>T0 14 hE hS rfl rfl rfl (by kernel_rfl) (fun _=>dI rfl hE rfl hk23 rfl) fun a hE hS=>?_
  have hE:=hE.eqv (v':=(.bool m1)) (congrArg Value.bool (oj hg1))
  refine Ts [15] hE hS rfl rfl (by kernel_rfl) fun a hE hS=>Tk 16 hE (oj hg1).symm hS rfl rfl rfl (by kernel_rfl) fun a hE hS=>Tk 17 hE (oj hg1).symm hS rfl rfl rfl (by kernel_rfl) fun a hE hS=>T0 18 hE hS rfl rfl rfl (by kernel_rfl) (fun _=>dI rfl hE rfl (oj hg1).symm rfl) fun a hE hS=>?_
  have hE:=hE.eqv (v':=(.bool (m1&&(decide (x2.2=0))))) (by rw[(oj hg1).symm];rfl)
  have hk24:(m1&&(decide (x2.2=0)):Bool)=false:=by rw[(oj hg1).symm];rfl
  refine Ts [19] hE hS rfl rfl (by kernel_rfl) fun a hE hS=>Tk 20 hE hk24 hS rfl rfl rfl (by kernel_rfl) fun a hE hS=>Tk 21 hE hk24 hS rfl rfl rfl (by kernel_rfl) fun a hE hS=>Tk 22 hE hk24 hS rfl rfl rfl (by kernel_rfl) fun a hE hS=>T0 23 hE hS rfl rfl rfl (by kernel_rfl) (fun _=>dI rfl hE rfl hk24 rfl) fun a hE hS=>?_
  have hE:=hE.eqv (v':=(.bool ((m1&&(decide (x2.2=0)))&&(decide (x2.1.kind=0))))) (by rw[hk24];rfl)
  have hk25:((m1&&(decide (x2.2=0)))&&(decide (x2.1.kind=0)):Bool)=false:=by rw[hk24];rfl
  refine Ts [24] hE hS rfl rfl (by kernel_rfl) fun a hE hS=>Tk 25 hE hk25 hS rfl rfl rfl (by kernel_rfl) fun a hE hS=>Tk 26 hE hk25 hS rfl rfl rfl (by kernel_rfl) fun a hE hS=>Tk 27 hE hk25 hS rfl rfl rfl (by kernel_rfl) fun a hE hS=>Tk 28 hE hk25 hS rfl rfl rfl (by kernel_rfl) fun a hE hS=>T0 29 hE hS rfl rfl rfl (by kernel_rfl) (fun _=>dI rfl hE rfl hk25 rfl) fun a hE hS=>?_
  have hE:=hE.eqv (v':=(.bool (((m1&&(decide (x2.2=0)))&&(decide (x2.1.kind=0)))&&(decide ((x2.1.model.length:Int)=2))))) (by rw[hk25];rfl)
  have hk26:(((m1&&(decide (x2.2=0)))&&(decide (x2.1.kind=0)))&&(decide ((x2.1.model.length:Int)=2)):Bool)=false:=by rw[hk25];rfl
  refine Ts [30] hE hS rfl rfl (by kernel_rfl) fun a hE hS=>?_
  have hg2:=(ie hk26).symm.trans hg2
  refine Tk 31 hE hk26 hS rfl rfl rfl (by kernel_rfl) fun a hE hS=>Tk 32 hE hk26 hS rfl rfl rfl (by kernel_rfl) fun a hE hS=>Tk 33 hE hk26 hS rfl rfl rfl (by kernel_rfl) fun a hE hS=>Tk 34 hE hk26 hS rfl rfl rfl (by kernel_rfl) fun a hE hS=>Tk 35 hE hk26 hS rfl rfl rfl (by kernel_rfl) fun a hE hS=>T0 36 hE hS rfl rfl rfl (by kernel_rfl) (fun _=>dI rfl hE rfl hk26 rfl) fun a hE hS=>?_
  have hE:=hE.eqv (v':=(.bool m2)) (congrArg Value.bool (oj hg2))
  refine Ts [37] hE hS rfl rfl (by kernel_rfl) fun a hE hS=>Tk 38 hE (oj hg2).symm hS rfl rfl rfl (by kernel_rfl) fun a hE hS=>Tk 39 hE (oj hg2).symm hS rfl rfl rfl (by kernel_rfl) fun a hE hS=>T0 40 hE hS rfl rfl rfl (by kernel_rfl) (fun _=>dI rfl hE rfl (oj hg2).symm rfl) fun a hE hS=>?_
  have hE:=hE.eqv (v':=(.bool (m2&&(decide (x3.2=0))))) (by rw[(oj hg2).symm];rfl)
  have hk27:(m2&&(decide (x3.2=0)):Bool)=false:=by rw[(oj hg2).symm];rfl
  refine Ts [41] hE hS rfl rfl (by kernel_rfl) fun a hE hS=>Tk 42 hE hk27 hS rfl rfl rfl (by kernel_rfl) fun a hE hS=>Tk 43 hE hk27 hS rfl rfl rfl (by kernel_rfl) fun a hE hS=>Tk 44 hE hk27 hS rfl rfl rfl (by kernel_rfl) fun a hE hS=>T0 45 hE hS rfl rfl rfl (by kernel_rfl) (fun _=>dI rfl hE rfl hk27 rfl) fun a hE hS=>?_
  have hE:=hE.eqv (v':=(.bool ((m2&&(decide (x3.2=0)))&&(decide (x3.1.kind=0))))) (by rw[hk27];rfl)
  have hk28:((m2&&(decide (x3.2=0)))&&(decide (x3.1.kind=0)):Bool)=false:=by rw[hk27];rfl
  refine Ts [46] hE hS rfl rfl (by kernel_rfl) fun a hE hS=>?_
  have hg3:=(ie hk28).symm.trans hg3
  refine Tk 47 hE hk28 hS rfl rfl rfl (by kernel_rfl) fun a hE hS=>Tk 48 hE hk28 hS rfl rfl rfl (by kernel_rfl) fun a hE hS=>Tk 49 hE hk28 hS rfl rfl rfl (by kernel_rfl) fun a hE hS=>Tk 50 hE hk28 hS rfl rfl rfl (by kernel_rfl) fun a hE hS=>T0 51 hE hS rfl rfl rfl (by kernel_rfl) (fun _=>dI rfl hE rfl hk28 rfl) fun a hE hS=>?_
  have hE:=hE.eqv (v':=(.bool m3)) (congrArg Value.bool (oj hg3))
  refine Ts [52] hE hS rfl rfl (by kernel_rfl) fun a hE hS=>?_
  exact eG (by kernel_rfl) ⟨hE.cut ⟨rfl,trivial⟩,(((((((((((((((((((((((((hp.get 12 rfl).drop).get 11 rfl).drop).get 10 rfl).drop).get 9 rfl).drop).get 8 rfl).drop).get 7 rfl).drop).get 6 rfl).drop).get 5 rfl).drop).get 4 rfl).drop).get 3 rfl).drop).get 2 rfl).drop).get 1 rfl).drop).drop)⟩
 rintro a w ⟨hE,hp⟩
 refine dE ?_
 obtain rfl:=oj hm
 exact iH hE rfl rfl ⟨_,rfl,rfl,hp⟩
end Go.Proofs.Ytpkhmndpeipfmaa

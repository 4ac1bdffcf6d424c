/- The code goes as its model: assessor/solver.Solve, assessor/solver.Least. (Printed by wip/sp/gen.py.) -/
import Derived.Test.YtpkhmndpeipfmaaKUnT
import Derived.Test.YtpkhmndpeipfmaaKUn5
import Derived.Test.YtpkhmndpeipfmaaKUn6
import Derived.Test.YtpkhmndpeipfmaaKUn13
import Derived.Test.YtpkhmndpeipfmaaKUn14
set_option linter.unusedVariables false
set_option linter.unusedSimpArgs false
set_option maxRecDepth 100000
set_option maxHeartbeats 4000000
namespace Go.Proofs.Ytpkhmndpeipfmaa
open Go.RowKit
theorem vG {Z:World} {ρ:PH} {L:List bZ} {w:World} (p0:Formula) (aH:Value) (bI:bW ρ aH p0.clauses) (p1:(List Int)) (vp1:Value) (hp1:bW ρ vp1 p1) (p2:Int) (hp:Hp Z ρ (L) w) (r:(Answer×Int)) (hm:iE p0 p1 p2=some r):
  Calls Try.prog 12 #[(.agg #[(Iv p0.vars),aH]),vp1,(Iv p2)] w (Ret fun v w'=>∃(qU:Value) (nS:Value) (sN:List Sl),v= .tuple #[(.agg #[(Iv r.1.kind),qU,nS,(Iv r.1.conflicts)]),(Iv r.2)]∧Hp Z ρ (aA 3 qU r.1.model::bT 25 3 nS sN (r.1.proof:(List (List Int)))::L) w'):=by
 refine enter (N:=19) Try.func12 rfl rfl [(0,(.agg #[(Iv p0.vars),aH])),(1,vp1),(2,(Iv p2))] rfl (bM ⟨rfl,rfl,rfl,trivial⟩) fun a hE=>?_
 unfold iE at hm
 refine aG (aB ?_)
 refine rO (wk0 rfl) rfl rfl hE hp rfl (v:=(.agg #[(Iv p0.vars),aH])) rfl ?_
 intro a w b1 hE hp
 have hp:=r1 hp
 refine qB (wk0 rfl) rfl rfl hE hp rfl [(Iv 0),N0,N0,(Iv 0)] (fun w=>by simp[Instr.alloc,go_sem]<;>rfl) ?_
 intro a w b2 hE hp
 have hp:=r2 hp
 refine S hE 1 rfl fun a hE=>aC (aG ?_)
 refine aG (aB ?_)
 refine V hE hp rfl (bD rfl hE rfl (fun w hw=>gB (cs:=[(Iv p0.vars),aH]) fC (Hp.cN 1 rfl 0 _ (bV rfl) w hw))) fun a hE=>S hE 2 rfl fun a hE=>?_
 obtain⟨x1,ex1,hm⟩:=bnd hm
 refine Cl hE rfl rfl ent28 (aB9 p0 aH bI p1 vp1 hp1 p2 hp x1 ex1) ⟨rfl,rfl,rfl,trivial⟩ fun v a w hR hE=>?_
 obtain⟨rfl,hp⟩:=hR
 have hp:=r2 hp
 refine S hE 1 rfl fun a hE=>aC ?_
 refine dK hE rfl (fun hc1=>?_) (fun hc1=>?_)
 ·replace hm:=(it hc1).symm.trans hm
  refine aG (aB ?_)
  refine V hE hp rfl (v:=(.agg #[(Iv 0),N0,N0,(Iv 0)])) (qN rfl hE [] (by exact trivial) (fun w=>by simp[Instr.build,Instr.fill,Value.cells,go_sem])) fun a hE=>?_
  refine dO (wk0 rfl) rfl hE hp rfl rfl rfl 0 rfl fE.size_ rfl (bY ⟨rfl,rfl,rfl,rfl,trivial⟩) [(Iv 0),N0,N0,(Iv 0)] rfl ?_
  intro w hp
  have hp:=r2 hp
  refine S hE 1 rfl fun a hE=>aC (dE ?_)
  have hp:=hp.emp (aA.nil (α:=Int) 3)
  have hp:=r3 hp
  have hp:=hp.emp (bT.none (α:=Int) 25 3 none)
  have hp:=r4 hp
  have hp:=r4 hp
  obtain rfl:=oj hm
  exact retct hE rfl rfl rfl (rZ (cs:=[(Iv 0),N0,N0,(Iv 0)]) fE (Hp.cN 2 rfl 0 _ (bV rfl) _ hp)) ⟨_,rfl,_,_,_,rfl,((((((hp.get 0 rfl).get 1 rfl).get 3 rfl).drop).get 2 rfl).drop)⟩
 replace hm:=(ie hc1).symm.trans hm
 refine bP (aG ?_)
 refine aB (V hE hp rfl (bD rfl hE rfl (fun w hw=>gB (cs:=[(Iv p0.vars),aH]) fC (Hp.cN 1 rfl 0 _ (bV rfl) w hw))) fun a hE=>?_)
 refine S hE 1 rfl fun a hE=>?_
 obtain⟨x2,ex2,hm⟩:=bnd hm
 refine Cl hE rfl rfl P9 (kC p0 aH bI p1 vp1 hp1 hp x2 ex2) ⟨rfl,rfl,trivial⟩ fun v a w hR hE=>?_
 obtain⟨br2,vr2_value,vr2_level,aH5,vr2_saved,Z5,L6,vr2_trail,aH6,br2_queue,zA,yZ,vr2_proof,aD7,rfl,hp⟩:=hR
 have hp:=r14 hp
 refine S hE 1 rfl fun a hE=>?_
 obtain⟨x3,ex3,hm⟩:=bnd hm
 refine Cl hE rfl rfl zI (dW br2 x2 vr2_value vr2_level aH5 vr2_saved Z5 L6 vr2_trail aH6 br2_queue zA yZ vr2_proof aD7 p2 ((((((((((((hp.get 11 rfl).get 11 rfl).get 11 rfl).get 11 rfl).get 11 rfl).get 11 rfl).get 11 rfl).get 11 rfl).get 11 rfl).get 11 rfl).get 11 rfl).get 11 rfl) x3 ex3) ⟨rfl,rfl,trivial⟩ fun v a w hR hE=>?_
 obtain⟨qV,rV,usr3_proof,rfl,hp⟩:=hR
 have hp:=r4 hp
 refine dO (wk0 rfl) rfl hE hp rfl rfl rfl 2 rfl fE.size_ rfl (bY ⟨rfl,(aA.one hp 0 rfl),(bT.one hp 1 rfl),rfl,trivial⟩) [(Iv x3.kind),qV,rV,(Iv x3.conflicts)] rfl ?_
 intro w hp
 have hp:=r4 hp
 refine S hE 1 rfl fun a hE=>aC (dE ?_)
 obtain rfl:=oj hm
 exact retct hE rfl rfl rfl (rZ (cs:=[(Iv x3.kind),qV,rV,(Iv x3.conflicts)]) fE (Hp.cN 2 rfl 0 _ (bV rfl) _ hp)) ⟨_,rfl,_,_,_,rfl,((((hp.get 3 rfl).drop).get 2 rfl).drop)⟩
theorem c_solver_Least {Z:World} {ρ:PH} {L:List bZ} {w:World} (p0:Formula) (aH:Value) (bI:bW ρ aH p0.clauses) (p1:(List Int)) (vp1:Value) (hp1:bW ρ vp1 p1) (p2:Int) (hp:Hp Z ρ (L) w) (r:(Answer×Int)) (hm:nV p0 p1 p2=some r):
  Calls Try.prog 17 #[(.agg #[(Iv p0.vars),aH]),vp1,(Iv p2)] w (Ret fun v w'=>∃(qU:Value) (nS:Value) (sN:List Sl),v= .tuple #[(.agg #[(Iv r.1.kind),qU,nS,(Iv r.1.conflicts)]),(Iv r.2)]∧Hp Z ρ (aA 3 qU r.1.model::bT 25 3 nS sN (r.1.proof:(List (List Int)))::L) w'):=by
 refine enter (N:=88) Try.func17 rfl rfl [(0,(.agg #[(Iv p0.vars),aH])),(1,vp1),(2,(Iv p2))] rfl (bM ⟨rfl,rfl,rfl,trivial⟩) fun a hE=>?_
 unfold nV at hm
 refine aG (aB ?_)
 refine rO (wk0 rfl) rfl rfl hE hp rfl (v:=(.agg #[(Iv p0.vars),aH])) rfl ?_
 intro a w b1 hE hp
 have hp:=r1 hp
 refine qB (wk0 rfl) rfl rfl hE hp rfl [(Iv 0),N0,N0,(Iv 0)] (fun w=>by simp[Instr.alloc,go_sem]<;>rfl) ?_
 intro a w b2 hE hp
 have hp:=r2 hp
 refine S hE 1 rfl fun a hE=>aC (aG ?_)
 refine aG (aB ?_)
 refine V hE hp rfl (bD rfl hE rfl (fun w hw=>gB (cs:=[(Iv p0.vars),aH]) fC (Hp.cN 1 rfl 0 _ (bV rfl) w hw))) fun a hE=>S hE 2 rfl fun a hE=>?_
 obtain⟨x1,ex1,hm⟩:=bnd hm
 refine Cl hE rfl rfl ent28 (aB9 p0 aH bI p1 vp1 hp1 p2 hp x1 ex1) ⟨rfl,rfl,rfl,trivial⟩ fun v a w hR hE=>?_
 obtain⟨rfl,hp⟩:=hR
 have hp:=r2 hp
 refine S hE 1 rfl fun a hE=>aC ?_
 refine dK hE rfl (fun hc1=>?_) (fun hc1=>?_)
 ·replace hm:=(it hc1).symm.trans hm
  refine aG (aB ?_)
  refine V hE hp rfl (v:=(.agg #[(Iv 0),N0,N0,(Iv 0)])) (qN rfl hE [] (by exact trivial) (fun w=>by simp[Instr.build,Instr.fill,Value.cells,go_sem])) fun a hE=>?_
  refine dO (wk0 rfl) rfl hE hp rfl rfl rfl 0 rfl fE.size_ rfl (bY ⟨rfl,rfl,rfl,rfl,trivial⟩) [(Iv 0),N0,N0,(Iv 0)] rfl ?_
  intro w hp
  have hp:=r2 hp
  refine S hE 1 rfl fun a hE=>aC (dE ?_)
  have hp:=hp.emp (aA.nil (α:=Int) 3)
  have hp:=r3 hp
  have hp:=hp.emp (bT.none (α:=Int) 25 3 none)
  have hp:=r4 hp
  have hp:=r4 hp
  obtain rfl:=oj hm
  exact retct hE rfl rfl rfl (rZ (cs:=[(Iv 0),N0,N0,(Iv 0)]) fE (Hp.cN 2 rfl 0 _ (bV rfl) _ hp)) ⟨_,rfl,_,_,_,rfl,((((((hp.get 0 rfl).get 1 rfl).get 3 rfl).drop).get 2 rfl).drop)⟩
 replace hm:=(ie hc1).symm.trans hm
 refine bP (aG ?_)
 refine aB (V hE hp rfl (bD rfl hE rfl (fun w hw=>gB (cs:=[(Iv p0.vars),aH]) fC (Hp.cN 1 rfl 0 _ (bV rfl) w hw))) fun a hE=>?_)
 obtain⟨x2,ex2,hm⟩:=bnd hm
 refine Cl hE rfl rfl P9 (kC p0 aH bI [] N0 (bW.nil _) hp x2 ex2) ⟨rfl,rfl,trivial⟩ fun v a w hR hE=>?_
 obtain⟨br2,vr2_value,vr2_level,aH5,vr2_saved,Z5,L6,vr2_trail,aH6,br2_queue,zA,yZ,vr2_proof,aD7,rfl,hp⟩:=hR
 have hp:=r14 hp
 refine S hE 1 rfl fun a hE=>?_
 obtain⟨x3,ex3,hm⟩:=bnd hm
 refine Cl hE rfl rfl zI (dW br2 x2 vr2_value vr2_level aH5 vr2_saved Z5 L6 vr2_trail aH6 br2_queue zA yZ vr2_proof aD7 p2 ((((((((((((hp.get 11 rfl).get 11 rfl).get 11 rfl).get 11 rfl).get 11 rfl).get 11 rfl).get 11 rfl).get 11 rfl).get 11 rfl).get 11 rfl).get 11 rfl).get 11 rfl) x3 ex3) ⟨rfl,rfl,trivial⟩ fun v a w hR hE=>?_
 obtain⟨qV,rV,usr3_proof,rfl,hp⟩:=hR
 have hp:=r4 hp
 refine qB (wk0 rfl) rfl rfl hE hp rfl [(Iv 0),N0,N0,(Iv 0)] (fun w=>by simp[Instr.alloc,go_sem]<;>rfl) ?_
 intro a w b3 hE hp
 have hp:=r5 hp
 refine dO (wk0 rfl) rfl hE hp rfl rfl rfl 0 rfl fE.size_ rfl (bY ⟨rfl,(aA.one hp 1 rfl),(bT.one hp 2 rfl),rfl,trivial⟩) [(Iv x3.kind),qV,rV,(Iv x3.conflicts)] rfl ?_
 intro w hp
 have hp:=r5 hp
 refine aC (aG ?_)
 refine aG (aB ?_)
 refine V hE hp rfl (xf hE sU rfl rfl) fun a hE=>V hE hp rfl (xl hE bG 0 rfl rfl rfl rfl) fun a hE=>S hE 1 rfl fun a hE=>aC ?_
 refine dK hE rfl (fun hc2=>?_) (fun hc2=>?_)
 ·replace hm:=(it hc2).symm.trans hm
  refine aG (aB ?_)
  refine V hE hp rfl (bD rfl hE rfl (fun w hw=>gB (cs:=[(Iv x3.kind),qV,rV,(Iv x3.conflicts)]) fE (Hp.cN 0 rfl 0 _ (bV rfl) w hw))) fun a hE=>?_
  refine dO (wk0 rfl) rfl hE hp rfl rfl rfl 3 rfl fE.size_ rfl (bY ⟨rfl,(aA.one hp 1 rfl),(bT.one hp 2 rfl),rfl,trivial⟩) [(Iv x3.kind),qV,rV,(Iv x3.conflicts)] rfl ?_
  intro w hp
  have hp:=r5 hp
  refine S hE 1 rfl fun a hE=>aC (dE ?_)
  obtain rfl:=oj hm
  exact retct hE rfl rfl rfl (rZ (cs:=[(Iv x3.kind),qV,rV,(Iv x3.conflicts)]) fE (Hp.cN 3 rfl 0 _ (bV rfl) _ hp)) ⟨_,rfl,_,_,_,rfl,(((((hp.get 4 rfl).drop).get 3 rfl).drop).drop)⟩
 replace hm:=(ie hc2).symm.trans hm
 refine bP (aG ?_)
 refine aB (S hE 1 rfl fun a hE=>?_)
 refine aC (aG ?_)
 refine aB (V hE hp rfl (xf hE fldty29_3 rfl rfl) fun a hE=>?_)
 refine V hE hp rfl (xl hE bG 0 rfl rfl rfl rfl) fun a hE=>S hE 1 rfl fun a hE=>aC (aG ?_)
 refine aG (aB ?_)
 refine S hE 1 rfl fun a hE=>V hE hp rfl (dL rfl hE rfl (bW.len hp1 bC)) fun a hE=>S hE 1 rfl fun a hE=>aC ?_
 have hE:=hE.cut (E':=[(2,(Iv p2)),(3,(Pv b1 0)),(6,(Pv b2 0)),(8,(Pv b3 0)),(9,N0),(10,(Iv x3.conflicts)),(30,vp1),(31,(Iv (p1.length:Int))),(32,(Iv 0))]) ⟨rfl,rfl,rfl,rfl,rfl,rfl,rfl,rfl,rfl,trivial⟩
 have hp:=hp.emp (aA.nil (α:=Int) 3)
 have hp:=r6 hp
 obtain⟨b4,hc3,hm⟩:=bnd hm
 refine dH (fun a w=>∃s:(Int×(List Int)×Int×Int×(List Int)×(List (List Int))),b4= .brk s∧(∃(w86:Value) (w19:Value) (w20:Value) (us20:List Sl),Env 88 [(6,(Pv b2 0)),(8,(Pv b3 0)),(10,(Iv s.1))] a∧Hp Z ρ (aA 3 w86 s.2.1::Pt b3 (.cells #[(Iv s.2.2.1),w19,w20,(Iv s.2.2.2.1)] 29 (0,0))::aA 3 w19 s.2.2.2.2.1::bT 25 3 w20 us20 (s.2.2.2.2.2:(List (List Int)))::Pt b2 (.cells #[(Iv 0),N0,N0,(Iv 0)] 29 (0,0))::Pt b1 (.cells #[(Iv p0.vars),aH] 24 (0,0))::L) w)) ?_ ?_
 ·refine eU hc3 (fun s a w=>∃(w86:Value) (w19:Value) (w20:Value) (us20:List Sl),Env 88 [(2,(Iv p2)),(3,(Pv b1 0)),(6,(Pv b2 0)),(8,(Pv b3 0)),(9,w86),(10,(Iv s.1)),(30,vp1),(31,(Iv (p1.length:Int))),(32,(Iv s.2.1))] a∧Hp Z ρ (aA 3 w86 s.2.2.1::Pt b3 (.cells #[(Iv s.2.2.2.1),w19,w20,(Iv s.2.2.2.2.1)] 29 (0,0))::aA 3 w19 s.2.2.2.2.2.1::bT 25 3 w20 us20 (s.2.2.2.2.2.2:(List (List Int)))::Pt b2 (.cells #[(Iv 0),N0,N0,(Iv 0)] 29 (0,0))::Pt b1 (.cells #[(Iv p0.vars),aH] 24 (0,0))::L) w) ?_ ?_
  ·exact⟨_,_,_,_,hE.cut ⟨rfl,rfl,rfl,rfl,rfl,rfl,rfl,rfl,rfl,trivial⟩,hp⟩
  rintro⟨aW,bU,dJ,jB,kD,lF,vU⟩ st a w ⟨w86,w19,w20,us20,hE,hp⟩ hl1
  dsimp only at hE hp hl1
  unfold nP at hl1
  refine aG (aB ?_)
  refine S hE 1 rfl fun a hE=>aC (aG ?_)
  refine dK hE rfl (fun hc4=>?_) (fun hc4=>?_)
  ·replace hl1:=(it hc4).symm.trans hl1
   refine bP (aG ?_)
   obtain⟨j1,hj1,hl1⟩:=bnd hl1
   refine dH (fun a w=>∃s:(Int×(List Int)×Int×Int×(List Int)×(List (List Int))),j1= .brk s∧(∃(w86:Value) (w19:Value) (w20q:Value) (us20q:List Sl),Env 88 [(2,(Iv p2)),(3,(Pv b1 0)),(6,(Pv b2 0)),(8,(Pv b3 0)),(9,w86),(10,(Iv s.1)),(30,vp1),(31,(Iv (p1.length:Int))),(32,(Iv bU))] a∧Hp Z ρ (aA 3 w86 s.2.1::Pt b3 (.cells #[(Iv s.2.2.1),w19,w20q,(Iv s.2.2.2.1)] 29 (0,0))::aA 3 w19 s.2.2.2.2.1::bT 25 3 w20q us20q (s.2.2.2.2.2:(List (List Int)))::Pt b2 (.cells #[(Iv 0),N0,N0,(Iv 0)] 29 (0,0))::Pt b1 (.cells #[(Iv p0.vars),aH] 24 (0,0))::L) w)) ?_ ?_
   ·
    refine aG (aB ?_)
    obtain⟨x4,ex4,hj1⟩:=bnd hj1
    obtain⟨b5,b5o,b5c,b5r,b5k,b5f⟩:=bW.at hp1 bC ex4
    obtain rfl:b5c=Enc.enc x4:=b5k
    have b5f:AtP ρ b5 b5o [(Iv x4)]:=b5f
    refine V hE hp rfl (aU rfl hE rfl rfl b5r) fun a hE=>V hE hp rfl (bD rfl hE rfl (fun w hw=>bH bG (b5f.c 0 rfl w hw))) fun a hE=>S hE 1 rfl fun a hE=>aC ?_
    have hE:=hE.cut (E':=[(2,(Iv p2)),(3,(Pv b1 0)),(6,(Pv b2 0)),(8,(Pv b3 0)),(9,w86),(10,(Iv aW)),(12,(Iv x4)),(30,vp1),(31,(Iv (p1.length:Int))),(32,(Iv bU))]) ⟨rfl,rfl,rfl,rfl,rfl,rfl,rfl,rfl,rfl,rfl,trivial⟩
    refine aG (aG ?_)
    refine oN (by kernel_rfl) (by kernel_rfl) hp ?_
    refine Vq hE rfl (xf hE vX rfl rfl) fun a hE=>Vq hE rfl (xl hE bJ 1 rfl rfl rfl rfl) fun a hE=>Sq hE 1 rfl fun a hE=>?_
    obtain⟨x5,ex5,hj1⟩:=bnd hj1
    refine yU (wk0 rfl) rfl rfl hE rfl [(Iv x4)] ⟨rfl,trivial⟩ E5 (v:=(Iv x5)) (fun w hw=>Calls.mono (fK x4 hw x5 ex5) fun e w' ⟨v,he,hv,hh⟩=>⟨by rw[he,hv],hh⟩) ?_
    intro a hE
    obtain⟨x6,ex6,hj1⟩:=bnd hj1
    refine Vq hE rfl (rX rfl hE rfl rfl (aZ ex6)) fun a hE=>?_
    obtain⟨x7,ex7,hj1⟩:=bnd hj1
    obtain⟨b6,b6o,b6r,b6v,b6f⟩:=aA.at hp 2 rfl bC ex7
    refine Vq hE rfl (aU rfl hE rfl rfl b6r) fun a hE=>Vq hE rfl (bD rfl hE rfl (fun w hw=>bH bG (b6f 0 _ rfl _ _ w (hw.get 2 rfl)))) fun a hE=>Sq hE 2 rfl fun a hE=>?_
    refine qR fun w hp=>?_
    have hp:=r6 hp
    refine dK hE rfl (fun hc5=>?_) (fun hc5=>?_)
    ·replace hj1:=(it hc5).symm.trans hj1
     refine aG (aB ?_)
     refine S hE 2 rfl fun a hE=>?_
     obtain⟨x8,ex8,hj1⟩:=bnd hj1
     refine V hE hp rfl (mX rfl hE rfl (aZ ex8)) fun a hE=>?_
     refine iP (wk0 rfl) rfl rfl hE hp rfl [(0,(Iv x8))] ⟨⟨rfl,rfl⟩,trivial⟩ [(Iv x8)] 3 (fun w=>by simp[Instr.buildSlice,Instr.fill,Value.cells,go_sem]) ?_
     intro a w b7 hE hp
     have hp:=r7 hp
     obtain⟨x9,ex9,hj1⟩:=bnd hj1
     refine lY (wk0 rfl) rfl rfl hE hp rfl bC rfl rfl 1 rfl rfl (l2:=[x8]) rfl (fun j u hj=>by have:=Hp.cN 0 rfl 0 _ (bV rfl) w hp j u hj;simpa using this) ex9 ?_
     intro v1 a w hE hp
     have hp:=r7 hp
     refine S hE 1 rfl fun a hE=>aC ?_
     have hE:=hE.cut (E':=[(2,(Iv p2)),(3,(Pv b1 0)),(6,(Pv b2 0)),(8,(Pv b3 0)),(9,v1),(10,(Iv aW)),(30,vp1),(31,(Iv (p1.length:Int))),(32,(Iv bU))]) ⟨rfl,rfl,rfl,rfl,rfl,rfl,rfl,rfl,rfl,trivial⟩
     refine dR ?_
     obtain rfl:=oj hj1
     exact⟨_,rfl,_,_,_,_,hE.cut ⟨rfl,rfl,rfl,rfl,rfl,rfl,rfl,rfl,rfl,trivial⟩,(hp.drop)⟩
    replace hj1:=(ie hc5).symm.trans hj1
    refine bP (aG ?_)
    obtain⟨x10,ex10,hj1⟩:=bnd hj1
    obtain⟨x11,ex11,hj1⟩:=bnd hj1
    obtain⟨x12,ex12,hj1⟩:=bnd hj1
    obtain⟨x13,ex13,hj1⟩:=bnd hj1
    obtain⟨x14,ex14,hj1⟩:=bnd hj1
    obtain⟨x15,ex15,hj1⟩:=bnd hj1
    have hp:=hp.drew
    refine jS ([([],At0 Z ρ),([],At1 Z ρ (Pt b1 (.cells #[(Iv p0.vars),aH] 24 (0,0))))]:Facts) (fun a w=>∃y164:Nat,∃y162:Value,∃y163:Value,∃yus163:List Sl,Env 88 [(2,(Iv p2)),(3,(Pv b1 0)),(6,(Pv b2 0)),(8,(Pv b3 0)),(9,w86),(10,(Iv aW)),(12,(Iv x4)),(13,(Pv y164 0)),(30,vp1),(31,(Iv (p1.length:Int))),(32,(Iv bU))] a∧Hp Z ρ (Pt y164 (.cells #[(Iv x15.kind),y162,y163,(Iv x15.conflicts)] 29 (0,0))::aA 3 y162 x15.model::bT 25 3 y163 yus163 (x15.proof:(List (List Int)))::aA 3 w86 dJ::Pt b3 (.cells #[(Iv jB),w19,w20,(Iv kD)] 29 (0,0))::aA 3 w19 lF::bT 25 3 w20 us20 (vU:(List (List Int)))::Pt b2 (.cells #[(Iv 0),N0,N0,(Iv 0)] 29 (0,0))::Pt b1 (.cells #[(Iv p0.vars),aH] 24 (0,0))::L) w) (by kernel_rfl) ⟨fun _=>⟨_,hp⟩,fun _=>⟨_,(hp.get 5 rfl)⟩,trivial⟩ (fun hS=>?_) ?_
    ·
     generalize w.drew=w at hS hp⊢
     refine T 0 1 hE hS rfl rfl rfl (by kernel_rfl) (fun _=>bD rfl hE rfl (fun w hw=>gB (cs:=[(Iv p0.vars),aH]) fC (Hp.cN 0 rfl 0 _ (bV rfl) w hw))) fun a hE hS=>Ts [1,3] hE hS rfl rfl (by kernel_rfl) fun a hE hS=>T0 4 hE hS rfl rfl rfl (by kernel_rfl) (fun _=>mX rfl hE rfl (aZ ex11)) fun a hE hS=>Ts [8,9] hE hS rfl rfl (by kernel_rfl) fun a hE hS=>T0 10 hE hS rfl rfl rfl (by kernel_rfl) (fun _=>rX rfl hE rfl rfl (aZ ex14)) fun a hE hS=>?_
     refine jH [2,5,12] (by kernel_rfl) rfl ?_
     refine List.forall_mem_cons.2 ⟨?_,List.forall_mem_cons.2 ⟨?_,List.forall_mem_cons.2 ⟨?_,fun _ h=>absurd h (by simp)⟩⟩⟩
     ·
      refine dZ rfl ?_
      obtain⟨k3,k3a,k3d,k3h⟩:=(hp.get 0 rfl).lend
      refine s_call (wk0 rfl) rfl rfl hE rfl [w86] ⟨rfl,trivial⟩ ent39 (uS dJ w86 (aA.ro k3d k3a) k3h x10 ex10) Ret.ret ?_
      intro v4 a w hR hE
      obtain⟨u,hu,hp⟩:=Ret.of hR
      rw[←hu] at hp
      have hp:=Hp.back k3a k3d hp
      have hp:=r7 hp
      have hp:=r7 hp
      refine aC (aI ⟨gp0 hp,gp 6 hp rfl,trivial⟩ fun hS=>?_)
      refine jH [5,12] (by kernel_rfl) rfl ?_
      refine List.forall_mem_cons.2 ⟨?_,List.forall_mem_cons.2 ⟨?_,fun _ h=>absurd h (by simp)⟩⟩
      ·
       refine dZ rfl ?_
       refine iP (wk0 rfl) rfl rfl hE hp rfl [(0,(Iv x11))] ⟨⟨rfl,rfl⟩,trivial⟩ [(Iv x11)] 3 (fun w=>by simp[Instr.buildSlice,Instr.fill,Value.cells,go_sem]) ?_
       intro a w b10 hE hp
       have hp:=r8 hp
       refine aC (aI ⟨gp0 hp,gp 7 hp rfl,trivial⟩ fun hS=>?_)
       refine jH [6,12] (by kernel_rfl) rfl ?_
       refine List.forall_mem_cons.2 ⟨?_,List.forall_mem_cons.2 ⟨?_,fun _ h=>absurd h (by simp)⟩⟩
       ·
        refine dZ rfl ?_
        refine lY (wk0 rfl) rfl rfl hE hp rfl bC rfl rfl 2 rfl rfl (l2:=[x11]) rfl (fun j u hj=>by have:=Hp.cN 0 rfl 0 _ (bV rfl) w hp j u hj;simpa using this) ex12 ?_
        intro v5 a w hE hp
        have hp:=r8 hp
        refine aC (aI ⟨gp0 hp,gp 7 hp rfl,trivial⟩ fun hS=>?_)
        refine jH [7,12] (by kernel_rfl) rfl ?_
        refine List.forall_mem_cons.2 ⟨?_,List.forall_mem_cons.2 ⟨?_,fun _ h=>absurd h (by simp)⟩⟩
        ·
         refine dZ rfl ?_
         obtain⟨k4,k4a,k4d,k4h⟩:=(hp.get 2 rfl).lend
         refine Cl hE rfl rfl P9 (kC p0 aH (bW.mono bI (PH.le_un _ _)) x12 v5 (aA.ro k4d k4a) k4h x13 ex13) ⟨rfl,rfl,trivial⟩ fun v a w hR hE=>?_
         obtain⟨br6,aB6,aB2,P7,aB4,zO,yC,aB5,P8,Z8,vO,vN,aB3,aD8,rfl,hp⟩:=hR
         have hp:=Hp.back k4a k4d hp
         have hp:Hp Z ρ (_::Pt br6 (.cells #[aB6,aB2,P7,aB4,zO,aB5,P8,(Iv x13.head),(Pv Z8 0),aB3,(Iv x13.literals),(.bool x13.broken)] 65 (0,0))::aA 3 aB6 x13.value::aA 3 aB2 x13.level::aA 71 P7 (List.map (hq (yC).2) (x13.reason:List (Option Nat)))::aA 3 aB4 x13.saved::cO 61 71 (78,3) zO yC (x13.watches:WD) none none::aA 3 aB5 x13.trail::aA 3 P8 x13.starts::Pt Z8 (.cells #[vO,vN] 68 (0,0))::aA 3 vO x13.queue.list::aA 4 vN x13.queue.isin::bT 25 3 aB3 aD8 (x13.proof:(List (List Int)))::_::_::_::_::_::_::_::L) w:=hp
         refine aC (aI ⟨gp0 hp,gp 19 hp rfl,trivial⟩ fun hS=>?_)
         refine jH [11,12] (by kernel_rfl) rfl ?_
         refine List.forall_mem_cons.2 ⟨?_,List.forall_mem_cons.2 ⟨?_,fun _ h=>absurd h (by simp)⟩⟩
         ·
          refine dZ rfl ?_
          refine Cl hE rfl rfl zI (dW br6 x13 aB6 aB2 P7 aB4 zO yC aB5 P8 Z8 vO vN aB3 aD8 x14 ((((((((((((hp.get 12 rfl).get 12 rfl).get 12 rfl).get 12 rfl).get 12 rfl).get 12 rfl).get 12 rfl).get 12 rfl).get 12 rfl).get 12 rfl).get 12 rfl).get 12 rfl) x15 ex15) ⟨rfl,rfl,trivial⟩ fun v a w hR hE=>?_
          obtain⟨vr7_model,vr7_proof,usr7_proof,rfl,hp⟩:=hR
          have hp:=r10 hp
          refine aC (aI ⟨gp0 hp,gp 9 hp rfl,trivial⟩ fun hS=>?_)
          refine W1 12 (by kernel_rfl) rfl ?_
          refine qB (wk0 rfl) rfl rfl hE hp rfl [(Iv 0),N0,N0,(Iv 0)] (fun w=>by simp[Instr.alloc,go_sem]<;>rfl) ?_
          intro a w b11 hE hp
          have hp:=r11 hp
          refine aC (aI ⟨gp0 hp,gp 10 hp rfl,trivial⟩ fun hS=>?_)
          refine W1 13 (by kernel_rfl) rfl ?_
          refine dO (wk0 rfl) rfl hE hp rfl rfl rfl 0 rfl fE.size_ rfl (bY ⟨rfl,(aA.one hp 1 rfl),(bT.one hp 2 rfl),rfl,trivial⟩) [(Iv x15.kind),vr7_model,vr7_proof,(Iv x15.conflicts)] rfl ?_
          intro w hp
          have hp:=r11 hp
          refine aC (aI ⟨gp0 hp,gp 10 hp rfl,trivial⟩ fun hS=>?_)
          exact eG (by kernel_rfl) ⟨_,_,_,_,hE.cut ⟨rfl,rfl,rfl,rfl,rfl,rfl,rfl,rfl,rfl,rfl,rfl,trivial⟩,((((hp.get 4 rfl).drop).get 3 rfl).drop)⟩
         refine dZ rfl ?_
         refine qB (wk0 rfl) rfl rfl hE hp rfl [(Iv 0),N0,N0,(Iv 0)] (fun w=>by simp[Instr.alloc,go_sem]<;>rfl) ?_
         intro a w b12 hE hp
         have hp:Hp Z ρ (Pt b12 (.cells #[(Iv 0),N0,N0,(Iv 0)] 29 (0,0))::_::_::_::_::_::_::_::_::_::_::_::_::_::_::_::_::_::_::_::_::L) w:=hp
         refine aC (aI ⟨gp0 hp,gp 20 hp rfl,trivial⟩ fun hS=>?_)
         refine W1 11 (by kernel_rfl) rfl ?_
         refine Cl hE rfl rfl zI (dW br6 x13 aB6 aB2 P7 aB4 zO yC aB5 P8 Z8 vO vN aB3 aD8 x14 ((((((((((((hp.get 13 rfl).get 13 rfl).get 13 rfl).get 13 rfl).get 13 rfl).get 13 rfl).get 13 rfl).get 13 rfl).get 13 rfl).get 13 rfl).get 13 rfl).get 13 rfl) x15 ex15) ⟨rfl,rfl,trivial⟩ fun v a w hR hE=>?_
         obtain⟨vr8_model,vr8_proof,usr8_proof,rfl,hp⟩:=hR
         have hp:=r11 hp
         refine aC (aI ⟨gp0 hp,gp 10 hp rfl,trivial⟩ fun hS=>?_)
         refine W1 13 (by kernel_rfl) rfl ?_
         refine dO (wk0 rfl) rfl hE hp rfl rfl rfl 2 rfl fE.size_ rfl (bY ⟨rfl,(aA.one hp 0 rfl),(bT.one hp 1 rfl),rfl,trivial⟩) [(Iv x15.kind),vr8_model,vr8_proof,(Iv x15.conflicts)] rfl ?_
         intro w hp
         have hp:=r11 hp
         refine aC (aI ⟨gp0 hp,gp 10 hp rfl,trivial⟩ fun hS=>?_)
         exact eG (by kernel_rfl) ⟨_,_,_,_,hE.cut ⟨rfl,rfl,rfl,rfl,rfl,rfl,rfl,rfl,rfl,rfl,rfl,trivial⟩,(((((((((((((hp.get 10 rfl).get 10 rfl).get 10 rfl).get 10 rfl).get 10 rfl).get 10 rfl).get 7 rfl).get 7 rfl).get 8 rfl).get 10 rfl).drop).get 9 rfl).drop)⟩
        refine dZ rfl ?_
        refine qB (wk0 rfl) rfl rfl hE hp rfl [(Iv 0),N0,N0,(Iv 0)] (fun w=>by simp[Instr.alloc,go_sem]<;>rfl) ?_
        intro a w b13 hE hp
        have hp:=r9 hp
        refine aC (aI ⟨gp0 hp,gp 8 hp rfl,trivial⟩ fun hS=>?_)
        refine W1 7 (by kernel_rfl) rfl ?_
        obtain⟨k5,k5a,k5d,k5h⟩:=(hp.get 3 rfl).lend
        refine Cl hE rfl rfl P9 (kC p0 aH (bW.mono bI (PH.le_un _ _)) x12 v5 (aA.ro k5d k5a) k5h x13 ex13) ⟨rfl,rfl,trivial⟩ fun v a w hR hE=>?_
        obtain⟨br9,vr9_value,vr9_level,aH7,vr9_saved,Z7,L8,vr9_trail,aH8,br9_queue,zC,zB,vr9_proof,usr9_proof,rfl,hp⟩:=hR
        have hp:=Hp.back k5a k5d hp
        have hp:Hp Z ρ (_::Pt br9 (.cells #[vr9_value,vr9_level,aH7,vr9_saved,Z7,vr9_trail,aH8,(Iv x13.head),(Pv br9_queue 0),vr9_proof,(Iv x13.literals),(.bool x13.broken)] 65 (0,0))::aA 3 vr9_value x13.value::aA 3 vr9_level x13.level::aA 71 aH7 (List.map (hq (L8).2) (x13.reason:List (Option Nat)))::aA 3 vr9_saved x13.saved::cO 61 71 (78,3) Z7 L8 (x13.watches:WD) none none::aA 3 vr9_trail x13.trail::aA 3 aH8 x13.starts::Pt br9_queue (.cells #[zC,zB] 68 (0,0))::aA 3 zC x13.queue.list::aA 4 zB x13.queue.isin::bT 25 3 vr9_proof usr9_proof (x13.proof:(List (List Int)))::_::_::_::_::_::_::_::_::L) w:=hp
        refine aC (aI ⟨gp0 hp,gp 20 hp rfl,trivial⟩ fun hS=>?_)
        refine W1 11 (by kernel_rfl) rfl ?_
        refine Cl hE rfl rfl zI (dW br9 x13 vr9_value vr9_level aH7 vr9_saved Z7 L8 vr9_trail aH8 br9_queue zC zB vr9_proof usr9_proof x14 ((((((((((((hp.get 12 rfl).get 12 rfl).get 12 rfl).get 12 rfl).get 12 rfl).get 12 rfl).get 12 rfl).get 12 rfl).get 12 rfl).get 12 rfl).get 12 rfl).get 12 rfl) x15 ex15) ⟨rfl,rfl,trivial⟩ fun v a w hR hE=>?_
        obtain⟨vr10_model,vr10_proof,usr10_proof,rfl,hp⟩:=hR
        have hp:=r11 hp
        refine aC (aI ⟨gp0 hp,gp 10 hp rfl,trivial⟩ fun hS=>?_)
        refine W1 13 (by kernel_rfl) rfl ?_
        refine dO (wk0 rfl) rfl hE hp rfl rfl rfl 3 rfl fE.size_ rfl (bY ⟨rfl,(aA.one hp 0 rfl),(bT.one hp 1 rfl),rfl,trivial⟩) [(Iv x15.kind),vr10_model,vr10_proof,(Iv x15.conflicts)] rfl ?_
        intro w hp
        have hp:=r11 hp
        refine aC (aI ⟨gp0 hp,gp 10 hp rfl,trivial⟩ fun hS=>?_)
        exact eG (by kernel_rfl) ⟨_,_,_,_,hE.cut ⟨rfl,rfl,rfl,rfl,rfl,rfl,rfl,rfl,rfl,rfl,rfl,trivial⟩,(((((((((((((hp.get 10 rfl).get 10 rfl).get 10 rfl).get 10 rfl).get 10 rfl).get 10 rfl).get 7 rfl).get 7 rfl).get 9 rfl).get 10 rfl).drop).get 9 rfl).drop)⟩
       refine dZ rfl ?_
       refine qB (wk0 rfl) rfl rfl hE hp rfl [(Iv 0),N0,N0,(Iv 0)] (fun w=>by simp[Instr.alloc,go_sem]<;>rfl) ?_
       intro a w b14 hE hp
       have hp:=r9 hp
       refine aC (aI ⟨gp0 hp,gp 8 hp rfl,trivial⟩ fun hS=>?_)
       refine W1 6 (by kernel_rfl) rfl ?_
       refine lY (wk0 rfl) rfl rfl hE hp rfl bC rfl rfl 3 rfl rfl (l2:=[x11]) rfl (fun j u hj=>by have:=Hp.cN 1 rfl 0 _ (bV rfl) w hp j u hj;simpa using this) ex12 ?_
       intro v6 a w hE hp
       have hp:=r9 hp
       refine aC (aI ⟨gp0 hp,gp 8 hp rfl,trivial⟩ fun hS=>?_)
       refine W1 7 (by kernel_rfl) rfl ?_
       obtain⟨k6,k6a,k6d,k6h⟩:=(hp.get 3 rfl).lend
       refine Cl hE rfl rfl P9 (kC p0 aH (bW.mono bI (PH.le_un _ _)) x12 v6 (aA.ro k6d k6a) k6h x13 ex13) ⟨rfl,rfl,trivial⟩ fun v a w hR hE=>?_
       obtain⟨br11,aE4,aE0,X5,aE2,N9,zV,aE3,X6,aC1,xI,xH,aE1,usr11_proof,rfl,hp⟩:=hR
       have hp:=Hp.back k6a k6d hp
       have hp:Hp Z ρ (_::Pt br11 (.cells #[aE4,aE0,X5,aE2,N9,aE3,X6,(Iv x13.head),(Pv aC1 0),aE1,(Iv x13.literals),(.bool x13.broken)] 65 (0,0))::aA 3 aE4 x13.value::aA 3 aE0 x13.level::aA 71 X5 (List.map (hq (zV).2) (x13.reason:List (Option Nat)))::aA 3 aE2 x13.saved::cO 61 71 (78,3) N9 zV (x13.watches:WD) none none::aA 3 aE3 x13.trail::aA 3 X6 x13.starts::Pt aC1 (.cells #[xI,xH] 68 (0,0))::aA 3 xI x13.queue.list::aA 4 xH x13.queue.isin::bT 25 3 aE1 usr11_proof (x13.proof:(List (List Int)))::_::_::_::_::_::_::_::_::L) w:=hp
       refine aC (aI ⟨gp0 hp,gp 20 hp rfl,trivial⟩ fun hS=>?_)
       refine W1 11 (by kernel_rfl) rfl ?_
       refine Cl hE rfl rfl zI (dW br11 x13 aE4 aE0 X5 aE2 N9 zV aE3 X6 aC1 xI xH aE1 usr11_proof x14 ((((((((((((hp.get 12 rfl).get 12 rfl).get 12 rfl).get 12 rfl).get 12 rfl).get 12 rfl).get 12 rfl).get 12 rfl).get 12 rfl).get 12 rfl).get 12 rfl).get 12 rfl) x15 ex15) ⟨rfl,rfl,trivial⟩ fun v a w hR hE=>?_
       obtain⟨vr12_model,vr12_proof,usr12_proof,rfl,hp⟩:=hR
       have hp:=r11 hp
       refine aC (aI ⟨gp0 hp,gp 10 hp rfl,trivial⟩ fun hS=>?_)
       refine W1 13 (by kernel_rfl) rfl ?_
       refine dO (wk0 rfl) rfl hE hp rfl rfl rfl 3 rfl fE.size_ rfl (bY ⟨rfl,(aA.one hp 0 rfl),(bT.one hp 1 rfl),rfl,trivial⟩) [(Iv x15.kind),vr12_model,vr12_proof,(Iv x15.conflicts)] rfl ?_
       intro w hp
       have hp:=r11 hp
       refine aC (aI ⟨gp0 hp,gp 10 hp rfl,trivial⟩ fun hS=>?_)
       exact eG (by kernel_rfl) ⟨_,_,_,_,hE.cut ⟨rfl,rfl,rfl,rfl,rfl,rfl,rfl,rfl,rfl,rfl,rfl,trivial⟩,(((((((((((((hp.get 10 rfl).get 10 rfl).get 10 rfl).get 10 rfl).get 10 rfl).get 10 rfl).get 7 rfl).get 7 rfl).get 9 rfl).get 10 rfl).drop).get 9 rfl).drop)⟩
      refine dZ rfl ?_
      refine qB (wk0 rfl) rfl rfl hE hp rfl [(Iv 0),N0,N0,(Iv 0)] (fun w=>by simp[Instr.alloc,go_sem]<;>rfl) ?_
      intro a w b15 hE hp
      have hp:=r8 hp
      refine aC (aI ⟨gp0 hp,gp 7 hp rfl,trivial⟩ fun hS=>?_)
      refine W1 5 (by kernel_rfl) rfl ?_
      refine iP (wk0 rfl) rfl rfl hE hp rfl [(0,(Iv x11))] ⟨⟨rfl,rfl⟩,trivial⟩ [(Iv x11)] 3 (fun w=>by simp[Instr.buildSlice,Instr.fill,Value.cells,go_sem]) ?_
      intro a w b16 hE hp
      have hp:=r9 hp
      refine aC (aI ⟨gp0 hp,gp 8 hp rfl,trivial⟩ fun hS=>?_)
      refine W1 6 (by kernel_rfl) rfl ?_
      refine lY (wk0 rfl) rfl rfl hE hp rfl bC rfl rfl 3 rfl rfl (l2:=[x11]) rfl (fun j u hj=>by have:=Hp.cN 0 rfl 0 _ (bV rfl) w hp j u hj;simpa using this) ex12 ?_
      intro v7 a w hE hp
      have hp:=r9 hp
      refine aC (aI ⟨gp0 hp,gp 8 hp rfl,trivial⟩ fun hS=>?_)
      refine W1 7 (by kernel_rfl) rfl ?_
      obtain⟨k7,k7a,k7d,k7h⟩:=(hp.get 3 rfl).lend
      refine Cl hE rfl rfl P9 (kC p0 aH (bW.mono bI (PH.le_un _ _)) x12 v7 (aA.ro k7d k7a) k7h x13 ex13) ⟨rfl,rfl,trivial⟩ fun v a w hR hE=>?_
      obtain⟨br13,aE9,aE5,X7,aE7,O0,zW,aE8,X8,aC2,xK,xJ,aE6,usr13_proof,rfl,hp⟩:=hR
      have hp:=Hp.back k7a k7d hp
      have hp:Hp Z ρ (_::Pt br13 (.cells #[aE9,aE5,X7,aE7,O0,aE8,X8,(Iv x13.head),(Pv aC2 0),aE6,(Iv x13.literals),(.bool x13.broken)] 65 (0,0))::aA 3 aE9 x13.value::aA 3 aE5 x13.level::aA 71 X7 (List.map (hq (zW).2) (x13.reason:List (Option Nat)))::aA 3 aE7 x13.saved::cO 61 71 (78,3) O0 zW (x13.watches:WD) none none::aA 3 aE8 x13.trail::aA 3 X8 x13.starts::Pt aC2 (.cells #[xK,xJ] 68 (0,0))::aA 3 xK x13.queue.list::aA 4 xJ x13.queue.isin::bT 25 3 aE6 usr13_proof (x13.proof:(List (List Int)))::_::_::_::_::_::_::_::_::L) w:=hp
      refine aC (aI ⟨gp0 hp,gp 20 hp rfl,trivial⟩ fun hS=>?_)
      refine W1 11 (by kernel_rfl) rfl ?_
      refine Cl hE rfl rfl zI (dW br13 x13 aE9 aE5 X7 aE7 O0 zW aE8 X8 aC2 xK xJ aE6 usr13_proof x14 ((((((((((((hp.get 12 rfl).get 12 rfl).get 12 rfl).get 12 rfl).get 12 rfl).get 12 rfl).get 12 rfl).get 12 rfl).get 12 rfl).get 12 rfl).get 12 rfl).get 12 rfl) x15 ex15) ⟨rfl,rfl,trivial⟩ fun v a w hR hE=>?_
      obtain⟨vr14_model,vr14_proof,usr14_proof,rfl,hp⟩:=hR
      have hp:=r11 hp
      refine aC (aI ⟨gp0 hp,gp 10 hp rfl,trivial⟩ fun hS=>?_)
      refine W1 13 (by kernel_rfl) rfl ?_
      refine dO (wk0 rfl) rfl hE hp rfl rfl rfl 4 rfl fE.size_ rfl (bY ⟨rfl,(aA.one hp 0 rfl),(bT.one hp 1 rfl),rfl,trivial⟩) [(Iv x15.kind),vr14_model,vr14_proof,(Iv x15.conflicts)] rfl ?_
      intro w hp
      have hp:=r11 hp
      refine aC (aI ⟨gp0 hp,gp 10 hp rfl,trivial⟩ fun hS=>?_)
      exact eG (by kernel_rfl) ⟨_,_,_,_,hE.cut ⟨rfl,rfl,rfl,rfl,rfl,rfl,rfl,rfl,rfl,rfl,rfl,trivial⟩,(((((((((((((hp.get 10 rfl).get 10 rfl).get 10 rfl).get 10 rfl).get 10 rfl).get 10 rfl).get 7 rfl).get 7 rfl).get 10 rfl).get 10 rfl).drop).get 9 rfl).drop)⟩
     ·
      refine dZ rfl ?_
      refine iP (wk0 rfl) rfl rfl hE hp rfl [(0,(Iv x11))] ⟨⟨rfl,rfl⟩,trivial⟩ [(Iv x11)] 3 (fun w=>by simp[Instr.buildSlice,Instr.fill,Value.cells,go_sem]) ?_
      intro a w b17 hE hp
      have hp:=r7 hp
      refine aC (aI ⟨gp0 hp,gp 6 hp rfl,trivial⟩ fun hS=>?_)
      refine jH [2,12] (by kernel_rfl) rfl ?_
      refine List.forall_mem_cons.2 ⟨?_,List.forall_mem_cons.2 ⟨?_,fun _ h=>absurd h (by simp)⟩⟩
      ·
       refine dZ rfl ?_
       obtain⟨k8,k8a,k8d,k8h⟩:=(hp.get 1 rfl).lend
       refine s_call (wk0 rfl) rfl rfl hE rfl [w86] ⟨rfl,trivial⟩ ent39 (uS dJ w86 (aA.ro k8d k8a) k8h x10 ex10) Ret.ret ?_
       intro v8 a w hR hE
       obtain⟨u,hu,hp⟩:=Ret.of hR
       rw[←hu] at hp
       have hp:=Hp.back k8a k8d hp
       have hp:=r8 hp
       have hp:=r8 hp
       refine aC (aI ⟨gp0 hp,gp 7 hp rfl,trivial⟩ fun hS=>?_)
       refine jH [6,12] (by kernel_rfl) rfl ?_
       refine List.forall_mem_cons.2 ⟨?_,List.forall_mem_cons.2 ⟨?_,fun _ h=>absurd h (by simp)⟩⟩
       ·
        refine dZ rfl ?_
        refine lY (wk0 rfl) rfl rfl hE hp rfl bC rfl rfl 1 rfl rfl (l2:=[x11]) rfl (fun j u hj=>by have:=Hp.cN 2 rfl 0 _ (bV rfl) w hp j u hj;simpa using this) ex12 ?_
        intro v9 a w hE hp
        have hp:=r8 hp
        refine aC (aI ⟨gp0 hp,gp 7 hp rfl,trivial⟩ fun hS=>?_)
        refine jH [7,12] (by kernel_rfl) rfl ?_
        refine List.forall_mem_cons.2 ⟨?_,List.forall_mem_cons.2 ⟨?_,fun _ h=>absurd h (by simp)⟩⟩
        ·
         refine dZ rfl ?_
         obtain⟨k9,k9a,k9d,k9h⟩:=(hp.get 1 rfl).lend
         refine Cl hE rfl rfl P9 (kC p0 aH (bW.mono bI (PH.le_un _ _)) x12 v9 (aA.ro k9d k9a) k9h x13 ex13) ⟨rfl,rfl,trivial⟩ fun v a w hR hE=>?_
         obtain⟨br15,O6,O1,zM,O4,yD,wO,O5,zN,I4,uK,uJ,O3,X0,rfl,hp⟩:=hR
         have hp:=Hp.back k9a k9d hp
         have hp:Hp Z ρ (_::Pt br15 (.cells #[O6,O1,zM,O4,yD,O5,zN,(Iv x13.head),(Pv I4 0),O3,(Iv x13.literals),(.bool x13.broken)] 65 (0,0))::aA 3 O6 x13.value::aA 3 O1 x13.level::aA 71 zM (List.map (hq (wO).2) (x13.reason:List (Option Nat)))::aA 3 O4 x13.saved::cO 61 71 (78,3) yD wO (x13.watches:WD) none none::aA 3 O5 x13.trail::aA 3 zN x13.starts::Pt I4 (.cells #[uK,uJ] 68 (0,0))::aA 3 uK x13.queue.list::aA 4 uJ x13.queue.isin::bT 25 3 O3 X0 (x13.proof:(List (List Int)))::_::_::_::_::_::_::_::L) w:=hp
         refine aC (aI ⟨gp0 hp,gp 19 hp rfl,trivial⟩ fun hS=>?_)
         refine jH [11,12] (by kernel_rfl) rfl ?_
         refine List.forall_mem_cons.2 ⟨?_,List.forall_mem_cons.2 ⟨?_,fun _ h=>absurd h (by simp)⟩⟩
         ·
          refine dZ rfl ?_
          refine Cl hE rfl rfl zI (dW br15 x13 O6 O1 zM O4 yD wO O5 zN I4 uK uJ O3 X0 x14 ((((((((((((hp.get 12 rfl).get 12 rfl).get 12 rfl).get 12 rfl).get 12 rfl).get 12 rfl).get 12 rfl).get 12 rfl).get 12 rfl).get 12 rfl).get 12 rfl).get 12 rfl) x15 ex15) ⟨rfl,rfl,trivial⟩ fun v a w hR hE=>?_
          obtain⟨vr16_model,vr16_proof,usr16_proof,rfl,hp⟩:=hR
          have hp:=r10 hp
          refine aC (aI ⟨gp0 hp,gp 9 hp rfl,trivial⟩ fun hS=>?_)
          refine W1 12 (by kernel_rfl) rfl ?_
          refine qB (wk0 rfl) rfl rfl hE hp rfl [(Iv 0),N0,N0,(Iv 0)] (fun w=>by simp[Instr.alloc,go_sem]<;>rfl) ?_
          intro a w b18 hE hp
          have hp:=r11 hp
          refine aC (aI ⟨gp0 hp,gp 10 hp rfl,trivial⟩ fun hS=>?_)
          refine W1 13 (by kernel_rfl) rfl ?_
          refine dO (wk0 rfl) rfl hE hp rfl rfl rfl 0 rfl fE.size_ rfl (bY ⟨rfl,(aA.one hp 1 rfl),(bT.one hp 2 rfl),rfl,trivial⟩) [(Iv x15.kind),vr16_model,vr16_proof,(Iv x15.conflicts)] rfl ?_
          intro w hp
          have hp:=r11 hp
          refine aC (aI ⟨gp0 hp,gp 10 hp rfl,trivial⟩ fun hS=>?_)
          exact eG (by kernel_rfl) ⟨_,_,_,_,hE.cut ⟨rfl,rfl,rfl,rfl,rfl,rfl,rfl,rfl,rfl,rfl,rfl,trivial⟩,((((hp.get 5 rfl).drop).get 3 rfl).drop)⟩
         refine dZ rfl ?_
         refine qB (wk0 rfl) rfl rfl hE hp rfl [(Iv 0),N0,N0,(Iv 0)] (fun w=>by simp[Instr.alloc,go_sem]<;>rfl) ?_
         intro a w b19 hE hp
         have hp:Hp Z ρ (Pt b19 (.cells #[(Iv 0),N0,N0,(Iv 0)] 29 (0,0))::_::_::_::_::_::_::_::_::_::_::_::_::_::_::_::_::_::_::_::_::L) w:=hp
         refine aC (aI ⟨gp0 hp,gp 20 hp rfl,trivial⟩ fun hS=>?_)
         refine W1 11 (by kernel_rfl) rfl ?_
         refine Cl hE rfl rfl zI (dW br15 x13 O6 O1 zM O4 yD wO O5 zN I4 uK uJ O3 X0 x14 ((((((((((((hp.get 13 rfl).get 13 rfl).get 13 rfl).get 13 rfl).get 13 rfl).get 13 rfl).get 13 rfl).get 13 rfl).get 13 rfl).get 13 rfl).get 13 rfl).get 13 rfl) x15 ex15) ⟨rfl,rfl,trivial⟩ fun v a w hR hE=>?_
         obtain⟨vr17_model,vr17_proof,usr17_proof,rfl,hp⟩:=hR
         have hp:=r11 hp
         refine aC (aI ⟨gp0 hp,gp 10 hp rfl,trivial⟩ fun hS=>?_)
         refine W1 13 (by kernel_rfl) rfl ?_
         refine dO (wk0 rfl) rfl hE hp rfl rfl rfl 2 rfl fE.size_ rfl (bY ⟨rfl,(aA.one hp 0 rfl),(bT.one hp 1 rfl),rfl,trivial⟩) [(Iv x15.kind),vr17_model,vr17_proof,(Iv x15.conflicts)] rfl ?_
         intro w hp
         have hp:=r11 hp
         refine aC (aI ⟨gp0 hp,gp 10 hp rfl,trivial⟩ fun hS=>?_)
         exact eG (by kernel_rfl) ⟨_,_,_,_,hE.cut ⟨rfl,rfl,rfl,rfl,rfl,rfl,rfl,rfl,rfl,rfl,rfl,trivial⟩,(((((((((((((hp.get 10 rfl).get 10 rfl).get 10 rfl).get 10 rfl).get 10 rfl).get 9 rfl).get 7 rfl).get 7 rfl).get 8 rfl).get 10 rfl).drop).get 9 rfl).drop)⟩
        refine dZ rfl ?_
        refine qB (wk0 rfl) rfl rfl hE hp rfl [(Iv 0),N0,N0,(Iv 0)] (fun w=>by simp[Instr.alloc,go_sem]<;>rfl) ?_
        intro a w b20 hE hp
        have hp:=r9 hp
        refine aC (aI ⟨gp0 hp,gp 8 hp rfl,trivial⟩ fun hS=>?_)
        refine W1 7 (by kernel_rfl) rfl ?_
        obtain⟨k10,k10a,k10d,k10h⟩:=(hp.get 2 rfl).lend
        refine Cl hE rfl rfl P9 (kC p0 aH (bW.mono bI (PH.le_un _ _)) x12 v9 (aA.ro k10d k10a) k10h x13 ex13) ⟨rfl,rfl,trivial⟩ fun v a w hR hE=>?_
        obtain⟨br18,aF4,aF0,X9,aF2,O7,zX,aF3,Y0,aC3,xN,xM,aF1,usr18_proof,rfl,hp⟩:=hR
        have hp:=Hp.back k10a k10d hp
        have hp:Hp Z ρ (_::Pt br18 (.cells #[aF4,aF0,X9,aF2,O7,aF3,Y0,(Iv x13.head),(Pv aC3 0),aF1,(Iv x13.literals),(.bool x13.broken)] 65 (0,0))::aA 3 aF4 x13.value::aA 3 aF0 x13.level::aA 71 X9 (List.map (hq (zX).2) (x13.reason:List (Option Nat)))::aA 3 aF2 x13.saved::cO 61 71 (78,3) O7 zX (x13.watches:WD) none none::aA 3 aF3 x13.trail::aA 3 Y0 x13.starts::Pt aC3 (.cells #[xN,xM] 68 (0,0))::aA 3 xN x13.queue.list::aA 4 xM x13.queue.isin::bT 25 3 aF1 usr18_proof (x13.proof:(List (List Int)))::_::_::_::_::_::_::_::_::L) w:=hp
        refine aC (aI ⟨gp0 hp,gp 20 hp rfl,trivial⟩ fun hS=>?_)
        refine W1 11 (by kernel_rfl) rfl ?_
        refine Cl hE rfl rfl zI (dW br18 x13 aF4 aF0 X9 aF2 O7 zX aF3 Y0 aC3 xN xM aF1 usr18_proof x14 ((((((((((((hp.get 12 rfl).get 12 rfl).get 12 rfl).get 12 rfl).get 12 rfl).get 12 rfl).get 12 rfl).get 12 rfl).get 12 rfl).get 12 rfl).get 12 rfl).get 12 rfl) x15 ex15) ⟨rfl,rfl,trivial⟩ fun v a w hR hE=>?_
        obtain⟨vr19_model,vr19_proof,usr19_proof,rfl,hp⟩:=hR
        have hp:=r11 hp
        refine aC (aI ⟨gp0 hp,gp 10 hp rfl,trivial⟩ fun hS=>?_)
        refine W1 13 (by kernel_rfl) rfl ?_
        refine dO (wk0 rfl) rfl hE hp rfl rfl rfl 3 rfl fE.size_ rfl (bY ⟨rfl,(aA.one hp 0 rfl),(bT.one hp 1 rfl),rfl,trivial⟩) [(Iv x15.kind),vr19_model,vr19_proof,(Iv x15.conflicts)] rfl ?_
        intro w hp
        have hp:=r11 hp
        refine aC (aI ⟨gp0 hp,gp 10 hp rfl,trivial⟩ fun hS=>?_)
        exact eG (by kernel_rfl) ⟨_,_,_,_,hE.cut ⟨rfl,rfl,rfl,rfl,rfl,rfl,rfl,rfl,rfl,rfl,rfl,trivial⟩,(((((((((((((hp.get 10 rfl).get 10 rfl).get 10 rfl).get 10 rfl).get 10 rfl).get 9 rfl).get 7 rfl).get 7 rfl).get 9 rfl).get 10 rfl).drop).get 9 rfl).drop)⟩
       refine dZ rfl ?_
       refine qB (wk0 rfl) rfl rfl hE hp rfl [(Iv 0),N0,N0,(Iv 0)] (fun w=>by simp[Instr.alloc,go_sem]<;>rfl) ?_
       intro a w b21 hE hp
       have hp:=r9 hp
       refine aC (aI ⟨gp0 hp,gp 8 hp rfl,trivial⟩ fun hS=>?_)
       refine W1 6 (by kernel_rfl) rfl ?_
       refine lY (wk0 rfl) rfl rfl hE hp rfl bC rfl rfl 2 rfl rfl (l2:=[x11]) rfl (fun j u hj=>by have:=Hp.cN 3 rfl 0 _ (bV rfl) w hp j u hj;simpa using this) ex12 ?_
       intro v10 a w hE hp
       have hp:=r9 hp
       refine aC (aI ⟨gp0 hp,gp 8 hp rfl,trivial⟩ fun hS=>?_)
       refine W1 7 (by kernel_rfl) rfl ?_
       obtain⟨k11,k11a,k11d,k11h⟩:=(hp.get 2 rfl).lend
       refine Cl hE rfl rfl P9 (kC p0 aH (bW.mono bI (PH.le_un _ _)) x12 v10 (aA.ro k11d k11a) k11h x13 ex13) ⟨rfl,rfl,trivial⟩ fun v a w hR hE=>?_
       obtain⟨br20,aF9,aF5,Y3,aF7,O8,zY,aF8,Y4,aC4,xP,xO,aF6,usr20_proof,rfl,hp⟩:=hR
       have hp:=Hp.back k11a k11d hp
       have hp:Hp Z ρ (_::Pt br20 (.cells #[aF9,aF5,Y3,aF7,O8,aF8,Y4,(Iv x13.head),(Pv aC4 0),aF6,(Iv x13.literals),(.bool x13.broken)] 65 (0,0))::aA 3 aF9 x13.value::aA 3 aF5 x13.level::aA 71 Y3 (List.map (hq (zY).2) (x13.reason:List (Option Nat)))::aA 3 aF7 x13.saved::cO 61 71 (78,3) O8 zY (x13.watches:WD) none none::aA 3 aF8 x13.trail::aA 3 Y4 x13.starts::Pt aC4 (.cells #[xP,xO] 68 (0,0))::aA 3 xP x13.queue.list::aA 4 xO x13.queue.isin::bT 25 3 aF6 usr20_proof (x13.proof:(List (List Int)))::_::_::_::_::_::_::_::_::L) w:=hp
       refine aC (aI ⟨gp0 hp,gp 20 hp rfl,trivial⟩ fun hS=>?_)
       refine W1 11 (by kernel_rfl) rfl ?_
       refine Cl hE rfl rfl zI (dW br20 x13 aF9 aF5 Y3 aF7 O8 zY aF8 Y4 aC4 xP xO aF6 usr20_proof x14 ((((((((((((hp.get 12 rfl).get 12 rfl).get 12 rfl).get 12 rfl).get 12 rfl).get 12 rfl).get 12 rfl).get 12 rfl).get 12 rfl).get 12 rfl).get 12 rfl).get 12 rfl) x15 ex15) ⟨rfl,rfl,trivial⟩ fun v a w hR hE=>?_
       obtain⟨vr21_model,vr21_proof,usr21_proof,rfl,hp⟩:=hR
       have hp:=r11 hp
       refine aC (aI ⟨gp0 hp,gp 10 hp rfl,trivial⟩ fun hS=>?_)
       refine W1 13 (by kernel_rfl) rfl ?_
       refine dO (wk0 rfl) rfl hE hp rfl rfl rfl 3 rfl fE.size_ rfl (bY ⟨rfl,(aA.one hp 0 rfl),(bT.one hp 1 rfl),rfl,trivial⟩) [(Iv x15.kind),vr21_model,vr21_proof,(Iv x15.conflicts)] rfl ?_
       intro w hp
       have hp:=r11 hp
       refine aC (aI ⟨gp0 hp,gp 10 hp rfl,trivial⟩ fun hS=>?_)
       exact eG (by kernel_rfl) ⟨_,_,_,_,hE.cut ⟨rfl,rfl,rfl,rfl,rfl,rfl,rfl,rfl,rfl,rfl,rfl,trivial⟩,(((((((((((((hp.get 10 rfl).get 10 rfl).get 10 rfl).get 10 rfl).get 10 rfl).get 9 rfl).get 7 rfl).get 7 rfl).get 9 rfl).get 10 rfl).drop).get 9 rfl).drop)⟩
      refine dZ rfl ?_
      refine qB (wk0 rfl) rfl rfl hE hp rfl [(Iv 0),N0,N0,(Iv 0)] (fun w=>by simp[Instr.alloc,go_sem]<;>rfl) ?_
      intro a w b22 hE hp
      have hp:=r8 hp
      refine aC (aI ⟨gp0 hp,gp 7 hp rfl,trivial⟩ fun hS=>?_)
      refine W1 2 (by kernel_rfl) rfl ?_
      obtain⟨k12,k12a,k12d,k12h⟩:=(hp.get 2 rfl).lend
      refine s_call (wk0 rfl) rfl rfl hE rfl [w86] ⟨rfl,trivial⟩ ent39 (uS dJ w86 (aA.ro k12d k12a) k12h x10 ex10) Ret.ret ?_
      intro v11 a w hR hE
      obtain⟨u,hu,hp⟩:=Ret.of hR
      rw[←hu] at hp
      have hp:=Hp.back k12a k12d hp
      have hp:=r9 hp
      have hp:=r9 hp
      refine aC (aI ⟨gp0 hp,gp 8 hp rfl,trivial⟩ fun hS=>?_)
      refine W1 6 (by kernel_rfl) rfl ?_
      refine lY (wk0 rfl) rfl rfl hE hp rfl bC rfl rfl 1 rfl rfl (l2:=[x11]) rfl (fun j u hj=>by have:=Hp.cN 3 rfl 0 _ (bV rfl) w hp j u hj;simpa using this) ex12 ?_
      intro v12 a w hE hp
      have hp:=r9 hp
      refine aC (aI ⟨gp0 hp,gp 8 hp rfl,trivial⟩ fun hS=>?_)
      refine W1 7 (by kernel_rfl) rfl ?_
      obtain⟨k13,k13a,k13d,k13h⟩:=(hp.get 1 rfl).lend
      refine Cl hE rfl rfl P9 (kC p0 aH (bW.mono bI (PH.le_un _ _)) x12 v12 (aA.ro k13d k13a) k13h x13 ex13) ⟨rfl,rfl,trivial⟩ fun v a w hR hE=>?_
      obtain⟨br22,aG4,aG0,Y5,aG2,O9,zZ,aG3,Y6,aC5,xR,xQ,aG1,usr22_proof,rfl,hp⟩:=hR
      have hp:=Hp.back k13a k13d hp
      have hp:Hp Z ρ (_::Pt br22 (.cells #[aG4,aG0,Y5,aG2,O9,aG3,Y6,(Iv x13.head),(Pv aC5 0),aG1,(Iv x13.literals),(.bool x13.broken)] 65 (0,0))::aA 3 aG4 x13.value::aA 3 aG0 x13.level::aA 71 Y5 (List.map (hq (zZ).2) (x13.reason:List (Option Nat)))::aA 3 aG2 x13.saved::cO 61 71 (78,3) O9 zZ (x13.watches:WD) none none::aA 3 aG3 x13.trail::aA 3 Y6 x13.starts::Pt aC5 (.cells #[xR,xQ] 68 (0,0))::aA 3 xR x13.queue.list::aA 4 xQ x13.queue.isin::bT 25 3 aG1 usr22_proof (x13.proof:(List (List Int)))::_::_::_::_::_::_::_::_::L) w:=hp
      refine aC (aI ⟨gp0 hp,gp 20 hp rfl,trivial⟩ fun hS=>?_)
      refine W1 11 (by kernel_rfl) rfl ?_
      refine Cl hE rfl rfl zI (dW br22 x13 aG4 aG0 Y5 aG2 O9 zZ aG3 Y6 aC5 xR xQ aG1 usr22_proof x14 ((((((((((((hp.get 12 rfl).get 12 rfl).get 12 rfl).get 12 rfl).get 12 rfl).get 12 rfl).get 12 rfl).get 12 rfl).get 12 rfl).get 12 rfl).get 12 rfl).get 12 rfl) x15 ex15) ⟨rfl,rfl,trivial⟩ fun v a w hR hE=>?_
      obtain⟨vr23_model,vr23_proof,usr23_proof,rfl,hp⟩:=hR
      have hp:=r11 hp
      refine aC (aI ⟨gp0 hp,gp 10 hp rfl,trivial⟩ fun hS=>?_)
      refine W1 13 (by kernel_rfl) rfl ?_
      refine dO (wk0 rfl) rfl hE hp rfl rfl rfl 4 rfl fE.size_ rfl (bY ⟨rfl,(aA.one hp 0 rfl),(bT.one hp 1 rfl),rfl,trivial⟩) [(Iv x15.kind),vr23_model,vr23_proof,(Iv x15.conflicts)] rfl ?_
      intro w hp
      have hp:=r11 hp
      refine aC (aI ⟨gp0 hp,gp 10 hp rfl,trivial⟩ fun hS=>?_)
      exact eG (by kernel_rfl) ⟨_,_,_,_,hE.cut ⟨rfl,rfl,rfl,rfl,rfl,rfl,rfl,rfl,rfl,rfl,rfl,trivial⟩,(((((((((((((hp.get 10 rfl).get 10 rfl).get 10 rfl).get 10 rfl).get 10 rfl).get 8 rfl).get 7 rfl).get 7 rfl).get 9 rfl).get 10 rfl).drop).get 9 rfl).drop)⟩
     refine dZ rfl ?_
     refine qB (wk0 rfl) rfl rfl hE hp rfl [(Iv 0),N0,N0,(Iv 0)] (fun w=>by simp[Instr.alloc,go_sem]<;>rfl) ?_
     intro a w b23 hE hp
     have hp:=r7 hp
     refine aC (aI ⟨gp0 hp,gp 6 hp rfl,trivial⟩ fun hS=>?_)
     refine jH [2,5] (by kernel_rfl) rfl ?_
     refine List.forall_mem_cons.2 ⟨?_,List.forall_mem_cons.2 ⟨?_,fun _ h=>absurd h (by simp)⟩⟩
     ·
      refine dZ rfl ?_
      obtain⟨k14,k14a,k14d,k14h⟩:=(hp.get 1 rfl).lend
      refine s_call (wk0 rfl) rfl rfl hE rfl [w86] ⟨rfl,trivial⟩ ent39 (uS dJ w86 (aA.ro k14d k14a) k14h x10 ex10) Ret.ret ?_
      intro v13 a w hR hE
      obtain⟨u,hu,hp⟩:=Ret.of hR
      rw[←hu] at hp
      have hp:=Hp.back k14a k14d hp
      have hp:=r8 hp
      have hp:=r8 hp
      refine aC (aI ⟨gp0 hp,gp 7 hp rfl,trivial⟩ fun hS=>?_)
      refine W1 5 (by kernel_rfl) rfl ?_
      refine iP (wk0 rfl) rfl rfl hE hp rfl [(0,(Iv x11))] ⟨⟨rfl,rfl⟩,trivial⟩ [(Iv x11)] 3 (fun w=>by simp[Instr.buildSlice,Instr.fill,Value.cells,go_sem]) ?_
      intro a w b24 hE hp
      have hp:=r9 hp
      refine aC (aI ⟨gp0 hp,gp 8 hp rfl,trivial⟩ fun hS=>?_)
      refine W1 6 (by kernel_rfl) rfl ?_
      refine lY (wk0 rfl) rfl rfl hE hp rfl bC rfl rfl 2 rfl rfl (l2:=[x11]) rfl (fun j u hj=>by have:=Hp.cN 0 rfl 0 _ (bV rfl) w hp j u hj;simpa using this) ex12 ?_
      intro v14 a w hE hp
      have hp:=r9 hp
      refine aC (aI ⟨gp0 hp,gp 8 hp rfl,trivial⟩ fun hS=>?_)
      refine W1 7 (by kernel_rfl) rfl ?_
      obtain⟨k15,k15a,k15d,k15h⟩:=(hp.get 2 rfl).lend
      refine Cl hE rfl rfl P9 (kC p0 aH (bW.mono bI (PH.le_un _ _)) x12 v14 (aA.ro k15d k15a) k15h x13 ex13) ⟨rfl,rfl,trivial⟩ fun v a w hR hE=>?_
      obtain⟨br24,aG9,aG5,Y7,aG7,P5,A7,aG8,Y8,aC6,xW,xU,aG6,usr24_proof,rfl,hp⟩:=hR
      have hp:=Hp.back k15a k15d hp
      have hp:Hp Z ρ (_::Pt br24 (.cells #[aG9,aG5,Y7,aG7,P5,aG8,Y8,(Iv x13.head),(Pv aC6 0),aG6,(Iv x13.literals),(.bool x13.broken)] 65 (0,0))::aA 3 aG9 x13.value::aA 3 aG5 x13.level::aA 71 Y7 (List.map (hq (A7).2) (x13.reason:List (Option Nat)))::aA 3 aG7 x13.saved::cO 61 71 (78,3) P5 A7 (x13.watches:WD) none none::aA 3 aG8 x13.trail::aA 3 Y8 x13.starts::Pt aC6 (.cells #[xW,xU] 68 (0,0))::aA 3 xW x13.queue.list::aA 4 xU x13.queue.isin::bT 25 3 aG6 usr24_proof (x13.proof:(List (List Int)))::_::_::_::_::_::_::_::_::L) w:=hp
      refine aC (aI ⟨gp0 hp,gp 20 hp rfl,trivial⟩ fun hS=>?_)
      refine W1 11 (by kernel_rfl) rfl ?_
      refine Cl hE rfl rfl zI (dW br24 x13 aG9 aG5 Y7 aG7 P5 A7 aG8 Y8 aC6 xW xU aG6 usr24_proof x14 ((((((((((((hp.get 12 rfl).get 12 rfl).get 12 rfl).get 12 rfl).get 12 rfl).get 12 rfl).get 12 rfl).get 12 rfl).get 12 rfl).get 12 rfl).get 12 rfl).get 12 rfl) x15 ex15) ⟨rfl,rfl,trivial⟩ fun v a w hR hE=>?_
      obtain⟨vr25_model,vr25_proof,usr25_proof,rfl,hp⟩:=hR
      have hp:=r11 hp
      refine aC (aI ⟨gp0 hp,gp 10 hp rfl,trivial⟩ fun hS=>?_)
      refine W1 13 (by kernel_rfl) rfl ?_
      refine dO (wk0 rfl) rfl hE hp rfl rfl rfl 5 rfl fE.size_ rfl (bY ⟨rfl,(aA.one hp 0 rfl),(bT.one hp 1 rfl),rfl,trivial⟩) [(Iv x15.kind),vr25_model,vr25_proof,(Iv x15.conflicts)] rfl ?_
      intro w hp
      have hp:=r11 hp
      refine aC (aI ⟨gp0 hp,gp 10 hp rfl,trivial⟩ fun hS=>?_)
      exact eG (by kernel_rfl) ⟨_,_,_,_,hE.cut ⟨rfl,rfl,rfl,rfl,rfl,rfl,rfl,rfl,rfl,rfl,rfl,trivial⟩,(((((((((((((hp.get 10 rfl).get 10 rfl).get 10 rfl).get 10 rfl).get 10 rfl).get 9 rfl).get 7 rfl).get 7 rfl).get 10 rfl).get 10 rfl).drop).get 9 rfl).drop)⟩
     refine dZ rfl ?_
     refine iP (wk0 rfl) rfl rfl hE hp rfl [(0,(Iv x11))] ⟨⟨rfl,rfl⟩,trivial⟩ [(Iv x11)] 3 (fun w=>by simp[Instr.buildSlice,Instr.fill,Value.cells,go_sem]) ?_
     intro a w b25 hE hp
     have hp:=r8 hp
     refine aC (aI ⟨gp0 hp,gp 7 hp rfl,trivial⟩ fun hS=>?_)
     refine W1 2 (by kernel_rfl) rfl ?_
     obtain⟨k16,k16a,k16d,k16h⟩:=(hp.get 2 rfl).lend
     refine s_call (wk0 rfl) rfl rfl hE rfl [w86] ⟨rfl,trivial⟩ ent39 (uS dJ w86 (aA.ro k16d k16a) k16h x10 ex10) Ret.ret ?_
     intro v15 a w hR hE
     obtain⟨u,hu,hp⟩:=Ret.of hR
     rw[←hu] at hp
     have hp:=Hp.back k16a k16d hp
     have hp:=r9 hp
     have hp:=r9 hp
     refine aC (aI ⟨gp0 hp,gp 8 hp rfl,trivial⟩ fun hS=>?_)
     refine W1 6 (by kernel_rfl) rfl ?_
     refine lY (wk0 rfl) rfl rfl hE hp rfl bC rfl rfl 1 rfl rfl (l2:=[x11]) rfl (fun j u hj=>by have:=Hp.cN 2 rfl 0 _ (bV rfl) w hp j u hj;simpa using this) ex12 ?_
     intro v16 a w hE hp
     have hp:=r9 hp
     refine aC (aI ⟨gp0 hp,gp 8 hp rfl,trivial⟩ fun hS=>?_)
     refine W1 7 (by kernel_rfl) rfl ?_
     obtain⟨k17,k17a,k17d,k17h⟩:=(hp.get 1 rfl).lend
     refine Cl hE rfl rfl P9 (kC p0 aH (bW.mono bI (PH.le_un _ _)) x12 v16 (aA.ro k17d k17a) k17h x13 ex13) ⟨rfl,rfl,trivial⟩ fun v a w hR hE=>?_
     obtain⟨br26,aH4,aH0,Y9,aH2,P6,A8,aH3,Z4,aC7,xY,xX,aH1,usr26_proof,rfl,hp⟩:=hR
     have hp:=Hp.back k17a k17d hp
     have hp:Hp Z ρ (_::Pt br26 (.cells #[aH4,aH0,Y9,aH2,P6,aH3,Z4,(Iv x13.head),(Pv aC7 0),aH1,(Iv x13.literals),(.bool x13.broken)] 65 (0,0))::aA 3 aH4 x13.value::aA 3 aH0 x13.level::aA 71 Y9 (List.map (hq (A8).2) (x13.reason:List (Option Nat)))::aA 3 aH2 x13.saved::cO 61 71 (78,3) P6 A8 (x13.watches:WD) none none::aA 3 aH3 x13.trail::aA 3 Z4 x13.starts::Pt aC7 (.cells #[xY,xX] 68 (0,0))::aA 3 xY x13.queue.list::aA 4 xX x13.queue.isin::bT 25 3 aH1 usr26_proof (x13.proof:(List (List Int)))::_::_::_::_::_::_::_::_::L) w:=hp
     refine aC (aI ⟨gp0 hp,gp 20 hp rfl,trivial⟩ fun hS=>?_)
     refine W1 11 (by kernel_rfl) rfl ?_
     refine Cl hE rfl rfl zI (dW br26 x13 aH4 aH0 Y9 aH2 P6 A8 aH3 Z4 aC7 xY xX aH1 usr26_proof x14 ((((((((((((hp.get 12 rfl).get 12 rfl).get 12 rfl).get 12 rfl).get 12 rfl).get 12 rfl).get 12 rfl).get 12 rfl).get 12 rfl).get 12 rfl).get 12 rfl).get 12 rfl) x15 ex15) ⟨rfl,rfl,trivial⟩ fun v a w hR hE=>?_
     obtain⟨vr27_model,vr27_proof,usr27_proof,rfl,hp⟩:=hR
     have hp:=r11 hp
     refine aC (aI ⟨gp0 hp,gp 10 hp rfl,trivial⟩ fun hS=>?_)
     refine W1 13 (by kernel_rfl) rfl ?_
     refine dO (wk0 rfl) rfl hE hp rfl rfl rfl 5 rfl fE.size_ rfl (bY ⟨rfl,(aA.one hp 0 rfl),(bT.one hp 1 rfl),rfl,trivial⟩) [(Iv x15.kind),vr27_model,vr27_proof,(Iv x15.conflicts)] rfl ?_
     intro w hp
     have hp:=r11 hp
     refine aC (aI ⟨gp0 hp,gp 10 hp rfl,trivial⟩ fun hS=>?_)
     exact eG (by kernel_rfl) ⟨_,_,_,_,hE.cut ⟨rfl,rfl,rfl,rfl,rfl,rfl,rfl,rfl,rfl,rfl,rfl,trivial⟩,(((((((((((((hp.get 10 rfl).get 10 rfl).get 10 rfl).get 10 rfl).get 10 rfl).get 8 rfl).get 7 rfl).get 7 rfl).get 10 rfl).get 10 rfl).drop).get 9 rfl).drop)⟩
    rintro a w ⟨y164,y162,y163,yus163,hE,hp⟩
    refine aG (aB ?_)
    refine S hE 1 rfl fun a hE=>V hE hp rfl (xf hE fldty29_3 rfl rfl) fun a hE=>V hE hp rfl (xl hE bG 0 rfl rfl rfl rfl) fun a hE=>?_
    obtain⟨x16,ex16,hj1⟩:=bnd hj1
    refine V hE hp rfl (dD rfl hE rfl rfl (aZ ex16)) fun a hE=>S hE 1 rfl fun a hE=>aC (aG ?_)
    refine aB (V hE hp rfl (xf hE sU rfl rfl) fun a hE=>?_)
    refine V hE hp rfl (xl hE bG 0 rfl rfl rfl rfl) fun a hE=>aC (dF ?_)
    refine aG (aB ?_)
    refine S hE 2 rfl fun a hE=>aC ?_
    refine dK hE rfl (fun hc6=>?_) (fun hc6=>?_)
    ·replace hj1:=(it hc6).symm.trans hj1
     refine aG (aB ?_)
     refine S hE 1 rfl fun a hE=>V hE hp rfl (v:=(.agg #[(Iv 2),N0,N0,(Iv x16)])) (qN rfl hE [(0,(Iv 2)),(3,(Iv x16))] (by exact⟨⟨rfl,rfl⟩,⟨rfl,rfl⟩,trivial⟩) (fun w=>by simp[Instr.build,Instr.fill,Value.cells,go_sem])) fun a hE=>?_
     refine dO (wk0 rfl) rfl hE hp rfl rfl rfl 7 rfl fE.size_ rfl (bY ⟨rfl,rfl,rfl,rfl,trivial⟩) [(Iv 2),N0,N0,(Iv x16)] rfl ?_
     intro w hp
     have hp:=r9 hp
     refine S hE 1 rfl fun a hE=>aC (dE ?_)
     obtain rfl:=oj hj1
     refine⟨_,(oj hl1).symm,fun hb=>?_⟩
     subst hb
     have hp:=hp.emp (aA.nil (α:=Int) 3)
     have hp:=r10 hp
     have hp:=hp.emp (bT.none (α:=Int) 25 3 none)
     have hp:=r11 hp
     have hp:=r11 hp
     obtain rfl:=oj hm
     exact retct hE rfl rfl rfl (rZ (cs:=[(Iv 2),N0,N0,(Iv x16)]) fE (Hp.cN 9 rfl 0 _ (bV rfl) _ hp)) ⟨_,rfl,_,_,_,rfl,((((((((((((((((((((hp.get 0 rfl).get 1 rfl).get 10 rfl).drop).get 9 rfl).drop).get 8 rfl).drop).get 7 rfl).drop).get 6 rfl).drop).get 5 rfl).drop).get 4 rfl).drop).get 3 rfl).drop).get 2 rfl).drop)⟩
    replace hj1:=(ie hc6).symm.trans hj1
    refine aG (aB ?_)
    refine S hE 2 rfl fun a hE=>aC ?_
    have hE:=hE.cut (E':=[(2,(Iv p2)),(3,(Pv b1 0)),(6,(Pv b2 0)),(8,(Pv b3 0)),(9,w86),(10,(Iv x16)),(12,(Iv x4)),(13,(Pv y164 0)),(30,vp1),(31,(Iv (p1.length:Int))),(32,(Iv bU)),(76,(.bool (decide (x15.kind=0))))]) ⟨rfl,rfl,rfl,rfl,rfl,rfl,rfl,rfl,rfl,rfl,rfl,rfl,trivial⟩
    refine dK hE rfl (fun hc7=>?_) (fun hc7=>?_)
    ·replace hj1:=(it hc7).symm.trans hj1
     refine aG (aB ?_)
     refine V hE hp rfl (bD rfl hE rfl (fun w hw=>gB (cs:=[(Iv x15.kind),y162,y163,(Iv x15.conflicts)]) fE (Hp.cN 0 rfl 0 _ (bV rfl) w hw))) fun a hE=>?_
     refine dO (wk0 rfl) rfl hE hp rfl rfl rfl 4 rfl fE.size_ rfl (bY ⟨rfl,(aA.one hp 1 rfl),(bT.one hp 2 rfl),rfl,trivial⟩) [(Iv x15.kind),y162,y163,(Iv x15.conflicts)] rfl ?_
     intro w hp
     have hp:=r9 hp
     refine aC (aB ?_)
     refine S hE 2 rfl fun a hE=>?_
     obtain⟨x17,ex17,hj1⟩:=bnd hj1
     refine V hE hp rfl (mX rfl hE rfl (aZ ex17)) fun a hE=>?_
     refine iP (wk0 rfl) rfl rfl hE hp rfl [(0,(Iv x17))] ⟨⟨rfl,rfl⟩,trivial⟩ [(Iv x17)] 3 (fun w=>by simp[Instr.buildSlice,Instr.fill,Value.cells,go_sem]) ?_
     intro a w b26 hE hp
     have hp:=r10 hp
     obtain⟨x18,ex18,hj1⟩:=bnd hj1
     refine lY (wk0 rfl) rfl rfl hE hp rfl bC rfl rfl 4 rfl rfl (l2:=[x17]) rfl (fun j u hj=>by have:=Hp.cN 0 rfl 0 _ (bV rfl) w hp j u hj;simpa using this) ex18 ?_
     intro v17 a w hE hp
     have hp:=r10 hp
     refine S hE 1 rfl fun a hE=>aC ?_
     have hp:=(hp.get 1 rfl).drop
     have hp:=(hp.get 5 rfl).drop
     have hp:=r8 hp
     have hp:=(hp.get 5 rfl).drop
     have hp:=r7 hp
     obtain rfl:=oj hj1
     exact⟨_,rfl,_,_,_,_,hE.cut ⟨rfl,rfl,rfl,rfl,rfl,rfl,rfl,rfl,rfl,trivial⟩,((((((((hp.get 6 rfl).get 6 rfl).get 4 rfl).get 4 rfl).get 6 rfl).get 6 rfl).get 6 rfl).drop)⟩
    replace hj1:=(ie hc7).symm.trans hj1
    refine aB (S hE 2 rfl fun a hE=>?_)
    refine iP (wk0 rfl) rfl rfl hE hp rfl [(0,(Iv x4))] ⟨⟨rfl,rfl⟩,trivial⟩ [(Iv x4)] 3 (fun w=>by simp[Instr.buildSlice,Instr.fill,Value.cells,go_sem]) ?_
    intro a w b27 hE hp
    have hp:=r10 hp
    obtain⟨x19,ex19,hj1⟩:=bnd hj1
    refine lY (wk0 rfl) rfl rfl hE hp rfl bC rfl rfl 4 rfl rfl (l2:=[x4]) rfl (fun j u hj=>by have:=Hp.cN 0 rfl 0 _ (bV rfl) w hp j u hj;simpa using this) ex19 ?_
    intro v18 a w hE hp
    have hp:=r10 hp
    refine S hE 1 rfl fun a hE=>aC ?_
    obtain rfl:=oj hj1
    exact⟨_,rfl,_,_,_,_,hE.cut ⟨rfl,rfl,rfl,rfl,rfl,rfl,rfl,rfl,rfl,trivial⟩,(((((((hp.get 3 rfl).drop).get 2 rfl).drop).get 1 rfl).drop).drop)⟩
   rintro a w ⟨j1s,rfl,w86,w19,w20q,us20q,hE,hp⟩
   dsimp only at hl1
   refine aB ?_
   obtain⟨x20,ex20,hl1⟩:=bnd hl1
   refine V hE hp rfl (dD rfl hE rfl rfl (aZ ex20)) fun a hE=>S hE 1 rfl fun a hE=>aC ?_
   have hE:=hE.cut (E':=[(2,(Iv p2)),(3,(Pv b1 0)),(6,(Pv b2 0)),(8,(Pv b3 0)),(9,w86),(10,(Iv j1s.1)),(30,vp1),(31,(Iv (p1.length:Int))),(32,(Iv x20))]) ⟨rfl,rfl,rfl,rfl,rfl,rfl,rfl,rfl,rfl,trivial⟩
   exact⟨_,(oj hl1).symm,_,_,_,_,hE.cut ⟨rfl,rfl,rfl,rfl,rfl,rfl,rfl,rfl,rfl,trivial⟩,hp⟩
  replace hl1:=(ie hc4).symm.trans hl1
  refine dR ?_
  refine⟨_,(oj hl1).symm,fun hbb=>?_⟩
  exact⟨_,hbb.symm,_,_,_,_,hE.cut ⟨rfl,rfl,rfl,trivial⟩,hp⟩
 rintro a w ⟨b4s,rfl,w86,w19,w20,us20,hE,hp⟩
 dsimp only at hm
 refine aG (aB ?_)
 refine S hE 1 rfl fun a hE=>V hE hp rfl (xf hE fldty29_3 rfl rfl) fun a hE=>?_
 refine dO (wk0 rfl) rfl hE hp rfl rfl rfl 1 rfl bG.size_ rfl (bY ⟨rfl,trivial⟩) [(Iv b4s.2.2.1),w19,w20,(Iv b4s.1)] rfl ?_
 intro w hp
 have hp:=r6 hp
 refine aC (aG ?_)
 refine aB (V hE hp rfl (bD rfl hE rfl (fun w hw=>gB (cs:=[(Iv b4s.2.2.1),w19,w20,(Iv b4s.1)]) fE (Hp.cN 1 rfl 0 _ (bV rfl) w hw))) fun a hE=>?_)
 refine dO (wk0 rfl) rfl hE hp rfl rfl rfl 4 rfl fE.size_ rfl (bY ⟨rfl,(aA.one hp 2 rfl),(bT.one hp 3 rfl),rfl,trivial⟩) [(Iv b4s.2.2.1),w19,w20,(Iv b4s.1)] rfl ?_
 intro w hp
 have hp:=r6 hp
 refine S hE 1 rfl fun a hE=>aC (dE ?_)
 obtain rfl:=oj hm
 exact retct hE rfl rfl rfl (rZ (cs:=[(Iv b4s.2.2.1),w19,w20,(Iv b4s.1)]) fE (Hp.cN 4 rfl 0 _ (bV rfl) _ hp)) ⟨_,rfl,_,_,_,rfl,(((((((hp.get 5 rfl).drop).get 4 rfl).drop).get 1 rfl).drop).drop)⟩
end Go.Proofs.Ytpkhmndpeipfmaa

/- The code goes as its model: assessor/solver.Solve, assessor/solver.Least. (Printed by wip/sp/gen.py.) -/
import Derived.Test.YtpkhmndpeipfmaaKLeT
import Derived.Test.YtpkhmndpeipfmaaKLe5
import Derived.Test.YtpkhmndpeipfmaaKLe6
import Derived.Test.YtpkhmndpeipfmaaKLe13
import Derived.Test.YtpkhmndpeipfmaaKLe14
set_option linter.unusedVariables false
set_option linter.unusedSimpArgs false
set_option maxRecDepth 100000
set_option maxHeartbeats 4000000
namespace Go.Proofs.Ytpkhmndpeipfmaa
open Go.RowKit
theorem Y8 {Z:World} {ρ:PH} {L:List bZ} {w:World} (p0:Formula) (aF:Value) (bH:bJ ρ aF p0.clauses) (p1:(List Int)) (vp1:Value) (hp1:bJ ρ vp1 p1) (p2:Int) (hp:Hp Z ρ (L) w) (r:(Answer×Int)) (hm:lW p0 p1 p2=some r):
  Calls Try.prog 12 #[(.agg #[(Iv p0.vars),aF]),vp1,(Iv p2)] w (Ret fun v w'=>∃(rX:Value) (oN:Value) (uG:List Sl),v= .tuple #[(.agg #[(Iv r.1.kind),rX,oN,(Iv r.1.conflicts)]),(Iv r.2)]∧Hp Z ρ (aA 3 rX r.1.model::bV 25 3 oN uG (r.1.proof:(List (List Int)))::L) w'):=by
 refine enter (N:=19) Try.func12 rfl rfl [(0,(.agg #[(Iv p0.vars),aF])),(1,vp1),(2,(Iv p2))] rfl (bT ⟨rfl,rfl,rfl,trivial⟩) fun a hE=>?_
 unfold lW at hm
 refine aG (aB ?_)
 refine qH (wk0 rfl) rfl rfl hE hp rfl (v:=(.agg #[(Iv p0.vars),aF])) rfl ?_
 intro a w b1 hE hp
 have hp:=r1 hp
 refine sQ (wk0 rfl) rfl rfl hE hp rfl [(Iv 0),N0,N0,(Iv 0)] (fun w=>by simp[Instr.alloc,go_sem]<;>rfl) ?_
 intro a w b2 hE hp
 have hp:=r2 hp
 refine S hE 1 rfl fun a hE=>aC (aG ?_)
 refine aG (aB ?_)
 refine V hE hp rfl (aX rfl hE rfl (fun w hw=>eY (cs:=[(Iv p0.vars),aF]) fP (Hp.cN 1 rfl 0 _ (bW rfl) w hw))) fun a hE=>S hE 2 rfl fun a hE=>?_
 obtain⟨x1,ex1,hm⟩:=bnd hm
 refine Cl hE rfl rfl ent28 (aE6 p0 aF bH p1 vp1 hp1 p2 hp x1 ex1) ⟨rfl,rfl,rfl,trivial⟩ fun v a w hR hE=>?_
 obtain⟨rfl,hp⟩:=hR
 have hp:=r2 hp
 refine S hE 1 rfl fun a hE=>aC ?_
 refine dK hE rfl (fun hc1=>?_) (fun hc1=>?_)
 ·replace hm:=(it hc1).symm.trans hm
  refine aG (aB ?_)
  refine V hE hp rfl (v:=(.agg #[(Iv 0),N0,N0,(Iv 0)])) (qY rfl hE [] (by exact trivial) (fun w=>by simp[Instr.build,Instr.fill,Value.cells,go_sem])) fun a hE=>?_
  refine dW (wk0 rfl) rfl hE hp rfl rfl rfl 0 rfl eH.size_ rfl (cO ⟨rfl,rfl,rfl,rfl,trivial⟩) [(Iv 0),N0,N0,(Iv 0)] rfl ?_
  intro w hp
  have hp:=r2 hp
  refine S hE 1 rfl fun a hE=>aC (dC ?_)
  have hp:=hp.emp (aA.nil (α:=Int) 3)
  have hp:=r3 hp
  have hp:=hp.emp (bV.none (α:=Int) 25 3 none)
  have hp:=r4 hp
  have hp:=r4 hp
  obtain rfl:=oj hm
  exact retct hE rfl rfl rfl (uT (cs:=[(Iv 0),N0,N0,(Iv 0)]) eH (Hp.cN 2 rfl 0 _ (bW rfl) _ hp)) ⟨_,rfl,_,_,_,rfl,((((((hp.get 0 rfl).get 1 rfl).get 3 rfl).drop).get 2 rfl).drop)⟩
 replace hm:=(ie hc1).symm.trans hm
 refine bQ (aG ?_)
 refine aB (V hE hp rfl (aX rfl hE rfl (fun w hw=>eY (cs:=[(Iv p0.vars),aF]) fP (Hp.cN 1 rfl 0 _ (bW rfl) w hw))) fun a hE=>?_)
 refine S hE 1 rfl fun a hE=>?_
 obtain⟨x2,ex2,hm⟩:=bnd hm
 refine Cl hE rfl rfl W9 (kM p0 aF bH p1 vp1 hp1 hp x2 ex2) ⟨rfl,rfl,trivial⟩ fun v a w hR hE=>?_
 obtain⟨br2,vr2_value,vr2_level,aK3,vr2_saved,aC4,Q8,vr2_trail,aK4,br2_queue,A7,zZ,vr2_proof,aG4,rfl,hp⟩:=hR
 have hp:=r14 hp
 refine S hE 1 rfl fun a hE=>?_
 obtain⟨x3,ex3,hm⟩:=bnd hm
 refine Cl hE rfl rfl D8 (dZ br2 x2 vr2_value vr2_level aK3 vr2_saved aC4 Q8 vr2_trail aK4 br2_queue A7 zZ vr2_proof aG4 p2 ((((((((((((hp.get 11 rfl).get 11 rfl).get 11 rfl).get 11 rfl).get 11 rfl).get 11 rfl).get 11 rfl).get 11 rfl).get 11 rfl).get 11 rfl).get 11 rfl).get 11 rfl) x3 ex3) ⟨rfl,rfl,trivial⟩ fun v a w hR hE=>?_
 obtain⟨dM,dP,nJ,rfl,hp⟩:=hR
 have hp:=r4 hp
 refine dW (wk0 rfl) rfl hE hp rfl rfl rfl 2 rfl eH.size_ rfl (cO ⟨rfl,(aA.one hp 0 rfl),(bV.one hp 1 rfl),rfl,trivial⟩) [(Iv x3.kind),dM,dP,(Iv x3.conflicts)] rfl ?_
 intro w hp
 have hp:=r4 hp
 refine S hE 1 rfl fun a hE=>aC (dC ?_)
 obtain rfl:=oj hm
 exact retct hE rfl rfl rfl (uT (cs:=[(Iv x3.kind),dM,dP,(Iv x3.conflicts)]) eH (Hp.cN 2 rfl 0 _ (bW rfl) _ hp)) ⟨_,rfl,_,_,_,rfl,((((hp.get 3 rfl).drop).get 2 rfl).drop)⟩
theorem zU {Z:World} {ρ:PH} {L:List bZ} {w:World} (p0:Formula) (aF:Value) (bH:bJ ρ aF p0.clauses) (p1:(List Int)) (vp1:Value) (hp1:bJ ρ vp1 p1) (p2:Int) (hp:Hp Z ρ (L) w) (r:(Answer×Int)) (hm:fZ p0 p1 p2=some r):
  Calls Try.prog 17 #[(.agg #[(Iv p0.vars),aF]),vp1,(Iv p2)] w (Ret fun v w'=>∃(rX:Value) (oN:Value) (uG:List Sl),v= .tuple #[(.agg #[(Iv r.1.kind),rX,oN,(Iv r.1.conflicts)]),(Iv r.2)]∧Hp Z ρ (aA 3 rX r.1.model::bV 25 3 oN uG (r.1.proof:(List (List Int)))::L) w'):=by
 refine enter (N:=88) Try.func17 rfl rfl [(0,(.agg #[(Iv p0.vars),aF])),(1,vp1),(2,(Iv p2))] rfl (bT ⟨rfl,rfl,rfl,trivial⟩) fun a hE=>?_
 unfold fZ at hm
 refine aG (aB ?_)
 refine qH (wk0 rfl) rfl rfl hE hp rfl (v:=(.agg #[(Iv p0.vars),aF])) rfl ?_
 intro a w b1 hE hp
 have hp:=r1 hp
 refine sQ (wk0 rfl) rfl rfl hE hp rfl [(Iv 0),N0,N0,(Iv 0)] (fun w=>by simp[Instr.alloc,go_sem]<;>rfl) ?_
 intro a w b2 hE hp
 have hp:=r2 hp
 refine S hE 1 rfl fun a hE=>aC (aG ?_)
 refine aG (aB ?_)
 refine V hE hp rfl (aX rfl hE rfl (fun w hw=>eY (cs:=[(Iv p0.vars),aF]) fP (Hp.cN 1 rfl 0 _ (bW rfl) w hw))) fun a hE=>S hE 2 rfl fun a hE=>?_
 obtain⟨x1,ex1,hm⟩:=bnd hm
 refine Cl hE rfl rfl ent28 (aE6 p0 aF bH p1 vp1 hp1 p2 hp x1 ex1) ⟨rfl,rfl,rfl,trivial⟩ fun v a w hR hE=>?_
 obtain⟨rfl,hp⟩:=hR
 have hp:=r2 hp
 refine S hE 1 rfl fun a hE=>aC ?_
 refine dK hE rfl (fun hc1=>?_) (fun hc1=>?_)
 ·replace hm:=(it hc1).symm.trans hm
  refine aG (aB ?_)
  refine V hE hp rfl (v:=(.agg #[(Iv 0),N0,N0,(Iv 0)])) (qY rfl hE [] (by exact trivial) (fun w=>by simp[Instr.build,Instr.fill,Value.cells,go_sem])) fun a hE=>?_
  refine dW (wk0 rfl) rfl hE hp rfl rfl rfl 0 rfl eH.size_ rfl (cO ⟨rfl,rfl,rfl,rfl,trivial⟩) [(Iv 0),N0,N0,(Iv 0)] rfl ?_
  intro w hp
  have hp:=r2 hp
  refine S hE 1 rfl fun a hE=>aC (dC ?_)
  have hp:=hp.emp (aA.nil (α:=Int) 3)
  have hp:=r3 hp
  have hp:=hp.emp (bV.none (α:=Int) 25 3 none)
  have hp:=r4 hp
  have hp:=r4 hp
  obtain rfl:=oj hm
  exact retct hE rfl rfl rfl (uT (cs:=[(Iv 0),N0,N0,(Iv 0)]) eH (Hp.cN 2 rfl 0 _ (bW rfl) _ hp)) ⟨_,rfl,_,_,_,rfl,((((((hp.get 0 rfl).get 1 rfl).get 3 rfl).drop).get 2 rfl).drop)⟩
 replace hm:=(ie hc1).symm.trans hm
 refine bQ (aG ?_)
 refine aB (V hE hp rfl (aX rfl hE rfl (fun w hw=>eY (cs:=[(Iv p0.vars),aF]) fP (Hp.cN 1 rfl 0 _ (bW rfl) w hw))) fun a hE=>?_)
 obtain⟨x2,ex2,hm⟩:=bnd hm
 refine Cl hE rfl rfl W9 (kM p0 aF bH [] N0 (bJ.nil _) hp x2 ex2) ⟨rfl,rfl,trivial⟩ fun v a w hR hE=>?_
 obtain⟨br2,vr2_value,vr2_level,aK3,vr2_saved,aC4,Q8,vr2_trail,aK4,br2_queue,A7,zZ,vr2_proof,aG4,rfl,hp⟩:=hR
 have hp:=r14 hp
 refine S hE 1 rfl fun a hE=>?_
 obtain⟨x3,ex3,hm⟩:=bnd hm
 refine Cl hE rfl rfl D8 (dZ br2 x2 vr2_value vr2_level aK3 vr2_saved aC4 Q8 vr2_trail aK4 br2_queue A7 zZ vr2_proof aG4 p2 ((((((((((((hp.get 11 rfl).get 11 rfl).get 11 rfl).get 11 rfl).get 11 rfl).get 11 rfl).get 11 rfl).get 11 rfl).get 11 rfl).get 11 rfl).get 11 rfl).get 11 rfl) x3 ex3) ⟨rfl,rfl,trivial⟩ fun v a w hR hE=>?_
 obtain⟨dM,dP,nJ,rfl,hp⟩:=hR
 have hp:=r4 hp
 refine sQ (wk0 rfl) rfl rfl hE hp rfl [(Iv 0),N0,N0,(Iv 0)] (fun w=>by simp[Instr.alloc,go_sem]<;>rfl) ?_
 intro a w b3 hE hp
 have hp:=r5 hp
 refine dW (wk0 rfl) rfl hE hp rfl rfl rfl 0 rfl eH.size_ rfl (cO ⟨rfl,(aA.one hp 1 rfl),(bV.one hp 2 rfl),rfl,trivial⟩) [(Iv x3.kind),dM,dP,(Iv x3.conflicts)] rfl ?_
 intro w hp
 have hp:=r5 hp
 refine aC (aG ?_)
 refine aG (aB ?_)
 refine V hE hp rfl (xf hE qO rfl rfl) fun a hE=>V hE hp rfl (xl hE bG 0 rfl rfl rfl rfl) fun a hE=>S hE 1 rfl fun a hE=>aC ?_
 refine dK hE rfl (fun hc2=>?_) (fun hc2=>?_)
 ·replace hm:=(it hc2).symm.trans hm
  refine aG (aB ?_)
  refine V hE hp rfl (aX rfl hE rfl (fun w hw=>eY (cs:=[(Iv x3.kind),dM,dP,(Iv x3.conflicts)]) eH (Hp.cN 0 rfl 0 _ (bW rfl) w hw))) fun a hE=>?_
  refine dW (wk0 rfl) rfl hE hp rfl rfl rfl 3 rfl eH.size_ rfl (cO ⟨rfl,(aA.one hp 1 rfl),(bV.one hp 2 rfl),rfl,trivial⟩) [(Iv x3.kind),dM,dP,(Iv x3.conflicts)] rfl ?_
  intro w hp
  have hp:=r5 hp
  refine S hE 1 rfl fun a hE=>aC (dC ?_)
  obtain rfl:=oj hm
  exact retct hE rfl rfl rfl (uT (cs:=[(Iv x3.kind),dM,dP,(Iv x3.conflicts)]) eH (Hp.cN 3 rfl 0 _ (bW rfl) _ hp)) ⟨_,rfl,_,_,_,rfl,(((((hp.get 4 rfl).drop).get 3 rfl).drop).drop)⟩
 replace hm:=(ie hc2).symm.trans hm
 refine bQ (aG ?_)
 refine aB (S hE 1 rfl fun a hE=>?_)
 refine aC (aG ?_)
 refine aB (V hE hp rfl (xf hE vY rfl rfl) fun a hE=>?_)
 refine V hE hp rfl (xl hE bG 0 rfl rfl rfl rfl) fun a hE=>S hE 1 rfl fun a hE=>aC (aG ?_)
 refine aG (aB ?_)
 refine S hE 1 rfl fun a hE=>V hE hp rfl (dD rfl hE rfl (bJ.len hp1 aY)) fun a hE=>S hE 1 rfl fun a hE=>aC ?_
 have hE:=hE.cut (E':=[(2,(Iv p2)),(3,(Pv b1 0)),(6,(Pv b2 0)),(8,(Pv b3 0)),(9,N0),(10,(Iv x3.conflicts)),(30,vp1),(31,(Iv (p1.length:Int))),(32,(Iv 0))]) ⟨rfl,rfl,rfl,rfl,rfl,rfl,rfl,rfl,rfl,trivial⟩
 have hp:=hp.emp (aA.nil (α:=Int) 3)
 have hp:=r6 hp
 obtain⟨b4,hc3,hm⟩:=bnd hm
 refine dI (fun a w=>∃s:(Int×(List Int)×Int×Int×(List Int)×(List (List Int))),b4= .brk s∧(∃(w86:Value) (w19:Value) (w20:Value) (us20:List Sl),Env 88 [(6,(Pv b2 0)),(8,(Pv b3 0)),(10,(Iv s.1))] a∧Hp Z ρ (aA 3 w86 s.2.1::Pt b3 (.cells #[(Iv s.2.2.1),w19,w20,(Iv s.2.2.2.1)] 29 (0,0))::aA 3 w19 s.2.2.2.2.1::bV 25 3 w20 us20 (s.2.2.2.2.2:(List (List Int)))::Pt b2 (.cells #[(Iv 0),N0,N0,(Iv 0)] 29 (0,0))::Pt b1 (.cells #[(Iv p0.vars),aF] 24 (0,0))::L) w)) ?_ ?_
 ·refine eX hc3 (fun s a w=>∃(w86:Value) (w19:Value) (w20:Value) (us20:List Sl),Env 88 [(2,(Iv p2)),(3,(Pv b1 0)),(6,(Pv b2 0)),(8,(Pv b3 0)),(9,w86),(10,(Iv s.1)),(30,vp1),(31,(Iv (p1.length:Int))),(32,(Iv s.2.1))] a∧Hp Z ρ (aA 3 w86 s.2.2.1::Pt b3 (.cells #[(Iv s.2.2.2.1),w19,w20,(Iv s.2.2.2.2.1)] 29 (0,0))::aA 3 w19 s.2.2.2.2.2.1::bV 25 3 w20 us20 (s.2.2.2.2.2.2:(List (List Int)))::Pt b2 (.cells #[(Iv 0),N0,N0,(Iv 0)] 29 (0,0))::Pt b1 (.cells #[(Iv p0.vars),aF] 24 (0,0))::L) w) ?_ ?_
  ·exact⟨_,_,_,_,hE.cut ⟨rfl,rfl,rfl,rfl,rfl,rfl,rfl,rfl,rfl,trivial⟩,hp⟩
  rintro⟨aW,bU,dJ,jI,kN,lQ,wX⟩ st a w ⟨w86,w19,w20,us20,hE,hp⟩ hl1
  dsimp only at hE hp hl1
  unfold oK at hl1
  refine aG (aB ?_)
  refine S hE 1 rfl fun a hE=>aC (aG ?_)
  refine dK hE rfl (fun hc4=>?_) (fun hc4=>?_)
  ·replace hl1:=(it hc4).symm.trans hl1
   refine bQ (aG ?_)
   obtain⟨j1,hj1,hl1⟩:=bnd hl1
   refine dI (fun a w=>∃s:(Int×(List Int)×Int×Int×(List Int)×(List (List Int))),j1= .brk s∧(∃(w86:Value) (w19:Value) (w20q:Value) (us20q:List Sl),Env 88 [(2,(Iv p2)),(3,(Pv b1 0)),(6,(Pv b2 0)),(8,(Pv b3 0)),(9,w86),(10,(Iv s.1)),(30,vp1),(31,(Iv (p1.length:Int))),(32,(Iv bU))] a∧Hp Z ρ (aA 3 w86 s.2.1::Pt b3 (.cells #[(Iv s.2.2.1),w19,w20q,(Iv s.2.2.2.1)] 29 (0,0))::aA 3 w19 s.2.2.2.2.1::bV 25 3 w20q us20q (s.2.2.2.2.2:(List (List Int)))::Pt b2 (.cells #[(Iv 0),N0,N0,(Iv 0)] 29 (0,0))::Pt b1 (.cells #[(Iv p0.vars),aF] 24 (0,0))::L) w)) ?_ ?_
   ·
    refine aG (aB ?_)
    obtain⟨x4,ex4,hj1⟩:=bnd hj1
    obtain⟨b5,b5o,b5c,b5r,b5k,b5f⟩:=bJ.at hp1 aY ex4
    obtain rfl:b5c=Enc.enc x4:=b5k
    have b5f:AtP ρ b5 b5o [(Iv x4)]:=b5f
    refine V hE hp rfl (aS rfl hE rfl rfl b5r) fun a hE=>V hE hp rfl (aX rfl hE rfl (fun w hw=>bF bG (b5f.c 0 rfl w hw))) fun a hE=>S hE 1 rfl fun a hE=>aC ?_
    have hE:=hE.cut (E':=[(2,(Iv p2)),(3,(Pv b1 0)),(6,(Pv b2 0)),(8,(Pv b3 0)),(9,w86),(10,(Iv aW)),(12,(Iv x4)),(30,vp1),(31,(Iv (p1.length:Int))),(32,(Iv bU))]) ⟨rfl,rfl,rfl,rfl,rfl,rfl,rfl,rfl,rfl,rfl,trivial⟩
    refine aG (aG ?_)
    refine lG (by kernel_rfl) (by kernel_rfl) hp ?_
    refine Vq hE rfl (xf hE oH rfl rfl) fun a hE=>Vq hE rfl (xl hE bK 1 rfl rfl rfl rfl) fun a hE=>Sq hE 1 rfl fun a hE=>?_
    obtain⟨x5,ex5,hj1⟩:=bnd hj1
    refine vF (wk0 rfl) rfl rfl hE rfl [(Iv x4)] ⟨rfl,trivial⟩ J6 (v:=(Iv x5)) (fun w hw=>Calls.mono (fK x4 hw x5 ex5) fun e w' ⟨v,he,hv,hh⟩=>⟨by rw[he,hv],hh⟩) ?_
    intro a hE
    obtain⟨x6,ex6,hj1⟩:=bnd hj1
    refine Vq hE rfl (tX rfl hE rfl rfl (bD ex6)) fun a hE=>?_
    obtain⟨x7,ex7,hj1⟩:=bnd hj1
    obtain⟨b6,b6o,b6r,b6v,b6f⟩:=aA.at hp 2 rfl aY ex7
    refine Vq hE rfl (aS rfl hE rfl rfl b6r) fun a hE=>Vq hE rfl (aX rfl hE rfl (fun w hw=>bF bG (b6f 0 _ rfl _ _ w (hw.get 2 rfl)))) fun a hE=>Sq hE 2 rfl fun a hE=>?_
    refine oO fun w hp=>?_
    have hp:=r6 hp
    refine dK hE rfl (fun hc5=>?_) (fun hc5=>?_)
    ·replace hj1:=(it hc5).symm.trans hj1
     refine aG (aB ?_)
     refine S hE 2 rfl fun a hE=>?_
     obtain⟨x8,ex8,hj1⟩:=bnd hj1
     refine V hE hp rfl (pV rfl hE rfl (bD ex8)) fun a hE=>?_
     refine jJ (wk0 rfl) rfl rfl hE hp rfl [(0,(Iv x8))] ⟨⟨rfl,rfl⟩,trivial⟩ [(Iv x8)] 3 (fun w=>by simp[Instr.buildSlice,Instr.fill,Value.cells,go_sem]) ?_
     intro a w b7 hE hp
     have hp:=r7 hp
     obtain⟨x9,ex9,hj1⟩:=bnd hj1
     refine nH (wk0 rfl) rfl rfl hE hp rfl aY rfl rfl 1 rfl rfl (l2:=[x8]) rfl (fun j u hj=>by have:=Hp.cN 0 rfl 0 _ (bW rfl) w hp j u hj;simpa using this) ex9 ?_
     intro v1 a w hE hp
     have hp:=r7 hp
     refine S hE 1 rfl fun a hE=>aC ?_
     have hE:=hE.cut (E':=[(2,(Iv p2)),(3,(Pv b1 0)),(6,(Pv b2 0)),(8,(Pv b3 0)),(9,v1),(10,(Iv aW)),(30,vp1),(31,(Iv (p1.length:Int))),(32,(Iv bU))]) ⟨rfl,rfl,rfl,rfl,rfl,rfl,rfl,rfl,rfl,trivial⟩
     refine dR ?_
     obtain rfl:=oj hj1
     exact⟨_,rfl,_,_,_,_,hE.cut ⟨rfl,rfl,rfl,rfl,rfl,rfl,rfl,rfl,rfl,trivial⟩,(hp.drop)⟩
    replace hj1:=(ie hc5).symm.trans hj1
    refine bQ (aG ?_)
    obtain⟨x10,ex10,hj1⟩:=bnd hj1
    obtain⟨x11,ex11,hj1⟩:=bnd hj1
    obtain⟨x12,ex12,hj1⟩:=bnd hj1
    obtain⟨x13,ex13,hj1⟩:=bnd hj1
    obtain⟨x14,ex14,hj1⟩:=bnd hj1
    obtain⟨x15,ex15,hj1⟩:=bnd hj1
    have hp:=hp.drew
    refine jT ([([],At0 Z ρ),([],At1 Z ρ (Pt b1 (.cells #[(Iv p0.vars),aF] 24 (0,0))))]:Facts) (fun a w=>∃y164:Nat,∃y162:Value,∃y163:Value,∃yus163:List Sl,Env 88 [(2,(Iv p2)),(3,(Pv b1 0)),(6,(Pv b2 0)),(8,(Pv b3 0)),(9,w86),(10,(Iv aW)),(12,(Iv x4)),(13,(Pv y164 0)),(30,vp1),(31,(Iv (p1.length:Int))),(32,(Iv bU))] a∧Hp Z ρ (Pt y164 (.cells #[(Iv x15.kind),y162,y163,(Iv x15.conflicts)] 29 (0,0))::aA 3 y162 x15.model::bV 25 3 y163 yus163 (x15.proof:(List (List Int)))::aA 3 w86 dJ::Pt b3 (.cells #[(Iv jI),w19,w20,(Iv kN)] 29 (0,0))::aA 3 w19 lQ::bV 25 3 w20 us20 (wX:(List (List Int)))::Pt b2 (.cells #[(Iv 0),N0,N0,(Iv 0)] 29 (0,0))::Pt b1 (.cells #[(Iv p0.vars),aF] 24 (0,0))::L) w) (by kernel_rfl) ⟨fun _=>⟨_,hp⟩,fun _=>⟨_,(hp.get 5 rfl)⟩,trivial⟩ (fun hS=>?_) ?_
    ·
     generalize w.drew=w at hS hp⊢
     refine T 0 1 hE hS rfl rfl rfl (by kernel_rfl) (fun _=>aX rfl hE rfl (fun w hw=>eY (cs:=[(Iv p0.vars),aF]) fP (Hp.cN 0 rfl 0 _ (bW rfl) w hw))) fun a hE hS=>Ts [1,3] hE hS rfl rfl (by kernel_rfl) fun a hE hS=>T0 4 hE hS rfl rfl rfl (by kernel_rfl) (fun _=>pV rfl hE rfl (bD ex11)) fun a hE hS=>Ts [8,9] hE hS rfl rfl (by kernel_rfl) fun a hE hS=>T0 10 hE hS rfl rfl rfl (by kernel_rfl) (fun _=>tX rfl hE rfl rfl (bD ex14)) fun a hE hS=>?_
     refine jQ [2,5,12] (by kernel_rfl) rfl ?_
     refine List.forall_mem_cons.2 ⟨?_,List.forall_mem_cons.2 ⟨?_,List.forall_mem_cons.2 ⟨?_,fun _ h=>absurd h (by simp)⟩⟩⟩
     ·
      refine eP rfl ?_
      obtain⟨k3,k3a,k3d,k3h⟩:=(hp.get 0 rfl).lend
      refine s_call (wk0 rfl) rfl rfl hE rfl [w86] ⟨rfl,trivial⟩ ent39 (vW dJ w86 (aA.ro k3d k3a) k3h x10 ex10) Ret.ret ?_
      intro v4 a w hR hE
      obtain⟨u,hu,hp⟩:=Ret.of hR
      rw[←hu] at hp
      have hp:=Hp.back k3a k3d hp
      have hp:=r7 hp
      have hp:=r7 hp
      refine aC (aI ⟨gp0 hp,gp 6 hp rfl,trivial⟩ fun hS=>?_)
      refine jQ [5,12] (by kernel_rfl) rfl ?_
      refine List.forall_mem_cons.2 ⟨?_,List.forall_mem_cons.2 ⟨?_,fun _ h=>absurd h (by simp)⟩⟩
      ·
       refine eP rfl ?_
       refine jJ (wk0 rfl) rfl rfl hE hp rfl [(0,(Iv x11))] ⟨⟨rfl,rfl⟩,trivial⟩ [(Iv x11)] 3 (fun w=>by simp[Instr.buildSlice,Instr.fill,Value.cells,go_sem]) ?_
       intro a w b10 hE hp
       have hp:=r8 hp
       refine aC (aI ⟨gp0 hp,gp 7 hp rfl,trivial⟩ fun hS=>?_)
       refine jQ [6,12] (by kernel_rfl) rfl ?_
       refine List.forall_mem_cons.2 ⟨?_,List.forall_mem_cons.2 ⟨?_,fun _ h=>absurd h (by simp)⟩⟩
       ·
        refine eP rfl ?_
        refine nH (wk0 rfl) rfl rfl hE hp rfl aY rfl rfl 2 rfl rfl (l2:=[x11]) rfl (fun j u hj=>by have:=Hp.cN 0 rfl 0 _ (bW rfl) w hp j u hj;simpa using this) ex12 ?_
        intro v5 a w hE hp
        have hp:=r8 hp
        refine aC (aI ⟨gp0 hp,gp 7 hp rfl,trivial⟩ fun hS=>?_)
        refine jQ [7,12] (by kernel_rfl) rfl ?_
        refine List.forall_mem_cons.2 ⟨?_,List.forall_mem_cons.2 ⟨?_,fun _ h=>absurd h (by simp)⟩⟩
        ·
         refine eP rfl ?_
         obtain⟨k4,k4a,k4d,k4h⟩:=(hp.get 2 rfl).lend
         refine Cl hE rfl rfl W9 (kM p0 aF (bJ.mono bH (PH.le_un _ _)) x12 v5 (aA.ro k4d k4a) k4h x13 ex13) ⟨rfl,rfl,trivial⟩ fun v a w hR hE=>?_
         obtain⟨br6,aE3,aD9,V8,aE1,F8,zH,aE2,V9,aC7,wQ,wP,aE0,aG5,rfl,hp⟩:=hR
         have hp:=Hp.back k4a k4d hp
         have hp:Hp Z ρ (_::Pt br6 (.cells #[aE3,aD9,V8,aE1,F8,aE2,V9,(Iv x13.head),(Pv aC7 0),aE0,(Iv x13.literals),(.bool x13.broken)] 65 (0,0))::aA 3 aE3 x13.value::aA 3 aD9 x13.level::aA 71 V8 (List.map (hq (zH).2) (x13.reason:List (Option Nat)))::aA 3 aE1 x13.saved::cZ 61 71 (78,3) F8 zH (x13.watches:WD) none none::aA 3 aE2 x13.trail::aA 3 V9 x13.starts::Pt aC7 (.cells #[wQ,wP] 68 (0,0))::aA 3 wQ x13.queue.list::aA 4 wP x13.queue.isin::bV 25 3 aE0 aG5 (x13.proof:(List (List Int)))::_::_::_::_::_::_::_::L) w:=hp
         refine aC (aI ⟨gp0 hp,gp 19 hp rfl,trivial⟩ fun hS=>?_)
         refine jQ [11,12] (by kernel_rfl) rfl ?_
         refine List.forall_mem_cons.2 ⟨?_,List.forall_mem_cons.2 ⟨?_,fun _ h=>absurd h (by simp)⟩⟩
         ·
          refine eP rfl ?_
          refine Cl hE rfl rfl D8 (dZ br6 x13 aE3 aD9 V8 aE1 F8 zH aE2 V9 aC7 wQ wP aE0 aG5 x14 ((((((((((((hp.get 12 rfl).get 12 rfl).get 12 rfl).get 12 rfl).get 12 rfl).get 12 rfl).get 12 rfl).get 12 rfl).get 12 rfl).get 12 rfl).get 12 rfl).get 12 rfl) x15 ex15) ⟨rfl,rfl,trivial⟩ fun v a w hR hE=>?_
          obtain⟨vr7_model,vr7_proof,usr7_proof,rfl,hp⟩:=hR
          have hp:=r10 hp
          refine aC (aI ⟨gp0 hp,gp 9 hp rfl,trivial⟩ fun hS=>?_)
          refine W1 12 (by kernel_rfl) rfl ?_
          refine sQ (wk0 rfl) rfl rfl hE hp rfl [(Iv 0),N0,N0,(Iv 0)] (fun w=>by simp[Instr.alloc,go_sem]<;>rfl) ?_
          intro a w b11 hE hp
          have hp:=r11 hp
          refine aC (aI ⟨gp0 hp,gp 10 hp rfl,trivial⟩ fun hS=>?_)
          refine W1 13 (by kernel_rfl) rfl ?_
          refine dW (wk0 rfl) rfl hE hp rfl rfl rfl 0 rfl eH.size_ rfl (cO ⟨rfl,(aA.one hp 1 rfl),(bV.one hp 2 rfl),rfl,trivial⟩) [(Iv x15.kind),vr7_model,vr7_proof,(Iv x15.conflicts)] rfl ?_
          intro w hp
          have hp:=r11 hp
          refine aC (aI ⟨gp0 hp,gp 10 hp rfl,trivial⟩ fun hS=>?_)
          exact dX (by kernel_rfl) ⟨_,_,_,_,hE.cut ⟨rfl,rfl,rfl,rfl,rfl,rfl,rfl,rfl,rfl,rfl,rfl,trivial⟩,((((hp.get 4 rfl).drop).get 3 rfl).drop)⟩
         refine eP rfl ?_
         refine sQ (wk0 rfl) rfl rfl hE hp rfl [(Iv 0),N0,N0,(Iv 0)] (fun w=>by simp[Instr.alloc,go_sem]<;>rfl) ?_
         intro a w b12 hE hp
         have hp:Hp Z ρ (Pt b12 (.cells #[(Iv 0),N0,N0,(Iv 0)] 29 (0,0))::_::_::_::_::_::_::_::_::_::_::_::_::_::_::_::_::_::_::_::_::L) w:=hp
         refine aC (aI ⟨gp0 hp,gp 20 hp rfl,trivial⟩ fun hS=>?_)
         refine W1 11 (by kernel_rfl) rfl ?_
         refine Cl hE rfl rfl D8 (dZ br6 x13 aE3 aD9 V8 aE1 F8 zH aE2 V9 aC7 wQ wP aE0 aG5 x14 ((((((((((((hp.get 13 rfl).get 13 rfl).get 13 rfl).get 13 rfl).get 13 rfl).get 13 rfl).get 13 rfl).get 13 rfl).get 13 rfl).get 13 rfl).get 13 rfl).get 13 rfl) x15 ex15) ⟨rfl,rfl,trivial⟩ fun v a w hR hE=>?_
         obtain⟨vr8_model,vr8_proof,usr8_proof,rfl,hp⟩:=hR
         have hp:=r11 hp
         refine aC (aI ⟨gp0 hp,gp 10 hp rfl,trivial⟩ fun hS=>?_)
         refine W1 13 (by kernel_rfl) rfl ?_
         refine dW (wk0 rfl) rfl hE hp rfl rfl rfl 2 rfl eH.size_ rfl (cO ⟨rfl,(aA.one hp 0 rfl),(bV.one hp 1 rfl),rfl,trivial⟩) [(Iv x15.kind),vr8_model,vr8_proof,(Iv x15.conflicts)] rfl ?_
         intro w hp
         have hp:=r11 hp
         refine aC (aI ⟨gp0 hp,gp 10 hp rfl,trivial⟩ fun hS=>?_)
         exact dX (by kernel_rfl) ⟨_,_,_,_,hE.cut ⟨rfl,rfl,rfl,rfl,rfl,rfl,rfl,rfl,rfl,rfl,rfl,trivial⟩,(((((((((((((hp.get 10 rfl).get 10 rfl).get 10 rfl).get 10 rfl).get 10 rfl).get 10 rfl).get 7 rfl).get 7 rfl).get 8 rfl).get 10 rfl).drop).get 9 rfl).drop)⟩
        refine eP rfl ?_
        refine sQ (wk0 rfl) rfl rfl hE hp rfl [(Iv 0),N0,N0,(Iv 0)] (fun w=>by simp[Instr.alloc,go_sem]<;>rfl) ?_
        intro a w b13 hE hp
        have hp:=r9 hp
        refine aC (aI ⟨gp0 hp,gp 8 hp rfl,trivial⟩ fun hS=>?_)
        refine W1 7 (by kernel_rfl) rfl ?_
        obtain⟨k5,k5a,k5d,k5h⟩:=(hp.get 3 rfl).lend
        refine Cl hE rfl rfl W9 (kM p0 aF (bJ.mono bH (PH.le_un _ _)) x12 v5 (aA.ro k5d k5a) k5h x13 ex13) ⟨rfl,rfl,trivial⟩ fun v a w hR hE=>?_
        obtain⟨br9,vr9_value,vr9_level,aK5,vr9_saved,aC5,Q9,vr9_trail,aK6,br9_queue,C9,A8,vr9_proof,usr9_proof,rfl,hp⟩:=hR
        have hp:=Hp.back k5a k5d hp
        have hp:Hp Z ρ (_::Pt br9 (.cells #[vr9_value,vr9_level,aK5,vr9_saved,aC5,vr9_trail,aK6,(Iv x13.head),(Pv br9_queue 0),vr9_proof,(Iv x13.literals),(.bool x13.broken)] 65 (0,0))::aA 3 vr9_value x13.value::aA 3 vr9_level x13.level::aA 71 aK5 (List.map (hq (Q9).2) (x13.reason:List (Option Nat)))::aA 3 vr9_saved x13.saved::cZ 61 71 (78,3) aC5 Q9 (x13.watches:WD) none none::aA 3 vr9_trail x13.trail::aA 3 aK6 x13.starts::Pt br9_queue (.cells #[C9,A8] 68 (0,0))::aA 3 C9 x13.queue.list::aA 4 A8 x13.queue.isin::bV 25 3 vr9_proof usr9_proof (x13.proof:(List (List Int)))::_::_::_::_::_::_::_::_::L) w:=hp
        refine aC (aI ⟨gp0 hp,gp 20 hp rfl,trivial⟩ fun hS=>?_)
        refine W1 11 (by kernel_rfl) rfl ?_
        refine Cl hE rfl rfl D8 (dZ br9 x13 vr9_value vr9_level aK5 vr9_saved aC5 Q9 vr9_trail aK6 br9_queue C9 A8 vr9_proof usr9_proof x14 ((((((((((((hp.get 12 rfl).get 12 rfl).get 12 rfl).get 12 rfl).get 12 rfl).get 12 rfl).get 12 rfl).get 12 rfl).get 12 rfl).get 12 rfl).get 12 rfl).get 12 rfl) x15 ex15) ⟨rfl,rfl,trivial⟩ fun v a w hR hE=>?_
        obtain⟨vr10_model,vr10_proof,usr10_proof,rfl,hp⟩:=hR
        have hp:=r11 hp
        refine aC (aI ⟨gp0 hp,gp 10 hp rfl,trivial⟩ fun hS=>?_)
        refine W1 13 (by kernel_rfl) rfl ?_
        refine dW (wk0 rfl) rfl hE hp rfl rfl rfl 3 rfl eH.size_ rfl (cO ⟨rfl,(aA.one hp 0 rfl),(bV.one hp 1 rfl),rfl,trivial⟩) [(Iv x15.kind),vr10_model,vr10_proof,(Iv x15.conflicts)] rfl ?_
        intro w hp
        have hp:=r11 hp
        refine aC (aI ⟨gp0 hp,gp 10 hp rfl,trivial⟩ fun hS=>?_)
        exact dX (by kernel_rfl) ⟨_,_,_,_,hE.cut ⟨rfl,rfl,rfl,rfl,rfl,rfl,rfl,rfl,rfl,rfl,rfl,trivial⟩,(((((((((((((hp.get 10 rfl).get 10 rfl).get 10 rfl).get 10 rfl).get 10 rfl).get 10 rfl).get 7 rfl).get 7 rfl).get 9 rfl).get 10 rfl).drop).get 9 rfl).drop)⟩
       refine eP rfl ?_
       refine sQ (wk0 rfl) rfl rfl hE hp rfl [(Iv 0),N0,N0,(Iv 0)] (fun w=>by simp[Instr.alloc,go_sem]<;>rfl) ?_
       intro a w b14 hE hp
       have hp:=r9 hp
       refine aC (aI ⟨gp0 hp,gp 8 hp rfl,trivial⟩ fun hS=>?_)
       refine W1 6 (by kernel_rfl) rfl ?_
       refine nH (wk0 rfl) rfl rfl hE hp rfl aY rfl rfl 3 rfl rfl (l2:=[x11]) rfl (fun j u hj=>by have:=Hp.cN 1 rfl 0 _ (bW rfl) w hp j u hj;simpa using this) ex12 ?_
       intro v6 a w hE hp
       have hp:=r9 hp
       refine aC (aI ⟨gp0 hp,gp 8 hp rfl,trivial⟩ fun hS=>?_)
       refine W1 7 (by kernel_rfl) rfl ?_
       obtain⟨k6,k6a,k6d,k6h⟩:=(hp.get 3 rfl).lend
       refine Cl hE rfl rfl W9 (kM p0 aF (bJ.mono bH (PH.le_un _ _)) x12 v6 (aA.ro k6d k6a) k6h x13 ex13) ⟨rfl,rfl,trivial⟩ fun v a w hR hE=>?_
       obtain⟨br11,aH1,aG7,aA8,aG9,U2,G7,aH0,aA9,aE8,yO,yN,aG8,usr11_proof,rfl,hp⟩:=hR
       have hp:=Hp.back k6a k6d hp
       have hp:Hp Z ρ (_::Pt br11 (.cells #[aH1,aG7,aA8,aG9,U2,aH0,aA9,(Iv x13.head),(Pv aE8 0),aG8,(Iv x13.literals),(.bool x13.broken)] 65 (0,0))::aA 3 aH1 x13.value::aA 3 aG7 x13.level::aA 71 aA8 (List.map (hq (G7).2) (x13.reason:List (Option Nat)))::aA 3 aG9 x13.saved::cZ 61 71 (78,3) U2 G7 (x13.watches:WD) none none::aA 3 aH0 x13.trail::aA 3 aA9 x13.starts::Pt aE8 (.cells #[yO,yN] 68 (0,0))::aA 3 yO x13.queue.list::aA 4 yN x13.queue.isin::bV 25 3 aG8 usr11_proof (x13.proof:(List (List Int)))::_::_::_::_::_::_::_::_::L) w:=hp
       refine aC (aI ⟨gp0 hp,gp 20 hp rfl,trivial⟩ fun hS=>?_)
       refine W1 11 (by kernel_rfl) rfl ?_
       refine Cl hE rfl rfl D8 (dZ br11 x13 aH1 aG7 aA8 aG9 U2 G7 aH0 aA9 aE8 yO yN aG8 usr11_proof x14 ((((((((((((hp.get 12 rfl).get 12 rfl).get 12 rfl).get 12 rfl).get 12 rfl).get 12 rfl).get 12 rfl).get 12 rfl).get 12 rfl).get 12 rfl).get 12 rfl).get 12 rfl) x15 ex15) ⟨rfl,rfl,trivial⟩ fun v a w hR hE=>?_
       obtain⟨vr12_model,vr12_proof,usr12_proof,rfl,hp⟩:=hR
       have hp:=r11 hp
       refine aC (aI ⟨gp0 hp,gp 10 hp rfl,trivial⟩ fun hS=>?_)
       refine W1 13 (by kernel_rfl) rfl ?_
       refine dW (wk0 rfl) rfl hE hp rfl rfl rfl 3 rfl eH.size_ rfl (cO ⟨rfl,(aA.one hp 0 rfl),(bV.one hp 1 rfl),rfl,trivial⟩) [(Iv x15.kind),vr12_model,vr12_proof,(Iv x15.conflicts)] rfl ?_
       intro w hp
       have hp:=r11 hp
       refine aC (aI ⟨gp0 hp,gp 10 hp rfl,trivial⟩ fun hS=>?_)
       exact dX (by kernel_rfl) ⟨_,_,_,_,hE.cut ⟨rfl,rfl,rfl,rfl,rfl,rfl,rfl,rfl,rfl,rfl,rfl,trivial⟩,(((((((((((((hp.get 10 rfl).get 10 rfl).get 10 rfl).get 10 rfl).get 10 rfl).get 10 rfl).get 7 rfl).get 7 rfl).get 9 rfl).get 10 rfl).drop).get 9 rfl).drop)⟩
      refine eP rfl ?_
      refine sQ (wk0 rfl) rfl rfl hE hp rfl [(Iv 0),N0,N0,(Iv 0)] (fun w=>by simp[Instr.alloc,go_sem]<;>rfl) ?_
      intro a w b15 hE hp
      have hp:=r8 hp
      refine aC (aI ⟨gp0 hp,gp 7 hp rfl,trivial⟩ fun hS=>?_)
      refine W1 5 (by kernel_rfl) rfl ?_
      refine jJ (wk0 rfl) rfl rfl hE hp rfl [(0,(Iv x11))] ⟨⟨rfl,rfl⟩,trivial⟩ [(Iv x11)] 3 (fun w=>by simp[Instr.buildSlice,Instr.fill,Value.cells,go_sem]) ?_
      intro a w b16 hE hp
      have hp:=r9 hp
      refine aC (aI ⟨gp0 hp,gp 8 hp rfl,trivial⟩ fun hS=>?_)
      refine W1 6 (by kernel_rfl) rfl ?_
      refine nH (wk0 rfl) rfl rfl hE hp rfl aY rfl rfl 3 rfl rfl (l2:=[x11]) rfl (fun j u hj=>by have:=Hp.cN 0 rfl 0 _ (bW rfl) w hp j u hj;simpa using this) ex12 ?_
      intro v7 a w hE hp
      have hp:=r9 hp
      refine aC (aI ⟨gp0 hp,gp 8 hp rfl,trivial⟩ fun hS=>?_)
      refine W1 7 (by kernel_rfl) rfl ?_
      obtain⟨k7,k7a,k7d,k7h⟩:=(hp.get 3 rfl).lend
      refine Cl hE rfl rfl W9 (kM p0 aF (bJ.mono bH (PH.le_un _ _)) x12 v7 (aA.ro k7d k7a) k7h x13 ex13) ⟨rfl,rfl,trivial⟩ fun v a w hR hE=>?_
      obtain⟨br13,aH6,aH2,aB0,aH4,U3,G8,aH5,aB1,aE9,yQ,yP,aH3,usr13_proof,rfl,hp⟩:=hR
      have hp:=Hp.back k7a k7d hp
      have hp:Hp Z ρ (_::Pt br13 (.cells #[aH6,aH2,aB0,aH4,U3,aH5,aB1,(Iv x13.head),(Pv aE9 0),aH3,(Iv x13.literals),(.bool x13.broken)] 65 (0,0))::aA 3 aH6 x13.value::aA 3 aH2 x13.level::aA 71 aB0 (List.map (hq (G8).2) (x13.reason:List (Option Nat)))::aA 3 aH4 x13.saved::cZ 61 71 (78,3) U3 G8 (x13.watches:WD) none none::aA 3 aH5 x13.trail::aA 3 aB1 x13.starts::Pt aE9 (.cells #[yQ,yP] 68 (0,0))::aA 3 yQ x13.queue.list::aA 4 yP x13.queue.isin::bV 25 3 aH3 usr13_proof (x13.proof:(List (List Int)))::_::_::_::_::_::_::_::_::L) w:=hp
      refine aC (aI ⟨gp0 hp,gp 20 hp rfl,trivial⟩ fun hS=>?_)
      refine W1 11 (by kernel_rfl) rfl ?_
      refine Cl hE rfl rfl D8 (dZ br13 x13 aH6 aH2 aB0 aH4 U3 G8 aH5 aB1 aE9 yQ yP aH3 usr13_proof x14 ((((((((((((hp.get 12 rfl).get 12 rfl).get 12 rfl).get 12 rfl).get 12 rfl).get 12 rfl).get 12 rfl).get 12 rfl).get 12 rfl).get 12 rfl).get 12 rfl).get 12 rfl) x15 ex15) ⟨rfl,rfl,trivial⟩ fun v a w hR hE=>?_
      obtain⟨vr14_model,vr14_proof,usr14_proof,rfl,hp⟩:=hR
      have hp:=r11 hp
      refine aC (aI ⟨gp0 hp,gp 10 hp rfl,trivial⟩ fun hS=>?_)
      refine W1 13 (by kernel_rfl) rfl ?_
      refine dW (wk0 rfl) rfl hE hp rfl rfl rfl 4 rfl eH.size_ rfl (cO ⟨rfl,(aA.one hp 0 rfl),(bV.one hp 1 rfl),rfl,trivial⟩) [(Iv x15.kind),vr14_model,vr14_proof,(Iv x15.conflicts)] rfl ?_
      intro w hp
      have hp:=r11 hp
      refine aC (aI ⟨gp0 hp,gp 10 hp rfl,trivial⟩ fun hS=>?_)
      exact dX (by kernel_rfl) ⟨_,_,_,_,hE.cut ⟨rfl,rfl,rfl,rfl,rfl,rfl,rfl,rfl,rfl,rfl,rfl,trivial⟩,(((((((((((((hp.get 10 rfl).get 10 rfl).get 10 rfl).get 10 rfl).get 10 rfl).get 10 rfl).get 7 rfl).get 7 rfl).get 10 rfl).get 10 rfl).drop).get 9 rfl).drop)⟩
     ·
      refine eP rfl ?_
      refine jJ (wk0 rfl) rfl rfl hE hp rfl [(0,(Iv x11))] ⟨⟨rfl,rfl⟩,trivial⟩ [(Iv x11)] 3 (fun w=>by simp[Instr.buildSlice,Instr.fill,Value.cells,go_sem]) ?_
      intro a w b17 hE hp
      have hp:=r7 hp
      refine aC (aI ⟨gp0 hp,gp 6 hp rfl,trivial⟩ fun hS=>?_)
      refine jQ [2,12] (by kernel_rfl) rfl ?_
      refine List.forall_mem_cons.2 ⟨?_,List.forall_mem_cons.2 ⟨?_,fun _ h=>absurd h (by simp)⟩⟩
      ·
       refine eP rfl ?_
       obtain⟨k8,k8a,k8d,k8h⟩:=(hp.get 1 rfl).lend
       refine s_call (wk0 rfl) rfl rfl hE rfl [w86] ⟨rfl,trivial⟩ ent39 (vW dJ w86 (aA.ro k8d k8a) k8h x10 ex10) Ret.ret ?_
       intro v8 a w hR hE
       obtain⟨u,hu,hp⟩:=Ret.of hR
       rw[←hu] at hp
       have hp:=Hp.back k8a k8d hp
       have hp:=r8 hp
       have hp:=r8 hp
       refine aC (aI ⟨gp0 hp,gp 7 hp rfl,trivial⟩ fun hS=>?_)
       refine jQ [6,12] (by kernel_rfl) rfl ?_
       refine List.forall_mem_cons.2 ⟨?_,List.forall_mem_cons.2 ⟨?_,fun _ h=>absurd h (by simp)⟩⟩
       ·
        refine eP rfl ?_
        refine nH (wk0 rfl) rfl rfl hE hp rfl aY rfl rfl 1 rfl rfl (l2:=[x11]) rfl (fun j u hj=>by have:=Hp.cN 2 rfl 0 _ (bW rfl) w hp j u hj;simpa using this) ex12 ?_
        intro v9 a w hE hp
        have hp:=r8 hp
        refine aC (aI ⟨gp0 hp,gp 7 hp rfl,trivial⟩ fun hS=>?_)
        refine jQ [7,12] (by kernel_rfl) rfl ?_
        refine List.forall_mem_cons.2 ⟨?_,List.forall_mem_cons.2 ⟨?_,fun _ h=>absurd h (by simp)⟩⟩
        ·
         refine eP rfl ?_
         obtain⟨k9,k9a,k9d,k9h⟩:=(hp.get 1 rfl).lend
         refine Cl hE rfl rfl W9 (kM p0 aF (bJ.mono bH (PH.le_un _ _)) x12 v9 (aA.ro k9d k9a) k9h x13 ex13) ⟨rfl,rfl,trivial⟩ fun v a w hR hE=>?_
         obtain⟨br15,U9,U4,F6,U6,zI,xP,U7,F7,O7,vP,vO,U5,aA5,rfl,hp⟩:=hR
         have hp:=Hp.back k9a k9d hp
         have hp:Hp Z ρ (_::Pt br15 (.cells #[U9,U4,F6,U6,zI,U7,F7,(Iv x13.head),(Pv O7 0),U5,(Iv x13.literals),(.bool x13.broken)] 65 (0,0))::aA 3 U9 x13.value::aA 3 U4 x13.level::aA 71 F6 (List.map (hq (xP).2) (x13.reason:List (Option Nat)))::aA 3 U6 x13.saved::cZ 61 71 (78,3) zI xP (x13.watches:WD) none none::aA 3 U7 x13.trail::aA 3 F7 x13.starts::Pt O7 (.cells #[vP,vO] 68 (0,0))::aA 3 vP x13.queue.list::aA 4 vO x13.queue.isin::bV 25 3 U5 aA5 (x13.proof:(List (List Int)))::_::_::_::_::_::_::_::L) w:=hp
         refine aC (aI ⟨gp0 hp,gp 19 hp rfl,trivial⟩ fun hS=>?_)
         refine jQ [11,12] (by kernel_rfl) rfl ?_
         refine List.forall_mem_cons.2 ⟨?_,List.forall_mem_cons.2 ⟨?_,fun _ h=>absurd h (by simp)⟩⟩
         ·
          refine eP rfl ?_
          refine Cl hE rfl rfl D8 (dZ br15 x13 U9 U4 F6 U6 zI xP U7 F7 O7 vP vO U5 aA5 x14 ((((((((((((hp.get 12 rfl).get 12 rfl).get 12 rfl).get 12 rfl).get 12 rfl).get 12 rfl).get 12 rfl).get 12 rfl).get 12 rfl).get 12 rfl).get 12 rfl).get 12 rfl) x15 ex15) ⟨rfl,rfl,trivial⟩ fun v a w hR hE=>?_
          obtain⟨vr16_model,vr16_proof,usr16_proof,rfl,hp⟩:=hR
          have hp:=r10 hp
          refine aC (aI ⟨gp0 hp,gp 9 hp rfl,trivial⟩ fun hS=>?_)
          refine W1 12 (by kernel_rfl) rfl ?_
          refine sQ (wk0 rfl) rfl rfl hE hp rfl [(Iv 0),N0,N0,(Iv 0)] (fun w=>by simp[Instr.alloc,go_sem]<;>rfl) ?_
          intro a w b18 hE hp
          have hp:=r11 hp
          refine aC (aI ⟨gp0 hp,gp 10 hp rfl,trivial⟩ fun hS=>?_)
          refine W1 13 (by kernel_rfl) rfl ?_
          refine dW (wk0 rfl) rfl hE hp rfl rfl rfl 0 rfl eH.size_ rfl (cO ⟨rfl,(aA.one hp 1 rfl),(bV.one hp 2 rfl),rfl,trivial⟩) [(Iv x15.kind),vr16_model,vr16_proof,(Iv x15.conflicts)] rfl ?_
          intro w hp
          have hp:=r11 hp
          refine aC (aI ⟨gp0 hp,gp 10 hp rfl,trivial⟩ fun hS=>?_)
          exact dX (by kernel_rfl) ⟨_,_,_,_,hE.cut ⟨rfl,rfl,rfl,rfl,rfl,rfl,rfl,rfl,rfl,rfl,rfl,trivial⟩,((((hp.get 5 rfl).drop).get 3 rfl).drop)⟩
         refine eP rfl ?_
         refine sQ (wk0 rfl) rfl rfl hE hp rfl [(Iv 0),N0,N0,(Iv 0)] (fun w=>by simp[Instr.alloc,go_sem]<;>rfl) ?_
         intro a w b19 hE hp
         have hp:Hp Z ρ (Pt b19 (.cells #[(Iv 0),N0,N0,(Iv 0)] 29 (0,0))::_::_::_::_::_::_::_::_::_::_::_::_::_::_::_::_::_::_::_::_::L) w:=hp
         refine aC (aI ⟨gp0 hp,gp 20 hp rfl,trivial⟩ fun hS=>?_)
         refine W1 11 (by kernel_rfl) rfl ?_
         refine Cl hE rfl rfl D8 (dZ br15 x13 U9 U4 F6 U6 zI xP U7 F7 O7 vP vO U5 aA5 x14 ((((((((((((hp.get 13 rfl).get 13 rfl).get 13 rfl).get 13 rfl).get 13 rfl).get 13 rfl).get 13 rfl).get 13 rfl).get 13 rfl).get 13 rfl).get 13 rfl).get 13 rfl) x15 ex15) ⟨rfl,rfl,trivial⟩ fun v a w hR hE=>?_
         obtain⟨vr17_model,vr17_proof,usr17_proof,rfl,hp⟩:=hR
         have hp:=r11 hp
         refine aC (aI ⟨gp0 hp,gp 10 hp rfl,trivial⟩ fun hS=>?_)
         refine W1 13 (by kernel_rfl) rfl ?_
         refine dW (wk0 rfl) rfl hE hp rfl rfl rfl 2 rfl eH.size_ rfl (cO ⟨rfl,(aA.one hp 0 rfl),(bV.one hp 1 rfl),rfl,trivial⟩) [(Iv x15.kind),vr17_model,vr17_proof,(Iv x15.conflicts)] rfl ?_
         intro w hp
         have hp:=r11 hp
         refine aC (aI ⟨gp0 hp,gp 10 hp rfl,trivial⟩ fun hS=>?_)
         exact dX (by kernel_rfl) ⟨_,_,_,_,hE.cut ⟨rfl,rfl,rfl,rfl,rfl,rfl,rfl,rfl,rfl,rfl,rfl,trivial⟩,(((((((((((((hp.get 10 rfl).get 10 rfl).get 10 rfl).get 10 rfl).get 10 rfl).get 9 rfl).get 7 rfl).get 7 rfl).get 8 rfl).get 10 rfl).drop).get 9 rfl).drop)⟩
        refine eP rfl ?_
        refine sQ (wk0 rfl) rfl rfl hE hp rfl [(Iv 0),N0,N0,(Iv 0)] (fun w=>by simp[Instr.alloc,go_sem]<;>rfl) ?_
        intro a w b20 hE hp
        have hp:=r9 hp
        refine aC (aI ⟨gp0 hp,gp 8 hp rfl,trivial⟩ fun hS=>?_)
        refine W1 7 (by kernel_rfl) rfl ?_
        obtain⟨k10,k10a,k10d,k10h⟩:=(hp.get 2 rfl).lend
        refine Cl hE rfl rfl W9 (kM p0 aF (bJ.mono bH (PH.le_un _ _)) x12 v9 (aA.ro k10d k10a) k10h x13 ex13) ⟨rfl,rfl,trivial⟩ fun v a w hR hE=>?_
        obtain⟨br18,aI1,aH7,aB2,aH9,V3,G9,aI0,aB3,aF0,yS,yR,aH8,usr18_proof,rfl,hp⟩:=hR
        have hp:=Hp.back k10a k10d hp
        have hp:Hp Z ρ (_::Pt br18 (.cells #[aI1,aH7,aB2,aH9,V3,aI0,aB3,(Iv x13.head),(Pv aF0 0),aH8,(Iv x13.literals),(.bool x13.broken)] 65 (0,0))::aA 3 aI1 x13.value::aA 3 aH7 x13.level::aA 71 aB2 (List.map (hq (G9).2) (x13.reason:List (Option Nat)))::aA 3 aH9 x13.saved::cZ 61 71 (78,3) V3 G9 (x13.watches:WD) none none::aA 3 aI0 x13.trail::aA 3 aB3 x13.starts::Pt aF0 (.cells #[yS,yR] 68 (0,0))::aA 3 yS x13.queue.list::aA 4 yR x13.queue.isin::bV 25 3 aH8 usr18_proof (x13.proof:(List (List Int)))::_::_::_::_::_::_::_::_::L) w:=hp
        refine aC (aI ⟨gp0 hp,gp 20 hp rfl,trivial⟩ fun hS=>?_)
        refine W1 11 (by kernel_rfl) rfl ?_
        refine Cl hE rfl rfl D8 (dZ br18 x13 aI1 aH7 aB2 aH9 V3 G9 aI0 aB3 aF0 yS yR aH8 usr18_proof x14 ((((((((((((hp.get 12 rfl).get 12 rfl).get 12 rfl).get 12 rfl).get 12 rfl).get 12 rfl).get 12 rfl).get 12 rfl).get 12 rfl).get 12 rfl).get 12 rfl).get 12 rfl) x15 ex15) ⟨rfl,rfl,trivial⟩ fun v a w hR hE=>?_
        obtain⟨vr19_model,vr19_proof,usr19_proof,rfl,hp⟩:=hR
        have hp:=r11 hp
        refine aC (aI ⟨gp0 hp,gp 10 hp rfl,trivial⟩ fun hS=>?_)
        refine W1 13 (by kernel_rfl) rfl ?_
        refine dW (wk0 rfl) rfl hE hp rfl rfl rfl 3 rfl eH.size_ rfl (cO ⟨rfl,(aA.one hp 0 rfl),(bV.one hp 1 rfl),rfl,trivial⟩) [(Iv x15.kind),vr19_model,vr19_proof,(Iv x15.conflicts)] rfl ?_
        intro w hp
        have hp:=r11 hp
        refine aC (aI ⟨gp0 hp,gp 10 hp rfl,trivial⟩ fun hS=>?_)
        exact dX (by kernel_rfl) ⟨_,_,_,_,hE.cut ⟨rfl,rfl,rfl,rfl,rfl,rfl,rfl,rfl,rfl,rfl,rfl,trivial⟩,(((((((((((((hp.get 10 rfl).get 10 rfl).get 10 rfl).get 10 rfl).get 10 rfl).get 9 rfl).get 7 rfl).get 7 rfl).get 9 rfl).get 10 rfl).drop).get 9 rfl).drop)⟩
       refine eP rfl ?_
       refine sQ (wk0 rfl) rfl rfl hE hp rfl [(Iv 0),N0,N0,(Iv 0)] (fun w=>by simp[Instr.alloc,go_sem]<;>rfl) ?_
       intro a w b21 hE hp
       have hp:=r9 hp
       refine aC (aI ⟨gp0 hp,gp 8 hp rfl,trivial⟩ fun hS=>?_)
       refine W1 6 (by kernel_rfl) rfl ?_
       refine nH (wk0 rfl) rfl rfl hE hp rfl aY rfl rfl 2 rfl rfl (l2:=[x11]) rfl (fun j u hj=>by have:=Hp.cN 3 rfl 0 _ (bW rfl) w hp j u hj;simpa using this) ex12 ?_
       intro v10 a w hE hp
       have hp:=r9 hp
       refine aC (aI ⟨gp0 hp,gp 8 hp rfl,trivial⟩ fun hS=>?_)
       refine W1 7 (by kernel_rfl) rfl ?_
       obtain⟨k11,k11a,k11d,k11h⟩:=(hp.get 2 rfl).lend
       refine Cl hE rfl rfl W9 (kM p0 aF (bJ.mono bH (PH.le_un _ _)) x12 v10 (aA.ro k11d k11a) k11h x13 ex13) ⟨rfl,rfl,trivial⟩ fun v a w hR hE=>?_
       obtain⟨br20,aI6,aI2,aB6,aI4,V4,H5,aI5,aB7,aF1,yU,yT,aI3,usr20_proof,rfl,hp⟩:=hR
       have hp:=Hp.back k11a k11d hp
       have hp:Hp Z ρ (_::Pt br20 (.cells #[aI6,aI2,aB6,aI4,V4,aI5,aB7,(Iv x13.head),(Pv aF1 0),aI3,(Iv x13.literals),(.bool x13.broken)] 65 (0,0))::aA 3 aI6 x13.value::aA 3 aI2 x13.level::aA 71 aB6 (List.map (hq (H5).2) (x13.reason:List (Option Nat)))::aA 3 aI4 x13.saved::cZ 61 71 (78,3) V4 H5 (x13.watches:WD) none none::aA 3 aI5 x13.trail::aA 3 aB7 x13.starts::Pt aF1 (.cells #[yU,yT] 68 (0,0))::aA 3 yU x13.queue.list::aA 4 yT x13.queue.isin::bV 25 3 aI3 usr20_proof (x13.proof:(List (List Int)))::_::_::_::_::_::_::_::_::L) w:=hp
       refine aC (aI ⟨gp0 hp,gp 20 hp rfl,trivial⟩ fun hS=>?_)
       refine W1 11 (by kernel_rfl) rfl ?_
       refine Cl hE rfl rfl D8 (dZ br20 x13 aI6 aI2 aB6 aI4 V4 H5 aI5 aB7 aF1 yU yT aI3 usr20_proof x14 ((((((((((((hp.get 12 rfl).get 12 rfl).get 12 rfl).get 12 rfl).get 12 rfl).get 12 rfl).get 12 rfl).get 12 rfl).get 12 rfl).get 12 rfl).get 12 rfl).get 12 rfl) x15 ex15) ⟨rfl,rfl,trivial⟩ fun v a w hR hE=>?_
       obtain⟨vr21_model,vr21_proof,usr21_proof,rfl,hp⟩:=hR
       have hp:=r11 hp
       refine aC (aI ⟨gp0 hp,gp 10 hp rfl,trivial⟩ fun hS=>?_)
       refine W1 13 (by kernel_rfl) rfl ?_
       refine dW (wk0 rfl) rfl hE hp rfl rfl rfl 3 rfl eH.size_ rfl (cO ⟨rfl,(aA.one hp 0 rfl),(bV.one hp 1 rfl),rfl,trivial⟩) [(Iv x15.kind),vr21_model,vr21_proof,(Iv x15.conflicts)] rfl ?_
       intro w hp
       have hp:=r11 hp
       refine aC (aI ⟨gp0 hp,gp 10 hp rfl,trivial⟩ fun hS=>?_)
       exact dX (by kernel_rfl) ⟨_,_,_,_,hE.cut ⟨rfl,rfl,rfl,rfl,rfl,rfl,rfl,rfl,rfl,rfl,rfl,trivial⟩,(((((((((((((hp.get 10 rfl).get 10 rfl).get 10 rfl).get 10 rfl).get 10 rfl).get 9 rfl).get 7 rfl).get 7 rfl).get 9 rfl).get 10 rfl).drop).get 9 rfl).drop)⟩
      refine eP rfl ?_
      refine sQ (wk0 rfl) rfl rfl hE hp rfl [(Iv 0),N0,N0,(Iv 0)] (fun w=>by simp[Instr.alloc,go_sem]<;>rfl) ?_
      intro a w b22 hE hp
      have hp:=r8 hp
      refine aC (aI ⟨gp0 hp,gp 7 hp rfl,trivial⟩ fun hS=>?_)
      refine W1 2 (by kernel_rfl) rfl ?_
      obtain⟨k12,k12a,k12d,k12h⟩:=(hp.get 2 rfl).lend
      refine s_call (wk0 rfl) rfl rfl hE rfl [w86] ⟨rfl,trivial⟩ ent39 (vW dJ w86 (aA.ro k12d k12a) k12h x10 ex10) Ret.ret ?_
      intro v11 a w hR hE
      obtain⟨u,hu,hp⟩:=Ret.of hR
      rw[←hu] at hp
      have hp:=Hp.back k12a k12d hp
      have hp:=r9 hp
      have hp:=r9 hp
      refine aC (aI ⟨gp0 hp,gp 8 hp rfl,trivial⟩ fun hS=>?_)
      refine W1 6 (by kernel_rfl) rfl ?_
      refine nH (wk0 rfl) rfl rfl hE hp rfl aY rfl rfl 1 rfl rfl (l2:=[x11]) rfl (fun j u hj=>by have:=Hp.cN 3 rfl 0 _ (bW rfl) w hp j u hj;simpa using this) ex12 ?_
      intro v12 a w hE hp
      have hp:=r9 hp
      refine aC (aI ⟨gp0 hp,gp 8 hp rfl,trivial⟩ fun hS=>?_)
      refine W1 7 (by kernel_rfl) rfl ?_
      obtain⟨k13,k13a,k13d,k13h⟩:=(hp.get 1 rfl).lend
      refine Cl hE rfl rfl W9 (kM p0 aF (bJ.mono bH (PH.le_un _ _)) x12 v12 (aA.ro k13d k13a) k13h x13 ex13) ⟨rfl,rfl,trivial⟩ fun v a w hR hE=>?_
      obtain⟨br22,aJ1,aI7,aB8,aI9,V5,H6,aJ0,aB9,aF2,yX,yV,aI8,usr22_proof,rfl,hp⟩:=hR
      have hp:=Hp.back k13a k13d hp
      have hp:Hp Z ρ (_::Pt br22 (.cells #[aJ1,aI7,aB8,aI9,V5,aJ0,aB9,(Iv x13.head),(Pv aF2 0),aI8,(Iv x13.literals),(.bool x13.broken)] 65 (0,0))::aA 3 aJ1 x13.value::aA 3 aI7 x13.level::aA 71 aB8 (List.map (hq (H6).2) (x13.reason:List (Option Nat)))::aA 3 aI9 x13.saved::cZ 61 71 (78,3) V5 H6 (x13.watches:WD) none none::aA 3 aJ0 x13.trail::aA 3 aB9 x13.starts::Pt aF2 (.cells #[yX,yV] 68 (0,0))::aA 3 yX x13.queue.list::aA 4 yV x13.queue.isin::bV 25 3 aI8 usr22_proof (x13.proof:(List (List Int)))::_::_::_::_::_::_::_::_::L) w:=hp
      refine aC (aI ⟨gp0 hp,gp 20 hp rfl,trivial⟩ fun hS=>?_)
      refine W1 11 (by kernel_rfl) rfl ?_
      refine Cl hE rfl rfl D8 (dZ br22 x13 aJ1 aI7 aB8 aI9 V5 H6 aJ0 aB9 aF2 yX yV aI8 usr22_proof x14 ((((((((((((hp.get 12 rfl).get 12 rfl).get 12 rfl).get 12 rfl).get 12 rfl).get 12 rfl).get 12 rfl).get 12 rfl).get 12 rfl).get 12 rfl).get 12 rfl).get 12 rfl) x15 ex15) ⟨rfl,rfl,trivial⟩ fun v a w hR hE=>?_
      obtain⟨vr23_model,vr23_proof,usr23_proof,rfl,hp⟩:=hR
      have hp:=r11 hp
      refine aC (aI ⟨gp0 hp,gp 10 hp rfl,trivial⟩ fun hS=>?_)
      refine W1 13 (by kernel_rfl) rfl ?_
      refine dW (wk0 rfl) rfl hE hp rfl rfl rfl 4 rfl eH.size_ rfl (cO ⟨rfl,(aA.one hp 0 rfl),(bV.one hp 1 rfl),rfl,trivial⟩) [(Iv x15.kind),vr23_model,vr23_proof,(Iv x15.conflicts)] rfl ?_
      intro w hp
      have hp:=r11 hp
      refine aC (aI ⟨gp0 hp,gp 10 hp rfl,trivial⟩ fun hS=>?_)
      exact dX (by kernel_rfl) ⟨_,_,_,_,hE.cut ⟨rfl,rfl,rfl,rfl,rfl,rfl,rfl,rfl,rfl,rfl,rfl,trivial⟩,(((((((((((((hp.get 10 rfl).get 10 rfl).get 10 rfl).get 10 rfl).get 10 rfl).get 8 rfl).get 7 rfl).get 7 rfl).get 9 rfl).get 10 rfl).drop).get 9 rfl).drop)⟩
     refine eP rfl ?_
     refine sQ (wk0 rfl) rfl rfl hE hp rfl [(Iv 0),N0,N0,(Iv 0)] (fun w=>by simp[Instr.alloc,go_sem]<;>rfl) ?_
     intro a w b23 hE hp
     have hp:=r7 hp
     refine aC (aI ⟨gp0 hp,gp 6 hp rfl,trivial⟩ fun hS=>?_)
     refine jQ [2,5] (by kernel_rfl) rfl ?_
     refine List.forall_mem_cons.2 ⟨?_,List.forall_mem_cons.2 ⟨?_,fun _ h=>absurd h (by simp)⟩⟩
     ·
      refine eP rfl ?_
      obtain⟨k14,k14a,k14d,k14h⟩:=(hp.get 1 rfl).lend
      refine s_call (wk0 rfl) rfl rfl hE rfl [w86] ⟨rfl,trivial⟩ ent39 (vW dJ w86 (aA.ro k14d k14a) k14h x10 ex10) Ret.ret ?_
      intro v13 a w hR hE
      obtain⟨u,hu,hp⟩:=Ret.of hR
      rw[←hu] at hp
      have hp:=Hp.back k14a k14d hp
      have hp:=r8 hp
      have hp:=r8 hp
      refine aC (aI ⟨gp0 hp,gp 7 hp rfl,trivial⟩ fun hS=>?_)
      refine W1 5 (by kernel_rfl) rfl ?_
      refine jJ (wk0 rfl) rfl rfl hE hp rfl [(0,(Iv x11))] ⟨⟨rfl,rfl⟩,trivial⟩ [(Iv x11)] 3 (fun w=>by simp[Instr.buildSlice,Instr.fill,Value.cells,go_sem]) ?_
      intro a w b24 hE hp
      have hp:=r9 hp
      refine aC (aI ⟨gp0 hp,gp 8 hp rfl,trivial⟩ fun hS=>?_)
      refine W1 6 (by kernel_rfl) rfl ?_
      refine nH (wk0 rfl) rfl rfl hE hp rfl aY rfl rfl 2 rfl rfl (l2:=[x11]) rfl (fun j u hj=>by have:=Hp.cN 0 rfl 0 _ (bW rfl) w hp j u hj;simpa using this) ex12 ?_
      intro v14 a w hE hp
      have hp:=r9 hp
      refine aC (aI ⟨gp0 hp,gp 8 hp rfl,trivial⟩ fun hS=>?_)
      refine W1 7 (by kernel_rfl) rfl ?_
      obtain⟨k15,k15a,k15d,k15h⟩:=(hp.get 2 rfl).lend
      refine Cl hE rfl rfl W9 (kM p0 aF (bJ.mono bH (PH.le_un _ _)) x12 v14 (aA.ro k15d k15a) k15h x13 ex13) ⟨rfl,rfl,trivial⟩ fun v a w hR hE=>?_
      obtain⟨br24,aJ6,aJ2,aC0,aJ4,V6,H7,aJ5,aC1,aF3,yZ,yY,aJ3,usr24_proof,rfl,hp⟩:=hR
      have hp:=Hp.back k15a k15d hp
      have hp:Hp Z ρ (_::Pt br24 (.cells #[aJ6,aJ2,aC0,aJ4,V6,aJ5,aC1,(Iv x13.head),(Pv aF3 0),aJ3,(Iv x13.literals),(.bool x13.broken)] 65 (0,0))::aA 3 aJ6 x13.value::aA 3 aJ2 x13.level::aA 71 aC0 (List.map (hq (H7).2) (x13.reason:List (Option Nat)))::aA 3 aJ4 x13.saved::cZ 61 71 (78,3) V6 H7 (x13.watches:WD) none none::aA 3 aJ5 x13.trail::aA 3 aC1 x13.starts::Pt aF3 (.cells #[yZ,yY] 68 (0,0))::aA 3 yZ x13.queue.list::aA 4 yY x13.queue.isin::bV 25 3 aJ3 usr24_proof (x13.proof:(List (List Int)))::_::_::_::_::_::_::_::_::L) w:=hp
      refine aC (aI ⟨gp0 hp,gp 20 hp rfl,trivial⟩ fun hS=>?_)
      refine W1 11 (by kernel_rfl) rfl ?_
      refine Cl hE rfl rfl D8 (dZ br24 x13 aJ6 aJ2 aC0 aJ4 V6 H7 aJ5 aC1 aF3 yZ yY aJ3 usr24_proof x14 ((((((((((((hp.get 12 rfl).get 12 rfl).get 12 rfl).get 12 rfl).get 12 rfl).get 12 rfl).get 12 rfl).get 12 rfl).get 12 rfl).get 12 rfl).get 12 rfl).get 12 rfl) x15 ex15) ⟨rfl,rfl,trivial⟩ fun v a w hR hE=>?_
      obtain⟨vr25_model,vr25_proof,usr25_proof,rfl,hp⟩:=hR
      have hp:=r11 hp
      refine aC (aI ⟨gp0 hp,gp 10 hp rfl,trivial⟩ fun hS=>?_)
      refine W1 13 (by kernel_rfl) rfl ?_
      refine dW (wk0 rfl) rfl hE hp rfl rfl rfl 5 rfl eH.size_ rfl (cO ⟨rfl,(aA.one hp 0 rfl),(bV.one hp 1 rfl),rfl,trivial⟩) [(Iv x15.kind),vr25_model,vr25_proof,(Iv x15.conflicts)] rfl ?_
      intro w hp
      have hp:=r11 hp
      refine aC (aI ⟨gp0 hp,gp 10 hp rfl,trivial⟩ fun hS=>?_)
      exact dX (by kernel_rfl) ⟨_,_,_,_,hE.cut ⟨rfl,rfl,rfl,rfl,rfl,rfl,rfl,rfl,rfl,rfl,rfl,trivial⟩,(((((((((((((hp.get 10 rfl).get 10 rfl).get 10 rfl).get 10 rfl).get 10 rfl).get 9 rfl).get 7 rfl).get 7 rfl).get 10 rfl).get 10 rfl).drop).get 9 rfl).drop)⟩
     refine eP rfl ?_
     refine jJ (wk0 rfl) rfl rfl hE hp rfl [(0,(Iv x11))] ⟨⟨rfl,rfl⟩,trivial⟩ [(Iv x11)] 3 (fun w=>by simp[Instr.buildSlice,Instr.fill,Value.cells,go_sem]) ?_
     intro a w b25 hE hp
     have hp:=r8 hp
     refine aC (aI ⟨gp0 hp,gp 7 hp rfl,trivial⟩ fun hS=>?_)
     refine W1 2 (by kernel_rfl) rfl ?_
     obtain⟨k16,k16a,k16d,k16h⟩:=(hp.get 2 rfl).lend
     refine s_call (wk0 rfl) rfl rfl hE rfl [w86] ⟨rfl,trivial⟩ ent39 (vW dJ w86 (aA.ro k16d k16a) k16h x10 ex10) Ret.ret ?_
     intro v15 a w hR hE
     obtain⟨u,hu,hp⟩:=Ret.of hR
     rw[←hu] at hp
     have hp:=Hp.back k16a k16d hp
     have hp:=r9 hp
     have hp:=r9 hp
     refine aC (aI ⟨gp0 hp,gp 8 hp rfl,trivial⟩ fun hS=>?_)
     refine W1 6 (by kernel_rfl) rfl ?_
     refine nH (wk0 rfl) rfl rfl hE hp rfl aY rfl rfl 1 rfl rfl (l2:=[x11]) rfl (fun j u hj=>by have:=Hp.cN 2 rfl 0 _ (bW rfl) w hp j u hj;simpa using this) ex12 ?_
     intro v16 a w hE hp
     have hp:=r9 hp
     refine aC (aI ⟨gp0 hp,gp 8 hp rfl,trivial⟩ fun hS=>?_)
     refine W1 7 (by kernel_rfl) rfl ?_
     obtain⟨k17,k17a,k17d,k17h⟩:=(hp.get 1 rfl).lend
     refine Cl hE rfl rfl W9 (kM p0 aF (bJ.mono bH (PH.le_un _ _)) x12 v16 (aA.ro k17d k17a) k17h x13 ex13) ⟨rfl,rfl,trivial⟩ fun v a w hR hE=>?_
     obtain⟨br26,aK2,aJ7,aC2,aJ9,V7,H8,aK1,aC3,aF4,zB,zA,aJ8,usr26_proof,rfl,hp⟩:=hR
     have hp:=Hp.back k17a k17d hp
     have hp:Hp Z ρ (_::Pt br26 (.cells #[aK2,aJ7,aC2,aJ9,V7,aK1,aC3,(Iv x13.head),(Pv aF4 0),aJ8,(Iv x13.literals),(.bool x13.broken)] 65 (0,0))::aA 3 aK2 x13.value::aA 3 aJ7 x13.level::aA 71 aC2 (List.map (hq (H8).2) (x13.reason:List (Option Nat)))::aA 3 aJ9 x13.saved::cZ 61 71 (78,3) V7 H8 (x13.watches:WD) none none::aA 3 aK1 x13.trail::aA 3 aC3 x13.starts::Pt aF4 (.cells #[zB,zA] 68 (0,0))::aA 3 zB x13.queue.list::aA 4 zA x13.queue.isin::bV 25 3 aJ8 usr26_proof (x13.proof:(List (List Int)))::_::_::_::_::_::_::_::_::L) w:=hp
     refine aC (aI ⟨gp0 hp,gp 20 hp rfl,trivial⟩ fun hS=>?_)
     refine W1 11 (by kernel_rfl) rfl ?_
     refine Cl hE rfl rfl D8 (dZ br26 x13 aK2 aJ7 aC2 aJ9 V7 H8 aK1 aC3 aF4 zB zA aJ8 usr26_proof x14 ((((((((((((hp.get 12 rfl).get 12 rfl).get 12 rfl).get 12 rfl).get 12 rfl).get 12 rfl).get 12 rfl).get 12 rfl).get 12 rfl).get 12 rfl).get 12 rfl).get 12 rfl) x15 ex15) ⟨rfl,rfl,trivial⟩ fun v a w hR hE=>?_
     obtain⟨vr27_model,vr27_proof,usr27_proof,rfl,hp⟩:=hR
     have hp:=r11 hp
     refine aC (aI ⟨gp0 hp,gp 10 hp rfl,trivial⟩ fun hS=>?_)
     refine W1 13 (by kernel_rfl) rfl ?_
     refine dW (wk0 rfl) rfl hE hp rfl rfl rfl 5 rfl eH.size_ rfl (cO ⟨rfl,(aA.one hp 0 rfl),(bV.one hp 1 rfl),rfl,trivial⟩) [(Iv x15.kind),vr27_model,vr27_proof,(Iv x15.conflicts)] rfl ?_
     intro w hp
     have hp:=r11 hp
     refine aC (aI ⟨gp0 hp,gp 10 hp rfl,trivial⟩ fun hS=>?_)
     exact dX (by kernel_rfl) ⟨_,_,_,_,hE.cut ⟨rfl,rfl,rfl,rfl,rfl,rfl,rfl,rfl,rfl,rfl,rfl,trivial⟩,(((((((((((((hp.get 10 rfl).get 10 rfl).get 10 rfl).get 10 rfl).get 10 rfl).get 8 rfl).get 7 rfl).get 7 rfl).get 10 rfl).get 10 rfl).drop).get 9 rfl).drop)⟩
    rintro a w ⟨y164,y162,y163,yus163,hE,hp⟩
    refine aG (aB ?_)
    refine S hE 1 rfl fun a hE=>V hE hp rfl (xf hE vY rfl rfl) fun a hE=>V hE hp rfl (xl hE bG 0 rfl rfl rfl rfl) fun a hE=>?_
    obtain⟨x16,ex16,hj1⟩:=bnd hj1
    refine V hE hp rfl (dH rfl hE rfl rfl (bD ex16)) fun a hE=>S hE 1 rfl fun a hE=>aC (aG ?_)
    refine aB (V hE hp rfl (xf hE qO rfl rfl) fun a hE=>?_)
    refine V hE hp rfl (xl hE bG 0 rfl rfl rfl rfl) fun a hE=>aC (dG ?_)
    refine aG (aB ?_)
    refine S hE 2 rfl fun a hE=>aC ?_
    refine dK hE rfl (fun hc6=>?_) (fun hc6=>?_)
    ·replace hj1:=(it hc6).symm.trans hj1
     refine aG (aB ?_)
     refine S hE 1 rfl fun a hE=>V hE hp rfl (v:=(.agg #[(Iv 2),N0,N0,(Iv x16)])) (qY rfl hE [(0,(Iv 2)),(3,(Iv x16))] (by exact⟨⟨rfl,rfl⟩,⟨rfl,rfl⟩,trivial⟩) (fun w=>by simp[Instr.build,Instr.fill,Value.cells,go_sem])) fun a hE=>?_
     refine dW (wk0 rfl) rfl hE hp rfl rfl rfl 7 rfl eH.size_ rfl (cO ⟨rfl,rfl,rfl,rfl,trivial⟩) [(Iv 2),N0,N0,(Iv x16)] rfl ?_
     intro w hp
     have hp:=r9 hp
     refine S hE 1 rfl fun a hE=>aC (dC ?_)
     obtain rfl:=oj hj1
     refine⟨_,(oj hl1).symm,fun hb=>?_⟩
     subst hb
     have hp:=hp.emp (aA.nil (α:=Int) 3)
     have hp:=r10 hp
     have hp:=hp.emp (bV.none (α:=Int) 25 3 none)
     have hp:=r11 hp
     have hp:=r11 hp
     obtain rfl:=oj hm
     exact retct hE rfl rfl rfl (uT (cs:=[(Iv 2),N0,N0,(Iv x16)]) eH (Hp.cN 9 rfl 0 _ (bW rfl) _ hp)) ⟨_,rfl,_,_,_,rfl,((((((((((((((((((((hp.get 0 rfl).get 1 rfl).get 10 rfl).drop).get 9 rfl).drop).get 8 rfl).drop).get 7 rfl).drop).get 6 rfl).drop).get 5 rfl).drop).get 4 rfl).drop).get 3 rfl).drop).get 2 rfl).drop)⟩
    replace hj1:=(ie hc6).symm.trans hj1
    refine aG (aB ?_)
    refine S hE 2 rfl fun a hE=>aC ?_
    have hE:=hE.cut (E':=[(2,(Iv p2)),(3,(Pv b1 0)),(6,(Pv b2 0)),(8,(Pv b3 0)),(9,w86),(10,(Iv x16)),(12,(Iv x4)),(13,(Pv y164 0)),(30,vp1),(31,(Iv (p1.length:Int))),(32,(Iv bU)),(76,(.bool (decide (x15.kind=0))))]) ⟨rfl,rfl,rfl,rfl,rfl,rfl,rfl,rfl,rfl,rfl,rfl,rfl,trivial⟩
    refine dK hE rfl (fun hc7=>?_) (fun hc7=>?_)
    ·replace hj1:=(it hc7).symm.trans hj1
     refine aG (aB ?_)
     refine V hE hp rfl (aX rfl hE rfl (fun w hw=>eY (cs:=[(Iv x15.kind),y162,y163,(Iv x15.conflicts)]) eH (Hp.cN 0 rfl 0 _ (bW rfl) w hw))) fun a hE=>?_
     refine dW (wk0 rfl) rfl hE hp rfl rfl rfl 4 rfl eH.size_ rfl (cO ⟨rfl,(aA.one hp 1 rfl),(bV.one hp 2 rfl),rfl,trivial⟩) [(Iv x15.kind),y162,y163,(Iv x15.conflicts)] rfl ?_
     intro w hp
     have hp:=r9 hp
     refine aC (aB ?_)
     refine S hE 2 rfl fun a hE=>?_
     obtain⟨x17,ex17,hj1⟩:=bnd hj1
     refine V hE hp rfl (pV rfl hE rfl (bD ex17)) fun a hE=>?_
     refine jJ (wk0 rfl) rfl rfl hE hp rfl [(0,(Iv x17))] ⟨⟨rfl,rfl⟩,trivial⟩ [(Iv x17)] 3 (fun w=>by simp[Instr.buildSlice,Instr.fill,Value.cells,go_sem]) ?_
     intro a w b26 hE hp
     have hp:=r10 hp
     obtain⟨x18,ex18,hj1⟩:=bnd hj1
     refine nH (wk0 rfl) rfl rfl hE hp rfl aY rfl rfl 4 rfl rfl (l2:=[x17]) rfl (fun j u hj=>by have:=Hp.cN 0 rfl 0 _ (bW rfl) w hp j u hj;simpa using this) ex18 ?_
     intro v17 a w hE hp
     have hp:=r10 hp
     refine S hE 1 rfl fun a hE=>aC ?_
     have hp:=(hp.get 1 rfl).drop
     have hp:=(hp.get 5 rfl).drop
     have hp:=r8 hp
     have hp:=(hp.get 5 rfl).drop
     have hp:=r7 hp
     obtain rfl:=oj hj1
     exact⟨_,rfl,_,_,_,_,hE.cut ⟨rfl,rfl,rfl,rfl,rfl,rfl,rfl,rfl,rfl,trivial⟩,((((((((hp.get 6 rfl).get 6 rfl).get 4 rfl).get 4 rfl).get 6 rfl).get 6 rfl).get 6 rfl).drop)⟩
    replace hj1:=(ie hc7).symm.trans hj1
    refine aB (S hE 2 rfl fun a hE=>?_)
    refine jJ (wk0 rfl) rfl rfl hE hp rfl [(0,(Iv x4))] ⟨⟨rfl,rfl⟩,trivial⟩ [(Iv x4)] 3 (fun w=>by simp[Instr.buildSlice,Instr.fill,Value.cells,go_sem]) ?_
    intro a w b27 hE hp
    have hp:=r10 hp
    obtain⟨x19,ex19,hj1⟩:=bnd hj1
    refine nH (wk0 rfl) rfl rfl hE hp rfl aY rfl rfl 4 rfl rfl (l2:=[x4]) rfl (fun j u hj=>by have:=Hp.cN 0 rfl 0 _ (bW rfl) w hp j u hj;simpa using this) ex19 ?_
    intro v18 a w hE hp
    have hp:=r10 hp
    refine S hE 1 rfl fun a hE=>aC ?_
    obtain rfl:=oj hj1
    exact⟨_,rfl,_,_,_,_,hE.cut ⟨rfl,rfl,rfl,rfl,rfl,rfl,rfl,rfl,rfl,trivial⟩,(((((((hp.get 3 rfl).drop).get 2 rfl).drop).get 1 rfl).drop).drop)⟩
   rintro a w ⟨j1s,rfl,w86,w19,w20q,us20q,hE,hp⟩
   dsimp only at hl1
   refine aB ?_
   obtain⟨x20,ex20,hl1⟩:=bnd hl1
   refine V hE hp rfl (dH rfl hE rfl rfl (bD ex20)) fun a hE=>S hE 1 rfl fun a hE=>aC ?_
   have hE:=hE.cut (E':=[(2,(Iv p2)),(3,(Pv b1 0)),(6,(Pv b2 0)),(8,(Pv b3 0)),(9,w86),(10,(Iv j1s.1)),(30,vp1),(31,(Iv (p1.length:Int))),(32,(Iv x20))]) ⟨rfl,rfl,rfl,rfl,rfl,rfl,rfl,rfl,rfl,trivial⟩
   exact⟨_,(oj hl1).symm,_,_,_,_,hE.cut ⟨rfl,rfl,rfl,rfl,rfl,rfl,rfl,rfl,rfl,trivial⟩,hp⟩
  replace hl1:=(ie hc4).symm.trans hl1
  refine dR ?_
  refine⟨_,(oj hl1).symm,fun hbb=>?_⟩
  exact⟨_,hbb.symm,_,_,_,_,hE.cut ⟨rfl,rfl,rfl,trivial⟩,hp⟩
 rintro a w ⟨b4s,rfl,w86,w19,w20,us20,hE,hp⟩
 dsimp only at hm
 refine aG (aB ?_)
 refine S hE 1 rfl fun a hE=>V hE hp rfl (xf hE vY rfl rfl) fun a hE=>?_
 refine dW (wk0 rfl) rfl hE hp rfl rfl rfl 1 rfl bG.size_ rfl (cO ⟨rfl,trivial⟩) [(Iv b4s.2.2.1),w19,w20,(Iv b4s.1)] rfl ?_
 intro w hp
 have hp:=r6 hp
 refine aC (aG ?_)
 refine aB (V hE hp rfl (aX rfl hE rfl (fun w hw=>eY (cs:=[(Iv b4s.2.2.1),w19,w20,(Iv b4s.1)]) eH (Hp.cN 1 rfl 0 _ (bW rfl) w hw))) fun a hE=>?_)
 refine dW (wk0 rfl) rfl hE hp rfl rfl rfl 4 rfl eH.size_ rfl (cO ⟨rfl,(aA.one hp 2 rfl),(bV.one hp 3 rfl),rfl,trivial⟩) [(Iv b4s.2.2.1),w19,w20,(Iv b4s.1)] rfl ?_
 intro w hp
 have hp:=r6 hp
 refine S hE 1 rfl fun a hE=>aC (dC ?_)
 obtain rfl:=oj hm
 exact retct hE rfl rfl rfl (uT (cs:=[(Iv b4s.2.2.1),w19,w20,(Iv b4s.1)]) eH (Hp.cN 4 rfl 0 _ (bW rfl) _ hp)) ⟨_,rfl,_,_,_,rfl,(((((((hp.get 5 rfl).drop).get 4 rfl).drop).get 1 rfl).drop).drop)⟩
end Go.Proofs.Ytpkhmndpeipfmaa

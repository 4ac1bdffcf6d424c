/- The code goes as its model: assessor/assessorlaw28.SolverCounts. (Printed by wip/sp/gen.py.) -/
import Derived.Test.YtpkhmndpeipfmaaKUnT
import Derived.Test.YtpkhmndpeipfmaaKUn6
import Derived.Test.YtpkhmndpeipfmaaKUn20
import Derived.Test.YtpkhmndpeipfmaaKUn3
import Derived.Test.YtpkhmndpeipfmaaKUn2
import Derived.Test.YtpkhmndpeipfmaaKUn4
import Derived.Lib.ItoaNum
import Derived.Test.YtpkhmndpeipfmaaKUn5
set_option linter.unusedVariables false
set_option linter.unusedSimpArgs false
set_option maxRecDepth 100000
set_option maxHeartbeats 4000000
namespace Go.Proofs.Ytpkhmndpeipfmaa
open Go.RowKit
theorem c_assessorlaw28_SolverCounts {Z:World} {ρ:PH} {L:List bZ} {w:World} (p0:Formula) (aH:Value) (bI:bW ρ aH p0.clauses) (hp:Hp Z ρ (L) w) (r:Bool) (hm:lJ p0=some r):
  Calls Try.prog 7 #[(.agg #[(Iv p0.vars),aH])] w (Ret fun v w'=>v=(.bool r)∧Hp Z ρ (L) w'):=by
 refine enter (N:=71) Try.func7 rfl rfl [(0,(.agg #[(Iv p0.vars),aH]))] rfl (bM ⟨rfl,trivial⟩) fun a hE=>?_
 unfold lJ at hm
 refine aG (aB ?_)
 refine rO (wk0 rfl) rfl rfl hE hp rfl (v:=(.agg #[(Iv p0.vars),aH])) rfl ?_
 intro a w b1 hE hp
 have hp:=r1 hp
 refine S hE 1 rfl fun a hE=>aC (aG ?_)
 refine aG (aB ?_)
 obtain⟨x1,ex1,hm⟩:=bnd hm
 refine Cl hE rfl rfl ent10 (vS hp x1 ex1) trivial fun v a w hR hE=>?_
 obtain⟨rfl,hp⟩:=hR
 have hp:=r1 hp
 refine S hE 1 rfl fun a hE=>aC ?_
 refine dK hE rfl (fun hc1=>?_) (fun hc1=>?_)
 ·replace hm:=(it hc1).symm.trans hm
  refine aG (aB ?_)
  refine S hE 1 rfl fun a hE=>aC (dE ?_)
  obtain rfl:=oj hm
  exact iH hE rfl rfl ⟨_,rfl,rfl,(hp.drop)⟩
 replace hm:=(ie hc1).symm.trans hm
 refine bP (aG ?_)
 refine aG (aB ?_)
 refine V hE hp rfl (bD rfl hE rfl (fun w hw=>gB (cs:=[(Iv p0.vars),aH]) fC (Hp.cN 0 rfl 0 _ (bV rfl) w hw))) fun a hE=>?_
 obtain⟨x2,ex2,hm⟩:=bnd hm
 refine Cl hE rfl rfl ent11 (S9 p0 aH bI 5 12 hp x2 ex2) ⟨rfl,rfl,rfl,trivial⟩ fun v a w hR hE=>?_
 obtain⟨rfl,hp⟩:=hR
 have hp:=r1 hp
 refine S hE 2 rfl fun a hE=>?_
 obtain⟨m1,hg1,hm⟩:=bnd hm
 refine lZ [_,_,_,_] (fun a w=>Env 71 [(19,(.bool m1)),(1,(Pv b1 0))] a∧Hp Z ρ (Pt b1 (.cells #[(Iv p0.vars),aH] 24 (0,0))::L) w) ?_ ?_
 ·rcases Bool.eq_false_or_eq_true (!x2) with hc2|hc2
  ·
   replace hg1:=(it hc2).symm.trans hg1
   refine Gk hE hc2 rfl fun a hE=>Gk hE hc2 rfl fun a hE=>Gk hE hc2 rfl fun a hE=>pk1 hE hc2 rfl rfl rfl rfl fun a hE=>?_
   obtain rfl:=oj hg1
   exact aC ⟨hE.cut ⟨rfl,rfl,trivial⟩,hp⟩
  replace hg1:=(ie hc2).symm.trans hg1
  refine G hE hp hc2 rfl (bD rfl hE rfl (fun w hw=>gB (cs:=[(Iv p0.vars),aH]) fC (Hp.cN 0 rfl 0 _ (bV rfl) w hw))) fun a hE=>?_
  obtain⟨x3,ex3,hg1⟩:=bnd hg1
  refine Cg hE hc2 rfl rfl ent19 (zH p0 aH bI hp x3 ex3) ⟨rfl,trivial⟩ fun v a w hR hE=>?_
  obtain⟨rfl,hp⟩:=hR
  have hp:=r1 hp
  refine Gs hE hc2 rfl rfl fun a hE=>pk0 hE hc2 rfl rfl rfl rfl fun a hE=>?_
  obtain rfl:=oj hg1
  exact aC ⟨hE.cut ⟨rfl,rfl,trivial⟩,hp⟩
 rintro a w ⟨hE,hp⟩
 refine aC ?_
 refine dK hE rfl (fun hc3=>?_) (fun hc3=>?_)
 ·replace hm:=(it hc3).symm.trans hm
  refine aG (aB ?_)
  refine S hE 1 rfl fun a hE=>aC (dE ?_)
  obtain rfl:=oj hm
  exact iH hE rfl rfl ⟨_,rfl,rfl,(hp.drop)⟩
 replace hm:=(ie hc3).symm.trans hm
 refine bP (aG ?_)
 have hp:=hp.drew
 refine jS ([([],At0 Z ρ),([],At1 Z ρ (Pt b1 (.cells #[(Iv p0.vars),aH] 24 (0,0))))]:Facts) (fun a w=>∃y2:Nat,Env 71 [(1,(Pv b1 0)),(3,(Iv 0)),(4,(Pv y2 0))] a∧Hp Z ρ (Pt y2 (.cells #[(Iv p0.vars),aH] 24 (0,0))::Pt b1 (.cells #[(Iv p0.vars),aH] 24 (0,0))::L) w) (by kernel_rfl) ⟨fun _=>⟨_,hp⟩,fun _=>⟨_,(hp.get 0 rfl)⟩,trivial⟩ (fun hS=>?_) ?_
 ·
  generalize w.drew=w at hS hp⊢
  refine T 0 1 hE hS rfl rfl rfl (by kernel_rfl) (fun _=>bD rfl hE rfl (fun w hw=>gB (cs:=[(Iv p0.vars),aH]) fC (Hp.cN 0 rfl 0 _ (bV rfl) w hw))) fun a hE hS=>?_
  refine W1 1 (by kernel_rfl) rfl ?_
  refine qB (wk0 rfl) rfl rfl hE hp rfl [(Iv 0),N0] (fun w=>by simp[Instr.alloc,go_sem]<;>rfl) ?_
  intro a w b3 hE hp
  have hp:=r2 hp
  refine aC (aI ⟨gp0 hp,gp 1 hp rfl,trivial⟩ fun hS=>?_)
  refine Ts [2] hE hS rfl rfl (by kernel_rfl) fun a hE hS=>?_
  refine W1 3 (by kernel_rfl) rfl ?_
  refine dO (wk0 rfl) rfl hE hp rfl rfl rfl 0 rfl fC.size_ rfl (bY ⟨rfl,(bW.one bI),trivial⟩) [(Iv p0.vars),aH] rfl ?_
  intro w hp
  have hp:=r2 hp
  refine aC (aI ⟨gp0 hp,gp 1 hp rfl,trivial⟩ fun hS=>?_)
  exact eG (by kernel_rfl) ⟨_,hE.cut ⟨rfl,rfl,rfl,trivial⟩,hp⟩
 rintro a w ⟨y2,hE,hp⟩
 refine aG ?_
 obtain⟨b4,hc4,hm⟩:=bnd hm
 refine dH (fun a w=>∃s:(Int×(List (List Int))),b4= .brk s∧(∃(ρ1:PH) (xB:Value),ρ.le ρ1∧bW ρ1 xB s.2∧Env 71 [] a∧Hp Z ρ1 (Pt y2 (.cells #[(Iv s.1),xB] 24 (0,0))::Pt b1 (.cells #[(Iv p0.vars),aH] 24 (0,0))::L) w)) ?_ ?_
 ·refine eU hc4 (fun s a w=>∃(ρ1:PH) (xB:Value),ρ.le ρ1∧bW ρ1 xB s.2.2∧Env 71 [(1,(Pv b1 0)),(3,(Iv s.1)),(4,(Pv y2 0))] a∧Hp Z ρ1 (Pt y2 (.cells #[(Iv s.2.1),xB] 24 (0,0))::Pt b1 (.cells #[(Iv p0.vars),aH] 24 (0,0))::L) w) ?_ ?_
  ·exact⟨ρ,_,(PH.le.rf _),bI,hE.cut ⟨rfl,rfl,rfl,trivial⟩,hp⟩
  rintro⟨aW,bU,dJ⟩ st a w ⟨ρ1,xB,hlg1,hc2_1,hE,hp⟩ hl1
  dsimp only at hE hp hlg1 hc2_1 hl1
  unfold jI at hl1
  refine aG (aG ?_)
  refine aB (S hE 2 rfl fun a hE=>?_)
  refine aC ?_
  refine dK hE rfl (fun hc5=>?_) (fun hc5=>?_)
  ·replace hl1:=(it hc5).symm.trans hl1
   refine bP (dF ?_)
   refine aG (aB ?_)
   refine V hE hp rfl (bD rfl hE rfl (fun w hw=>gB (cs:=[(Iv bU),xB]) fC (Hp.cN 0 rfl 0 _ (bV rfl) w hw))) fun a hE=>?_
   obtain⟨x4,ex4,hl1⟩:=bnd hl1
   refine Cl hE rfl rfl ent12 (vG (Formula.mk bU dJ) xB hc2_1 [] N0 (bW.nil _) 65536 hp x4 ex4) ⟨rfl,rfl,rfl,trivial⟩ fun v a w hR hE=>?_
   obtain⟨kK,lV,uQ,rfl,hp⟩:=hR
   have hp:=r4 hp
   refine S hE 3 rfl fun a hE=>?_
   refine qB (wk0 rfl) rfl rfl hE hp rfl [(Iv 0),N0,N0,(Iv 0)] (fun w=>by simp[Instr.alloc,go_sem]<;>rfl) ?_
   intro a w b5 hE hp
   have hp:=r5 hp
   refine dO (wk0 rfl) rfl hE hp rfl rfl rfl 0 rfl fE.size_ rfl (bY ⟨rfl,(aA.one hp 1 rfl),(bT.one hp 2 rfl),rfl,trivial⟩) [(Iv x4.1.kind),kK,lV,(Iv x4.1.conflicts)] rfl ?_
   intro w hp
   have hp:=r5 hp
   refine S hE 1 rfl fun a hE=>aC (aG ?_)
   refine aG (aB ?_)
   refine S hE 3 rfl fun a hE=>?_
   refine lZ [_,_,_,_] (fun a w=>Env 71 [(34,(.bool ((!decide (x4.2=0))||(decide (x4.1.kind=2))))),(1,(Pv b1 0)),(3,(Iv aW)),(4,(Pv y2 0)),(5,(Pv b5 0))] a∧Hp Z ρ1 (Pt b5 (.cells #[(Iv x4.1.kind),kK,lV,(Iv x4.1.conflicts)] 29 (0,0))::aA 3 kK x4.1.model::bT 25 3 lV uQ (x4.1.proof:(List (List Int)))::Pt y2 (.cells #[(Iv bU),xB] 24 (0,0))::Pt b1 (.cells #[(Iv p0.vars),aH] 24 (0,0))::L) w) ?_ ?_
   ·rcases Bool.eq_false_or_eq_true (!decide (x4.2=0)) with hc6|hc6
    ·
     refine Gk hE hc6 rfl fun a hE=>Gk hE hc6 rfl fun a hE=>Gk hE hc6 rfl fun a hE=>pk1 hE hc6 rfl rfl rfl rfl fun a hE=>?_
     have hE:=hE.eqv (v':=(.bool ((!decide (x4.2=0))||(decide (x4.1.kind=2))))) (by rw[hc6];rfl)
     exact aC ⟨hE.cut ⟨rfl,rfl,rfl,rfl,rfl,trivial⟩,hp⟩
    refine G hE hp hc6 rfl (xf hE sU rfl rfl) fun a hE=>G hE hp hc6 rfl (xl hE bG 0 rfl rfl rfl rfl) fun a hE=>Gs hE hc6 rfl rfl fun a hE=>pk0 hE hc6 rfl rfl rfl rfl fun a hE=>?_
    have hE:=hE.eqv (v':=(.bool ((!decide (x4.2=0))||(decide (x4.1.kind=2))))) (by rw[hc6];rfl)
    exact aC ⟨hE.cut ⟨rfl,rfl,rfl,rfl,rfl,trivial⟩,hp⟩
   rintro a w ⟨hE,hp⟩
   refine aC ?_
   refine dK hE rfl (fun hc7=>?_) (fun hc7=>?_)
   ·replace hl1:=(it hc7).symm.trans hl1
    refine aG (aB ?_)
    refine S hE 1 rfl fun a hE=>aC (dE ?_)
    refine⟨_,(oj hl1).symm,fun hb=>?_⟩
    subst hb
    obtain rfl:=oj hm
    exact iH hE rfl rfl ⟨_,rfl,rfl,((((((((((hp.get 4 rfl).drop).get 3 rfl).drop).get 2 rfl).drop).get 1 rfl).drop).drop).less hlg1)⟩
   replace hl1:=(ie hc7).symm.trans hl1
   refine bP (aG ?_)
   refine aG (aB ?_)
   refine V hE hp rfl (xf hE sU rfl rfl) fun a hE=>V hE hp rfl (xl hE bG 0 rfl rfl rfl rfl) fun a hE=>S hE 1 rfl fun a hE=>aC ?_
   refine dK hE rfl (fun hc8=>?_) (fun hc8=>?_)
   ·replace hl1:=(it hc8).symm.trans hl1
    refine aG (aB ?_)
    refine S hE 1 rfl fun a hE=>V hE hp rfl (bD rfl hE rfl (fun w hw=>gB (cs:=[(Iv p0.vars),aH]) fC (Hp.cN 4 rfl 0 _ (bV rfl) w hw))) fun a hE=>?_
    obtain⟨x5,ex5,hl1⟩:=bnd hl1
    refine Cl hE rfl rfl ent20 (I5 p0 aH (bW.mono bI hlg1) hp x5 ex5) ⟨rfl,trivial⟩ fun v a w hR hE=>?_
    obtain⟨rfl,hp⟩:=hR
    have hp:=r5 hp
    refine S hE 2 rfl fun a hE=>?_
    obtain⟨m2,hg2,hl1⟩:=bnd hl1
    refine lZ [_,_,_,_,_] (fun a w=>Env 71 [(47,(.bool m2))] a∧Hp Z ρ1 (Pt b5 (.cells #[(Iv x4.1.kind),kK,lV,(Iv x4.1.conflicts)] 29 (0,0))::aA 3 kK x4.1.model::bT 25 3 lV uQ (x4.1.proof:(List (List Int)))::Pt y2 (.cells #[(Iv bU),xB] 24 (0,0))::Pt b1 (.cells #[(Iv p0.vars),aH] 24 (0,0))::L) w) ?_ ?_
    ·rcases Bool.eq_false_or_eq_true (decide (aW=x5)) with hc9|hc9
     ·
      replace hg2:=(it hc9).symm.trans hg2
      refine G hE hp hc9 rfl (bD rfl hE rfl (fun w hw=>gB (cs:=[(Iv bU),xB]) fC (Hp.cN 3 rfl 0 _ (bV rfl) w hw))) fun a hE=>G hE hp hc9 rfl (xf hE fldty29_2 rfl rfl) fun a hE=>G hE hp hc9 rfl (xl hE jD 0 rfl rfl rfl rfl) fun a hE=>?_
      obtain⟨k1,k1a,k1d,k1h⟩:=(hp.get 2 rfl).lend
      obtain⟨x6,ex6,hg2⟩:=bnd hg2
      refine Cg hE hc9 rfl rfl ent21 (zS (Formula.mk bU dJ) xB (bW.mono hc2_1 (PH.le_un _ _)) x4.1.proof lV (bT.ro k1d k1a) k1h x6 ex6) ⟨rfl,rfl,trivial⟩ fun v a w hR hE=>?_
      obtain⟨rfl,hp⟩:=hR
      have hp:=Hp.back k1a k1d hp
      have hp:=r5 hp
      refine pk1 hE hc9 rfl rfl rfl rfl fun a hE=>?_
      obtain rfl:=oj hg2
      exact aC ⟨hE.cut ⟨rfl,trivial⟩,(((((hp.get 4 rfl).get 4 rfl).get 2 rfl).get 4 rfl).get 4 rfl)⟩
     replace hg2:=(ie hc9).symm.trans hg2
     refine Gk hE hc9 rfl fun a hE=>Gk hE hc9 rfl fun a hE=>Gk hE hc9 rfl fun a hE=>Gk hE hc9 rfl fun a hE=>pk0 hE hc9 rfl rfl rfl rfl fun a hE=>?_
     obtain rfl:=oj hg2
     exact aC ⟨hE.cut ⟨rfl,trivial⟩,hp⟩
    rintro a w ⟨hE,hp⟩
    refine S hE 1 rfl fun a hE=>aC (dE ?_)
    refine⟨_,(oj hl1).symm,fun hb=>?_⟩
    subst hb
    obtain rfl:=oj hm
    exact iH hE rfl rfl ⟨_,rfl,rfl,((((((((((hp.get 4 rfl).drop).get 3 rfl).drop).get 2 rfl).drop).get 1 rfl).drop).drop).less hlg1)⟩
   replace hl1:=(ie hc8).symm.trans hl1
   refine bP (aG ?_)
   refine aG (aB ?_)
   refine V hE hp rfl (bD rfl hE rfl (fun w hw=>gB (cs:=[(Iv p0.vars),aH]) fC (Hp.cN 4 rfl 0 _ (bV rfl) w hw))) fun a hE=>V hE hp rfl (xf hE vX rfl rfl) fun a hE=>V hE hp rfl (xl hE bJ 0 rfl rfl rfl rfl) fun a hE=>?_
   obtain⟨k2,k2a,k2d,k2h⟩:=(hp.get 1 rfl).lend
   obtain⟨x7,ex7,hl1⟩:=bnd hl1
   refine Cl hE rfl rfl ent22 (c_cnf_Holds p0 aH (bW.mono (bW.mono bI hlg1) (PH.le_un _ _)) x4.1.model kK (aA.ro k2d k2a) k2h x7 ex7) ⟨rfl,rfl,trivial⟩ fun v a w hR hE=>?_
   obtain⟨rfl,hp⟩:=hR
   have hp:=Hp.back k2a k2d hp
   have hp:=r5 hp
   refine S hE 1 rfl fun a hE=>aC ?_
   refine dK hE rfl (fun hc10=>?_) (fun hc10=>?_)
   ·replace hl1:=(it hc10).symm.trans hl1
    refine aG (aB ?_)
    refine S hE 1 rfl fun a hE=>aC (dE ?_)
    refine⟨_,(oj hl1).symm,fun hb=>?_⟩
    subst hb
    obtain rfl:=oj hm
    exact iH hE rfl rfl ⟨_,rfl,rfl,((((((((((hp.get 4 rfl).drop).get 3 rfl).drop).get 2 rfl).drop).get 1 rfl).drop).drop).less hlg1)⟩
   replace hl1:=(ie hc10).symm.trans hl1
   refine bP (aG ?_)
   refine aB (S hE 1 rfl fun a hE=>?_)
   refine aC (aG ?_)
   refine aG (aB ?_)
   refine V hE hp rfl (xf hE vX rfl rfl) fun a hE=>V hE hp rfl (xl hE bJ 1 rfl rfl rfl rfl) fun a hE=>V hE hp rfl (dL rfl hE rfl (aA.len hp 0 rfl bC)) fun a hE=>S hE 1 rfl fun a hE=>aC ?_
   have hp:=hp.emp (aA.nil (α:=Int) 3)
   have hp:=r6 hp
   obtain⟨b6,hc11,hl1⟩:=bnd hl1
   refine dH (fun a w=>∃(w16:Value),Env 71 [(1,(Pv b1 0)),(3,(Iv aW)),(4,(Pv y2 0)),(7,w16)] a∧Hp Z ρ1 (aA 3 w16 b6::aA 3 kK x4.1.model::Pt b5 (.cells #[(Iv x4.1.kind),kK,lV,(Iv x4.1.conflicts)] 29 (0,0))::bT 25 3 lV uQ (x4.1.proof:(List (List Int)))::Pt y2 (.cells #[(Iv bU),xB] 24 (0,0))::Pt b1 (.cells #[(Iv p0.vars),aH] 24 (0,0))::L) w) ?_ ?_
   ·refine eU hc11 (fun s a w=>∃(w16:Value),Env 71 [(1,(Pv b1 0)),(3,(Iv aW)),(4,(Pv y2 0)),(7,w16),(54,kK),(55,(Iv (x4.1.model.length:Int))),(56,(Iv s.1))] a∧Hp Z ρ1 (aA 3 w16 s.2::aA 3 kK x4.1.model::Pt b5 (.cells #[(Iv x4.1.kind),kK,lV,(Iv x4.1.conflicts)] 29 (0,0))::bT 25 3 lV uQ (x4.1.proof:(List (List Int)))::Pt y2 (.cells #[(Iv bU),xB] 24 (0,0))::Pt b1 (.cells #[(Iv p0.vars),aH] 24 (0,0))::L) w) ?_ ?_
    ·exact⟨_,hE.cut ⟨rfl,rfl,rfl,rfl,rfl,rfl,rfl,trivial⟩,hp⟩
    rintro⟨dG,fB⟩ st a w ⟨w16,hE,hp⟩ hl2
    dsimp only at hE hp hl2
    unfold fO at hl2
    refine aG (aB ?_)
    refine S hE 1 rfl fun a hE=>aC (aG ?_)
    refine dK hE rfl (fun hc12=>?_) (fun hc12=>?_)
    ·replace hl2:=(it hc12).symm.trans hl2
     refine bP (aG ?_)
     refine dF (aG ?_)
     refine aB ?_
     obtain⟨x8,ex8,hl2⟩:=bnd hl2
     obtain⟨b7,b7o,b7r,b7v,b7f⟩:=aA.at hp 1 rfl bC ex8
     refine V hE hp rfl (aU rfl hE rfl rfl b7r) fun a hE=>V hE hp rfl (bD rfl hE rfl (fun w hw=>bH bG (b7f 0 _ rfl _ _ w (hw.get 1 rfl)))) fun a hE=>S hE 1 rfl fun a hE=>aC (aB ?_)
     refine S hE 2 rfl fun a hE=>?_
     obtain⟨x9,ex9,hl2⟩:=bnd hl2
     refine V hE hp rfl (mX rfl hE rfl (aZ ex9)) fun a hE=>?_
     refine iP (wk0 rfl) rfl rfl hE hp rfl [(0,(Iv x9))] ⟨⟨rfl,rfl⟩,trivial⟩ [(Iv x9)] 3 (fun w=>by simp[Instr.buildSlice,Instr.fill,Value.cells,go_sem]) ?_
     intro a w b8 hE hp
     have hp:=r7 hp
     obtain⟨x10,ex10,hl2⟩:=bnd hl2
     refine lY (wk0 rfl) rfl rfl hE hp rfl bC rfl rfl 1 rfl rfl (l2:=[x9]) rfl (fun j u hj=>by have:=Hp.cN 0 rfl 0 _ (bV rfl) w hp j u hj;simpa using this) ex10 ?_
     intro v1 a w hE hp
     have hp:=r7 hp
     refine S hE 1 rfl fun a hE=>aC ?_
     have hE:=hE.cut (E':=[(1,(Pv b1 0)),(3,(Iv aW)),(4,(Pv y2 0)),(7,v1),(54,kK),(55,(Iv (x4.1.model.length:Int))),(56,(Iv dG))]) ⟨rfl,rfl,rfl,rfl,rfl,rfl,rfl,trivial⟩
     refine aB ?_
     obtain⟨x11,ex11,hl2⟩:=bnd hl2
     refine V hE hp rfl (dD rfl hE rfl rfl (aZ ex11)) fun a hE=>S hE 1 rfl fun a hE=>aC ?_
     exact⟨_,(oj hl2).symm,_,hE.cut ⟨rfl,rfl,rfl,rfl,rfl,rfl,rfl,trivial⟩,(hp.drop)⟩
    replace hl2:=(ie hc12).symm.trans hl2
    refine dR ?_
    refine⟨_,(oj hl2).symm,fun hbb=>?_⟩
    subst hbb
    exact⟨_,hE.cut ⟨rfl,rfl,rfl,rfl,trivial⟩,hp⟩
   rintro a w ⟨w16,hE,hp⟩
   refine aB (S hE 1 rfl fun a hE=>?_)
   obtain⟨x12,ex12,hl1⟩:=bnd hl1
   refine V hE hp rfl (dD rfl hE rfl rfl (aZ ex12)) fun a hE=>V hE hp rfl (bD rfl hE rfl (fun w hw=>gB (cs:=[(Iv bU),xB]) fC (Hp.cN 4 rfl 0 _ (bV rfl) w hw))) fun a hE=>S hE 1 rfl fun a hE=>?_
   obtain⟨k3,k3a,k3d,hp⟩:=(hp.get 0 rfl).lend
   have f1:bW (ρ1.un k3) w16 b6:=aA.ro k3d k3a
   have hp:=r5 hp
   obtain⟨x13,ex13,hl1⟩:=bnd hl1
   refine Cl hE rfl rfl ent23 (wS (Formula.mk bU dJ) xB (bW.mono hc2_1 (PH.le_un _ k3)) b6 w16 f1 hp x13 ex13) ⟨rfl,rfl,trivial⟩ fun v a w hR hE=>?_
   obtain⟨ρ2,vr9_clauses,hle1,rfl,hr9_clauses,hp⟩:=hR
   have hp:=r5 hp
   refine S hE 1 rfl fun a hE=>?_
   refine dO (wk0 rfl) rfl hE hp rfl rfl rfl 3 rfl fC.size_ rfl (bY ⟨rfl,(bW.one hr9_clauses),trivial⟩) [(Iv x13.vars),vr9_clauses] rfl ?_
   intro w hp
   have hp:=r5 hp
   refine aC ?_
   exact⟨_,(oj hl1).symm,ρ2,_,(PH.le.tr (PH.le.tr hlg1 (PH.le_un _ k3)) hle1),hr9_clauses,hE.cut ⟨rfl,rfl,rfl,trivial⟩,(((((hp.get 2 rfl).drop).get 1 rfl).drop).drop)⟩
  replace hl1:=(ie hc5).symm.trans hl1
  refine dR ?_
  refine⟨_,(oj hl1).symm,fun hbb=>?_⟩
  exact⟨_,hbb.symm,ρ1,_,hlg1,hc2_1,hE.cut trivial,hp⟩
 rintro a w ⟨b4s,rfl,ρ1,xB,hlg1,hc2_1,hE,hp⟩
 dsimp only at hm
 refine aG (aB ?_)
 refine S hE 1 rfl fun a hE=>aC (dE ?_)
 obtain rfl:=oj hm
 exact iH hE rfl rfl ⟨_,rfl,rfl,((((hp.get 1 rfl).drop).drop).less hlg1)⟩
open Vl (vl)
section
variable {β:Type}
end
def MapU {β:Type} [Vl β] (b:Nat) (l:List (Int×β)):bZ:=fun h=>∃l',qM b l' h∧l'.Perm l
section
variable {Rn:Option Nat} {P:Program} {ops:Array Oper} {Q:Exit→Act→World→Prop} {rest:List Oper} {o:Oper} {a:Act} {w:World} {Df:List Deferred} {N:Nat} {E:Ent} {d:Nat} {Z:World} {ρ:PH} {L:List bZ}
variable {β:Type} [Vl β] {b:Nat} {l:List (Int×β)}
theorem MapU.of (h:Hp Z ρ (qM b l::L) w):Hp Z ρ (MapU b l::L) w:=h.imp fun _ k=>⟨l,k,List.Perm.refl _⟩
theorem MapU.shut {l':List (Int×β)} (h:Hp Z ρ (qM b l'::L) w) (hp:l'.Perm l):Hp Z ρ (MapU b l::L) w:=h.imp fun _ k=>⟨l',k,hp⟩
theorem MapU.open_ (h:Hp Z ρ (MapU b l::L) w):∃l',Hp Z ρ (qM b l'::L) w∧l'.Perm l∧(l'.map (·.1)).Nodup:=by
 obtain⟨l',h1⟩:=Hp.ex (A:=fun l' k=>qM b l' k∧l'.Perm l) h
 obtain⟨h2,hp⟩:=Hp.fact (A:=qM b l') h1
 obtain⟨es,clock,_,e⟩:=h2.map
 exact⟨l',h2,hp,e.keys⟩
end
theorem loop_at {σ β:Type} {body:σ→Option (Step σ β)} {b:β} (S:Nat→σ):∀(n:Nat),(∀k,k<n→body (S k)=some (.next (S (k+1))))→body (S n)=some (.done b)→dC body (S 0)=some b
 |0,_,h=>eF h
 |n+1,h1,h2=>by
  rw[gJ (h1 0 (by omega))]
  exact loop_at (fun k=>S (k+1)) n (fun k hk=>h1 (k+1) (by omega)) h2
theorem loop_from {σ β:Type} {body:σ→Option (Step σ β)} {b:β} {s:σ} (S:Nat→σ) (n:Nat) (h0:s=S 0) (h1:∀k,k<n→body (S k)=some (.next (S (k+1)))) (h2:body (S n)=some (.done b)):dC body s=some b:=by
 rw[h0];exact loop_at S n h1 h2
theorem gW {n:Int} (h: -9223372036854775808≤n∧n≤9223372036854775807):inK .i64 n=some n:=inK_ok n h.1 h.2
theorem dA {α:Type} {l:List α} {k:Nat} {a:α} (h:l[k]?=some a):idx l (k:Int)=some a:=by
 unfold idx;rw[if_pos (by omega)];simpa using h
theorem kE {α:Type} {l:List α} {i:Int} {a:α} (h0:0≤i) (h:l[i.toNat]?=some a):idx l i=some a:=by
 unfold idx;rw[if_pos h0,h]
theorem bK {α:Type} {l:List α} {k:Nat} (h:k<l.length):∃a,l[k]?=some a:=⟨_,List.getElem?_eq_getElem h⟩
theorem oV {α:Type} {l m:List α} (h:l.length+m.length≤4294967296):app l m=some (l++m):=by unfold app;rw[if_pos h]
theorem yV {α:Type} {l:List α} {i j:Int} (h0:0≤i) (h1:i≤j) (h2:j≤l.length):sub l i j=some ((l.take j.toNat).drop i.toNat):=by unfold sub;rw[if_pos ⟨h0,h1,h2⟩]
theorem remK_pos {m n:Int} (hm:0≤m) (hn:0<n):remK m n=some (m % n):=by
 unfold remK
 rw[if_pos (by omega),Int.tmod_eq_emod_of_nonneg hm]
theorem quoK_pos {m n:Int} (hm:0≤m) (hn:0<n) (h:m≤9223372036854775807):quoK .i64 m n=some (m / n):=by
 unfold quoK
 have h1:m.tdiv n=m / n:=Int.tdiv_eq_ediv_of_nonneg hm
 have h2:0≤m / n:=Int.ediv_nonneg hm (by omega)
 have h3:m / n≤m:=Int.ediv_le_self n hm
 rw[h1,if_pos ⟨by omega,by rw[IntKind.wrap_i64];omega⟩]
theorem mkc_ok {α:Type} {n c:Int} {z:α} (h:0≤n∧n≤c∧c≤4294967296):mkc n c z=some (List.replicate n.toNat z):=by unfold mkc;rw[if_pos h]
theorem I64.r {n:Int} (h:(Lit.int .i64 n).wf=true): -9223372036854775808≤n∧n≤9223372036854775807:=by
 simp[Lit.wf,IntKind.min,IntKind.max,IntKind.signed,IntKind.bits] at h
 exact⟨by omega,by omega⟩
theorem U8.r {n:Int} (h:(Lit.int .u8 n).wf=true):0≤n∧n≤255:=by
 simp[Lit.wf,IntKind.min,IntKind.max,IntKind.signed,IntKind.bits] at h
 omega
theorem first_or {α:Type} (p:α→Bool):∀(l:List α),(∃k a,l[k]?=some a∧p a=true∧(∀j b,j<k→l[j]?=some b→p b=false)∧l.any p=true∧l.findIdx p=k)∨((∀a∈l,p a=false)∧l.any p=false∧l.findIdx p=l.length)
 | []=>Or.inr ⟨by simp,rfl,rfl⟩
 |x::l=>by
  cases hx:p x with
  |true=>exact Or.inl ⟨0,x,rfl,hx,fun j b hj=>by omega,by simp[hx],by simp[List.findIdx_cons,hx]⟩
  |false=>
   rcases first_or p l with⟨k,a,h1,h2,h3,h4,h5⟩|⟨h1,h2,h3⟩
   ·refine Or.inl ⟨k+1,a,by simpa using h1,h2,fun j b hj hb=>?_,by simp[hx,h4],by simp[List.findIdx_cons,hx,h5]⟩
    cases j with
    |zero=>simp at hb;subst hb;exact hx
    |succ j=>exact h3 j b (by omega) (by simpa using hb)
   refine Or.inr ⟨fun a ha=>?_,by simp[hx,h2],by simp[List.findIdx_cons,hx,h3]⟩
   rcases List.mem_cons.1 ha with rfl|ha
   ·exact hx
   exact h1 a ha
theorem scan_loop {α β:Type} {body:Int→Option (Step Int β)} (l:List α) (p:α→Bool) (hit:Nat→α→β) (miss:β)
  (h1:∀(k:Nat) a,l[k]?=some a→body k=some (if p a=true then .done (hit k a) else .next ((k+1:Nat):Int))) (h2:body (l.length:Int)=some (.done miss)):
  (∃k a,l[k]?=some a∧p a=true∧(∀j b,j<k→l[j]?=some b→p b=false)∧l.any p=true∧l.findIdx p=k∧dC body 0=some (hit k a))∨((∀a∈l,p a=false)∧l.any p=false∧l.findIdx p=l.length∧dC body 0=some miss):=by
 rcases first_or p l with⟨k,a,a1,a2,a3,a4,a5⟩|⟨a1,a2,a3⟩
 ·refine Or.inl ⟨k,a,a1,a2,a3,a4,a5,loop_from (fun j=>(j:Int)) k rfl (fun j hj=>?_) ?_⟩
  ·obtain⟨b,hb⟩:=bK (show j<l.length by have:=(List.getElem?_eq_some_iff.1 a1).1;omega)
   rw[h1 j b hb,a3 j b hj hb];rfl
  rw[h1 k a a1,a2];rfl
 refine Or.inr ⟨a1,a2,a3,loop_from (fun j=>(j:Int)) l.length rfl (fun j hj=>?_) h2⟩
 obtain⟨b,hb⟩:=bK hj
 rw[h1 j b hb,a1 b (List.mem_of_getElem? hb)];rfl
theorem any_loop {α β:Type} {body:Int→Option (Step Int β)} (l:List α) (p:α→Bool) (hit miss:β)
  (h1:∀(k:Nat) a,l[k]?=some a→body k=some (if p a=true then .done hit else .next ((k+1:Nat):Int))) (h2:body (l.length:Int)=some (.done miss)):dC body 0=some (if l.any p=true then hit else miss):=by
 rcases scan_loop l p (fun _ _=>hit) miss h1 h2 with⟨k,a,_,_,_,h,_,e⟩|⟨_,h,_,e⟩
 ·rw[e,h];rfl
 rw[e,h];rfl
theorem same_loop {α β:Type} [DecidableEq α] {body:Int→Option (Step Int β)} {a b:List α} (hl:a.length=b.length) (hit miss:β)
  (h1:∀(k:Nat) x y,a[k]?=some x→b[k]?=some y→body k=some (if x=y then .next ((k+1:Nat):Int) else .done hit)) (h2:body (a.length:Int)=some (.done miss)):dC body 0=some (if a=b then miss else hit):=by
 have hzl:(a.zip b).length=a.length:=by rw[List.length_zip];omega
 have hz:(a.zip b).any (fun p=>decide (p.1≠p.2))=decide (a≠b):=by
  clear h1 h2 hzl
  induction a generalizing b with
  |nil=>cases b with
   |nil=>simp
   |cons y b=>simp at hl
  |cons x a ih=>cases b with
   |nil=>simp at hl
   |cons y b=>
    simp only[List.length_cons,Nat.add_right_cancel_iff] at hl
    simp only[List.zip_cons_cons,List.any_cons,ih hl,ne_eq,List.cons.injEq]
    by_cases hx:x=y<;>by_cases hb:a=b<;>simp[hx,hb]
 have:=any_loop (body:=body) (a.zip b) (fun p=>decide (p.1≠p.2)) hit miss (fun k p hp=>by
  obtain⟨x,y⟩:=p
  have hk:=(List.getElem?_eq_some_iff.1 hp).1
  rw[hzl] at hk
  obtain⟨x',hx⟩:=bK hk
  obtain⟨y',hy⟩:=bK (show k<b.length by omega)
  rw[List.getElem?_zip_eq_some] at hp
  rw[h1 k x y hp.1 hp.2]
  by_cases h:x=y<;>simp[h]) (by rw[hzl];exact h2)
 rw[this,hz]
 by_cases h:a=b<;>simp[h]
theorem D6 {α β γ:Type} {body:Int→Option (Step Int β)} {f:β→Option γ} {r:Option γ} (l:List α) (p:α→Bool) (hit miss:β)
  (h1:∀(k:Nat) a,l[k]?=some a→body k=some (if p a=true then .done hit else .next ((k+1:Nat):Int))) (h2:body (l.length:Int)=some (.done miss)) (hf:f (if l.any p=true then hit else miss)=r):(dC body 0).bind f=r:=by
 rw[any_loop l p hit miss h1 h2];exact hf
theorem bind_same {α β γ:Type} [DecidableEq α] {body:Int→Option (Step Int β)} {f:β→Option γ} {r:Option γ} {a b:List α} (hl:a.length=b.length) (hit miss:β)
  (h1:∀(k:Nat) x y,a[k]?=some x→b[k]?=some y→body k=some (if x=y then .next ((k+1:Nat):Int) else .done hit)) (h2:body (a.length:Int)=some (.done miss)) (hf:f (if a=b then miss else hit)=r):(dC body 0).bind f=r:=by
 rw[same_loop hl hit miss h1 h2];exact hf
theorem yA {α:Type} {l:List α} {k:Nat} {a:α} (h:l[k]?=some a):l.drop k=a::l.drop (k+1):=by
 obtain⟨h1,h2⟩:=List.getElem?_eq_some_iff.1 h
 rw[←h2];exact List.drop_eq_getElem_cons h1
theorem fA {α:Type} {l:List α} {k:Nat} {a:α} (h:l[k]?=some a):l.take (k+1)=l.take k++[a]:=by
 obtain⟨h1,h2⟩:=List.getElem?_eq_some_iff.1 h
 rw[←h2];exact List.take_succ_eq_append_getElem h1
theorem rising_ext {α:Type} {r:α→α→Prop} (irr:∀a,¬r a a) (tr:∀a b c,r a b→r b c→r a c):∀{l m:List α},l.Pairwise r→m.Pairwise r→(∀x,x∈l↔x∈m)→l=m
 | [],[],_,_,_=>rfl
 | [],b::m,_,_,h=>by have:=(h b).2 (List.mem_cons_self ..);simp at this
 |a::l,[],_,_,h=>by have:=(h a).1 (List.mem_cons_self ..);simp at this
 |a::l,b::m,hl,hm,h=>by
  obtain⟨l1,l2⟩:=List.pairwise_cons.1 hl
  obtain⟨m1,m2⟩:=List.pairwise_cons.1 hm
  have e:a=b:=by
   rcases List.mem_cons.1 ((h a).1 (List.mem_cons_self ..)) with e|h1
   ·exact e
   rcases List.mem_cons.1 ((h b).2 (List.mem_cons_self ..)) with e|h2
   ·exact e.symm
   exact absurd (tr _ _ _ (m1 a h1) (l1 b h2)) (irr b)
  subst e
  congr 1
  refine rising_ext irr tr l2 m2 fun x=>?_
  constructor
  ·intro hx
   rcases List.mem_cons.1 ((h x).1 (List.mem_cons_of_mem _ hx)) with e|h1
   ·subst e;exact absurd (l1 x hx) (irr x)
   exact h1
  intro hx
  rcases List.mem_cons.1 ((h x).2 (List.mem_cons_of_mem _ hx)) with e|h1
  ·subst e;exact absurd (m1 x hx) (irr x)
  exact h1
theorem mget_mput {κ β:Type} [DecidableEq κ] (l:List (κ×β)) (k x:κ) (v:β):nR (vM l k v) x=if x=k then some v else nR l x:=by
 induction l with
 |nil=>by_cases h:k=x<;>simp[vM,nR,h,eq_comm]
 |cons p l ih=>
  unfold vM
  by_cases h:p.1=k
  ·rw[if_pos h]
   by_cases hx:x=k
   ·subst hx;simp[nR]
   have h1:¬k=x:=fun e=>hx e.symm
   have h2:¬p.1=x:=fun e=>hx (e.symm.trans h)
   simp[nR,List.find?_cons,hx,h1,h2]
  rw[if_neg h]
  by_cases hx:p.1=x
  ·have h3:¬x=k:=fun e=>h (hx.trans e)
   simp[nR,List.find?_cons,hx,h3]
  unfold nR at ih⊢
  rw[List.find?_cons_of_neg (by simpa using hx),List.find?_cons_of_neg (by simpa using hx)]
  exact ih
def J9 {α τ β:Type} (f:α→τ→Step τ β) (g:τ→β):List α→τ→β
 | [],t=>g t
 |a::l,t=>match f a t with
  | .next t'=>J9 f g l t'
  | .done b=>b
theorem loopL {α τ S β:Type} {body:S→Option (Step S β)} {s0:S} (l:List α) (E:Nat→τ→S) (f:α→τ→Step τ β) (g:τ→β) (I:Nat→τ→Prop) {t0:τ} (hs0:s0=E 0 t0) (h0:I 0 t0)
  (hs:∀k a t,l[k]?=some a→I k t→body (E k t)=some (match f a t with| .next t'=> .next (E (k+1) t')| .done b=> .done b)∧(∀t',f a t= .next t'→I (k+1) t'))
  (he:∀t,I l.length t→body (E l.length t)=some (.done (g t))):dC body s0=some (J9 f g l t0):=by
 have key:∀(m k:Nat) (t:τ),k+m=l.length→I k t→dC body (E k t)=some (J9 f g (l.drop k) t):=by
  intro m
  induction m with
  |zero=>
   intro k t hk hi
   have hk:k=l.length:=by omega
   subst hk
   rw[eF (he t hi),List.drop_length];rfl
  |succ m ih=>
   intro k t hk hi
   obtain⟨a,ha⟩:=bK (show k<l.length by omega)
   obtain⟨h1,h2⟩:=hs k a t ha hi
   rw[yA ha]
   unfold J9
   cases hf:f a t with
   |next t'=>
    rw[hf] at h1
    rw[gJ h1]
    exact ih (k+1) t' (by omega) (h2 t' hf)
   |done b=>
    rw[hf] at h1
    exact eF h1
 rw[hs0]
 simpa using key l.length 0 t0 (by omega) h0
theorem uA {τ S β:Type} {body:S→Option (Step S β)} {s0:S} (n:Nat) (E:Nat→τ→S) (I:Nat→τ→Prop) (Post:β→Prop) {t0:τ} (hs0:s0=E 0 t0) (h0:I 0 t0)
  (hs:∀k t,k<n→I k t→(∃t',body (E k t)=some (.next (E (k+1) t'))∧I (k+1) t')∨(∃b,body (E k t)=some (.done b)∧Post b))
  (he:∀t,I n t→∃b,body (E n t)=some (.done b)∧Post b):∃b,dC body s0=some b∧Post b:=by
 have key:∀(m k:Nat) (t:τ),k+m=n→I k t→∃b,dC body (E k t)=some b∧Post b:=by
  intro m
  induction m with
  |zero=>
   intro k t hk hi
   obtain rfl:k=n:=by omega
   obtain⟨b,h1,h2⟩:=he t hi
   exact⟨b,eF h1,h2⟩
  |succ m ih=>
   intro k t hk hi
   rcases hs k t (by omega) hi with⟨t',h1,h2⟩|⟨b,h1,h2⟩
   ·obtain⟨b,h3,h4⟩:=ih (k+1) t' (by omega) h2
    exact⟨b,by rw[gJ h1];exact h3,h4⟩
   exact⟨b,eF h1,h2⟩
 rw[hs0]
 exact key n 0 t0 (by omega) h0
theorem bsm {α β:Type} (a:α) (f:α→Option β):(some a).bind f=f a:=Eq.trans (congrArg (fun x=>Option.bind x f) (Eq.refl (some a))) rfl
theorem dB {α:Type} {l:List α} {k:Nat} {a:α} (h:l[k]?=some a):k<l.length:=(List.getElem?_eq_some_iff.1 h).1
theorem bQ {α:Type} {l:List α} {k:Nat} {a:α} (h:l[k]?=some a):a∈l:=List.mem_of_getElem? h
theorem jA {k:Nat} {n:Nat} (h:k<n) (hn:n≤9223372036854775807):inK .i64 ((k:Int)+1)=some ((k+1:Nat):Int):=by
 rw[gW ⟨by omega,by omega⟩];rfl
theorem oM {n m:Int} (e:n=m) (h: -9223372036854775808≤m∧m≤9223372036854775807):inK .i64 n=some m:=by rw[e];exact gW h
theorem ltB {k n:Nat} (h:k<n):(decide ((k:Int)<(n:Int)))=true:=by simpa using h
theorem rY {n:Nat}:¬(decide ((n:Int)<(n:Int)))=true:=by simp
theorem jP (l:Int):0≤vr l:=by unfold vr;omega
theorem lL (l:Int):vr (-l)=vr l:=by unfold vr;omega
theorem H6 (l:Int):l=vr l∨l= -vr l:=by unfold vr;omega
theorem qC {l:Int}:vr l=0↔l=0:=by unfold vr;omega
theorem vr_eq {l m:Int}:vr l=vr m↔l=m∨l= -m:=by unfold vr;omega
theorem oI {l v:Int}:vr l≤v↔ -v≤l∧l≤v:=by unfold vr;omega
def clF (v:Int):Int→List Int→Bool
 |_,[]=>true
 |last,l::r=>decide (-v≤l)&&decide (l≤v)&&decide (last<vr l)&&clF v (vr l) r
theorem var_ok {l:Int} (h: -9223372036854775807≤l∧l≤9223372036854775807):pG l=some (vr l):=by
 unfold pG;rw[gW (by omega)];rfl
theorem rvar_ok {l:Int} (h: -9223372036854775807≤l∧l≤9223372036854775807):gG l=some (vr l):=by
 unfold gG
 by_cases h0:l<0
 ·rw[if_pos (by simpa using h0),gW (by omega)]
  simp only[bsm];congr 1;unfold vr;omega
 rw[if_neg (by simpa using h0)];congr 1;unfold vr;omega
def stCl (v l last:Int):Step Int (Out Unit Bool):=if((decide (l< -v))||(decide (v<l))||(decide (vr l≤last)))=true then Step.done (Out.ret false) else Step.next (vr l)
theorem cnf_normal {c:List Int} {v:Int} (hv:0≤v∧v≤1099511627776) (hc:c.length≤9223372036854775807):vK c v=some (clF v 0 c):=by
 unfold vK
 have h:=loopL (body:=fun s:Int×Int=>qP c v s.1 s.2) (s0:=((0:Int),(0:Int))) c (fun k t=>(t,(k:Int)))
  (stCl v) (fun _=>Out.brk ()) (fun _ _=>True) (t0:=(0:Int)) rfl trivial ?_ ?_
 ·rw[h]
  simp only[bsm]
  generalize (0:Int)=t
  clear h
  induction c generalizing t with
  |nil=>simp[J9,clF]
  |cons l r ih=>
   have ih:=ih (by simp only[List.length_cons] at hc;omega)
   unfold J9 stCl clF
   by_cases hb:((decide (l< -v))||(decide (v<l))||(decide (vr l≤t)))=true
   ·rw[if_pos hb]
    simp only[Bool.or_eq_true,decide_eq_true_eq] at hb
    have:(decide (-v≤l)&&decide (l≤v)&&decide (t<vr l))=false:=by
     simp only[Bool.and_eq_false_iff,decide_eq_false_iff_not];omega
    simp[this]
   rw[if_neg hb]
   simp only[Bool.or_eq_true,decide_eq_true_eq,not_or] at hb
   have:(decide (-v≤l)&&decide (l≤v)&&decide (t<vr l))=true:=by
    simp only[Bool.and_eq_true,decide_eq_true_eq];omega
   rw[this,Bool.true_and]
   exact ih (vr l)
 ·intro k a t hk _
  refine⟨?_,fun _ _=>trivial⟩
  simp only[qP,stCl]
  rw[if_pos (ltB (dB hk)),dA hk]
  simp only[bsm]
  rw[gW (by omega)]
  simp only[bsm,Int.zero_sub]
  by_cases h1:(decide (a< -v)||decide (v<a))=true
  ·simp[h1]
  rw[if_neg h1]
  simp only[Bool.or_eq_true,decide_eq_true_eq,not_or] at h1
  rw[var_ok (by omega)]
  have h1':(decide (a< -v)||decide (v<a))=false:=by simp;omega
  simp only[bsm,h1',Bool.false_or]
  by_cases h2:vr a≤t
  ·simp[h2]
  simp[h2,jA (dB hk) hc]
 intro t _
 simp only[qP]
 rw[if_neg rY]
theorem in1:inK .i64 1=some 1:=gW ⟨by decide,by decide⟩
theorem runL_clF {c:List Int} {v t:Int} (ht:0≤t):(match J9 (stCl v) (fun _=>(Out.brk ():Out Unit Bool)) c t with| .brk _=>true| .ret r=>r)=clF v t c:=by
 induction c generalizing t with
 |nil=>simp[J9,clF]
 |cons l r ih=>
  unfold J9 stCl clF
  by_cases hb:((decide (l< -v))||(decide (v<l))||(decide (vr l≤t)))=true
  ·rw[if_pos hb]
   simp only[Bool.or_eq_true,decide_eq_true_eq] at hb
   have:(decide (-v≤l)&&decide (l≤v)&&decide (t<vr l))=false:=by
    simp only[Bool.and_eq_false_iff,decide_eq_false_iff_not];omega
   simp[this]
  rw[if_neg hb]
  simp only[Bool.or_eq_true,decide_eq_true_eq,not_or] at hb
  have:(decide (-v≤l)&&decide (l≤v)&&decide (t<vr l))=true:=by
   simp only[Bool.and_eq_true,decide_eq_true_eq];omega
  rw[this,Bool.true_and]
  exact ih (jP l)
theorem ref_isClause {c:List Int} {v:Int} (hv:0≤v∧v≤1099511627776) (hc:c.length≤9223372036854775807):lG c v=some (clF v 0 c):=by
 unfold lG
 have h:=loopL (body:=fun s:Int=>jC c v s) (s0:=(0:Int)) c (fun k t=>(k:Int))
  (stCl v) (fun _=>Out.brk ())
  (fun k t=>(k=0∧t=0)∨(0<k∧∃b,c[k-1]?=some b∧t=vr b∧ -v≤b∧b≤v)) (t0:=(0:Int)) rfl (Or.inl ⟨rfl,rfl⟩) ?_ ?_
 ·rw[h]
  simp only[bsm]
  rw[←runL_clF (c:=c) (v:=v) (t:=0) (Int.le_refl 0)]
  generalize J9 (stCl v) (fun _=>Out.brk ()) c 0=o
  cases o<;>rfl
 ·intro k a t hk hI
  refine⟨?_,fun t' ht'=>?_⟩
  ·simp only[jC,stCl]
   rw[if_pos (ltB (dB hk)),dA hk]
   simp only[bsm]
   rw[gW (show -9223372036854775808≤0-v∧0-v≤9223372036854775807 by omega)]
   have ht:0≤t:=by
    rcases hI with⟨_,rfl⟩|⟨_,b,_,rfl,_⟩
    ·omega
    exact jP b
   by_cases h0:a=0
   ·have:vr a≤t:=by rw[qC.2 h0];exact ht
    simp[h0]
    rw[h0] at this;simp[this]
   by_cases h1:a< -v
   ·simp[h0,h1]
   by_cases h2:v<a
   ·simp[h0,h1,h2]
   have h3:(decide (a< -v)||decide (v<a))=false:=by simp;omega
   rcases hI with⟨rfl,rfl⟩|⟨hk0,b,hb,rfl,hb1,hb2⟩
   ·have:¬vr a≤0:=fun h=>h0 (qC.1 (by have:=jP a;omega))
    simp[h0,h1,h2,this,in1]
   have e1:inK .i64 ((k:Int)-1)=some ((k-1:Nat):Int):=by
    rw[gW ⟨by omega,by have:=dB hk;omega⟩];congr 1;omega
   rw[rvar_ok (by omega)]
   simp only[bsm]
   simp[h0,h1,h2,show 0<k from hk0,e1,dA hb,rvar_ok (show -9223372036854775807≤b∧b≤9223372036854775807 by omega),jA (dB hk) hc]
   by_cases h4:vr a≤vr b
   ·simp[h4]
   simp[h4]
  refine Or.inr ⟨by omega,a,by simpa using hk,?_⟩
  unfold stCl at ht'
  by_cases hb:((decide (a< -v))||(decide (v<a))||(decide (vr a≤t)))=true
  ·rw[if_pos hb] at ht';cases ht'
  rw[if_neg hb] at ht'
  simp only[Bool.or_eq_true,decide_eq_true_eq,not_or] at hb
  exact⟨(Step.next.inj ht').symm,by omega,by omega⟩
 intro t _
 simp only[jC]
 rw[if_neg rY]
def iV (f:Formula):Bool:=decide (0≤f.vars)&&decide (f.vars≤65536)&&decide (f.clauses.length≤262144)&&f.clauses.all (clF f.vars 0)
def FLen (cs:List (List Int)):Prop:=cs.length≤9223372036854775807∧∀c∈cs,c.length≤9223372036854775807
theorem wR {α:Type} (p:α→Bool) (l:List α):(if l.any (fun a=> !p a)=true then(Out.ret false:Out Unit Bool) else Out.brk ())=(if l.all p=true then Out.brk () else Out.ret false):=by
 have:l.any (fun a=> !p a)= !l.all p:=by simp[List.all_eq_not_any_not]
 rw[this];cases l.all p<;>rfl
theorem validB_pre (f:Formula) (hp:¬(((decide (f.vars<0))||(decide (65536<f.vars)))||(decide (262144<(f.clauses.length:Int))))=true):iV f=f.clauses.all (clF f.vars 0):=by
 simp only[Bool.or_eq_true,decide_eq_true_eq,not_or] at hp
 unfold iV
 have:(decide (0≤f.vars)&&decide (f.vars≤65536)&&decide (f.clauses.length≤262144))=true:=by simp only[Bool.and_eq_true,decide_eq_true_eq];omega
 rw[this,Bool.true_and]
theorem validB_no (f:Formula) (hp:(((decide (f.vars<0))||(decide (65536<f.vars)))||(decide (262144<(f.clauses.length:Int))))=true):iV f=false:=by
 simp only[Bool.or_eq_true,decide_eq_true_eq] at hp
 unfold iV
 have:(decide (0≤f.vars)&&decide (f.vars≤65536)&&decide (f.clauses.length≤262144))=false:=by
  simp only[Bool.and_eq_false_iff,decide_eq_false_iff_not];omega
 rw[this,Bool.false_and]
theorem aA0 {f:Formula} (hl:FLen f.clauses):qZ f=some (iV f):=by
 unfold qZ
 by_cases hp:(((decide (f.vars<0))||(decide (65536<f.vars)))||(decide (262144<(f.clauses.length:Int))))=true
 ·rw[if_pos hp,validB_no f hp]
 rw[if_neg hp,validB_pre f hp]
 have hp':=hp
 simp only[Bool.or_eq_true,decide_eq_true_eq,not_or] at hp'
 refine D6 f.clauses (fun c=> !clF f.vars 0 c) (Out.ret false) (Out.brk ()) ?_ ?_ ?_
 ·intro k a hk
  simp only[uH]
  rw[if_pos (ltB (dB hk)),dA hk]
  simp only[bsm]
  rw[cnf_normal ⟨by omega,by omega⟩ (hl.2 a (bQ hk)),jA (dB hk) hl.1]
  cases clF f.vars 0 a<;>rfl
 ·simp only[uH]
  rw[if_neg rY]
 rw[wR]
 cases f.clauses.all (clF f.vars 0)<;>rfl
theorem ref_valid {f:Formula} (hl:FLen f.clauses):nJ f=some (iV f):=by
 unfold nJ
 by_cases hp:(((decide (f.vars<0))||(decide (65536<f.vars)))||(decide (262144<(f.clauses.length:Int))))=true
 ·rw[if_pos hp,validB_no f hp]
 rw[if_neg hp,validB_pre f hp]
 have hp':=hp
 simp only[Bool.or_eq_true,decide_eq_true_eq,not_or] at hp'
 refine D6 f.clauses (fun c=> !clF f.vars 0 c) (Out.ret false) (Out.brk ()) ?_ ?_ ?_
 ·intro k a hk
  simp only[nD]
  rw[if_pos (ltB (dB hk)),dA hk]
  simp only[bsm]
  rw[ref_isClause ⟨by omega,by omega⟩ (hl.2 a (bQ hk)),jA (dB hk) hl.1]
  cases clF f.vars 0 a<;>rfl
 ·simp only[nD]
  rw[if_neg rY]
 rw[wR]
 cases f.clauses.all (clF f.vars 0)<;>rfl
theorem lists_equal (a b:List Int) (ha:a.length≤9223372036854775807):lT a b=some (decide (a=b)):=by
 unfold lT
 by_cases hl:a.length=b.length
 ·rw[if_neg (by simp[hl])]
  refine bind_same hl (Out.ret false) (Out.brk ()) ?_ ?_ ?_
  ·intro k x y hx hy
   simp only[lX]
   rw[if_pos (ltB (dB hx)),dA hx,dA hy]
   simp only[bsm]
   rw[jA (dB hx) ha]
   by_cases h:x=y<;>simp[h]
  ·simp only[lX]
   rw[if_neg rY]
  by_cases h:a=b<;>simp[h]
 rw[if_pos (by simp;omega)]
 have:a≠b:=fun e=>hl (by rw[e])
 simp[this]
theorem Formula.ext_ {f g:Formula} (h1:f.vars=g.vars) (h2:f.clauses=g.clauses):f=g:=by
 obtain⟨a,b⟩:=f;obtain⟨c,d⟩:=g;simp at h1 h2;rw[h1,h2]
instance:DecidableEq Formula:=fun f g=>if h:f.vars=g.vars∧f.clauses=g.clauses then isTrue (Formula.ext_ h.1 h.2) else isFalse (fun e=>h (by rw[e];exact⟨rfl,rfl⟩))
def smallB (f:Formula) (v n:Int):Bool:=f.clauses.all (fun c=>decide (c.length≤30))&&decide (f.vars≤v)&&decide ((f.clauses.length:Int)≤n)
theorem small_eq (f:Formula) (v n:Int) (hl:f.clauses.length≤9223372036854775807):nI f v n=some (smallB f v n):=by
 unfold nI smallB
 refine D6 f.clauses (fun c=> !decide (c.length≤30)) (Out.ret false) (Out.brk ()) ?_ ?_ ?_
 ·intro k a hk
  simp only[nC]
  rw[if_pos (ltB (dB hk)),dA hk]
  simp only[bsm]
  rw[jA (dB hk) hl]
  by_cases h:a.length≤30
  ·rw[if_neg (by simp;omega)];simp[h]
  rw[if_pos (by simp;omega)];simp[h]
 ·simp only[nC]
  rw[if_neg rY]
 rw[wR]
 cases f.clauses.all (fun c=>decide (c.length≤30))<;>rfl
def mdF:Int→List Int→Bool
 |_,[]=>true
 |i,l::r=>(decide (l=i)||decide (l= -i))&&mdF (i+1) r
def uD (m c:List Int):Bool:=c.any fun l=>decide (m[(vr l-1).toNat]?=some l)
def holdsB (f:Formula) (m:List Int):Bool:=iV f&&decide ((m.length:Int)=f.vars)&&mdF 1 m&&f.clauses.all (uD m)
theorem clF_mem {v:Int}:∀{t:Int} {c:List Int},0≤t→clF v t c=true→∀l∈c,-v≤l∧l≤v∧t<vr l
 |_,[],_,_,l,h=>by simp at h
 |t,x::c,ht,h,l,hl=>by
  unfold clF at h
  simp only[Bool.and_eq_true,decide_eq_true_eq] at h
  rcases List.mem_cons.1 hl with rfl|hl
  ·exact⟨h.1.1.1,h.1.1.2,h.1.2⟩
  have:=clF_mem (jP x) h.2 l hl
  exact⟨this.1,this.2.1,by omega⟩
theorem idx_vr {α:Type} {m:List α} {l:Int} (h0:0<vr l) (h:vr l≤m.length):∃x,m[(vr l-1).toNat]?=some x∧idx m (vr l-1)=some x:=by
 obtain⟨x,hx⟩:=bK (show(vr l-1).toNat<m.length by omega)
 exact⟨x,hx,kE (by omega) hx⟩
theorem mdF_loop {m:List Int} {t:Int} (ht:0≤t) (hm:t+m.length≤9223372036854775800):J9 (fun(a t:Int)=>if(!decide (a=t+1)&& !decide (a= -t-1))=true then Step.done (Out.ret false:Out Unit Bool) else Step.next (t+1)) (fun _=>Out.brk ()) m t=if mdF (t+1) m=true then Out.brk () else Out.ret false:=by
 induction m generalizing t with
 |nil=>rfl
 |cons a m ih=>
  unfold J9 mdF
  by_cases h1:a=t+1
  ·simp only[h1,decide_true,Bool.not_true,Bool.false_and,Bool.false_eq_true,if_false,Bool.true_or,Bool.true_and]
   exact ih (by omega) (by simp only[List.length_cons] at hm;omega)
  by_cases h2:a= -t-1
  ·have h3:a= -(t+1):=by omega
   have e:decide (a= -(t+1))=true:=by simpa using h3
   simp only[e,h2,decide_true,Bool.not_true,Bool.and_false,Bool.false_eq_true,if_false,Bool.or_true,Bool.true_and]
   simp only[←h2,e,Bool.or_true,Bool.true_and]
   exact ih (by omega) (by simp only[List.length_cons] at hm;omega)
  have h3:¬a= -(t+1):=by omega
  simp[h1,h2,h3]
theorem holds1_ok {m:List Int} {x:Int} (hb: -1099511627776≤x∧x≤1099511627776) (h0:0<vr x) (h:vr x≤m.length):uB x m=some (decide (m[(vr x-1).toNat]?=some x)):=by
 unfold uB
 obtain⟨y,h1,h2⟩:=idx_vr h0 h
 rw[var_ok (by omega)]
 simp only[bsm]
 rw[gW (by have:= @oI x 1099511627776;omega)]
 simp only[bsm]
 rw[h2,h1];simp
theorem holdsAny_ok {m c:List Int} (hc:c.length≤9223372036854775807) (h:∀x∈c,(-1099511627776≤x∧x≤1099511627776)∧0<vr x∧vr x≤m.length):gV c m=some (uD m c):=by
 unfold gV kG
 have h:=scan_loop (body:=fun s=>gK c m s) c (fun l=>decide (m[(vr l-1).toNat]?=some l)) (fun k _=>Out.ret (k:Int)) (Out.brk ()) ?_ ?_
 ·unfold uD
  rcases h with⟨k,a,_,_,_,h2,_,e⟩|⟨_,h2,_,e⟩
  ·rw[e,h2];simp
  rw[e,h2];simp
 ·intro k a hk
  simp only[gK]
  rw[if_pos (ltB (dB hk)),dA hk]
  simp only[bsm]
  obtain⟨h1,h2,h3⟩:=h a (bQ hk)
  rw[holds1_ok h1 h2 h3,jA (dB hk) hc]
  generalize decide (m[(vr a-1).toNat]?=some a)=d
  cases d<;>rfl
 simp only[gK]
 rw[if_neg rY]
theorem mP {f:Formula} (h:iV f=true):0≤f.vars∧f.vars≤65536∧f.clauses.length≤262144∧∀c∈f.clauses,clF f.vars 0 c=true:=by
 unfold iV at h
 simp only[Bool.and_eq_true,decide_eq_true_eq,List.all_eq_true] at h
 exact⟨h.1.1.1,h.1.1.2,h.1.2,h.2⟩
theorem valid_lit {f:Formula} (h:iV f=true) {c:List Int} (hc:c∈f.clauses) {l:Int} (hl:l∈c): -f.vars≤l∧l≤f.vars∧0<vr l∧vr l≤f.vars:=by
 have:=clF_mem (Int.le_refl 0) ((mP h).2.2.2 c hc) l hl
 exact⟨this.1,this.2.1,this.2.2,oI.2 ⟨this.1,this.2.1⟩⟩
theorem cnf_holds {f:Formula} {m:List Int} (hl:FLen f.clauses):qY f m=some (holdsB f m):=by
 unfold qY holdsB
 rw[aA0 hl]
 simp only[bsm]
 by_cases hv:iV f=true
 ·by_cases hm:(m.length:Int)=f.vars
  ·rw[if_neg (by simp[hv,hm])]
   have hb:=mP hv
   rw[loopL (body:=fun s=>rJ m s) (s0:=(0:Int)) m (fun k t=>(k:Int)) (fun(a t:Int)=>if(!decide (a=t+1)&& !decide (a= -t-1))=true then Step.done (Out.ret false:Out Unit Bool) else Step.next (t+1)) (fun _=>Out.brk ()) (fun k t=>t=(k:Int)) (t0:=0) rfl rfl ?_ ?_,mdF_loop (by omega) (by omega)]
   ·simp only[bsm,hv,hm,decide_true,Bool.true_and,Int.zero_add]
    by_cases h1:mdF 1 m=true
    ·rw[if_pos h1,h1,Bool.true_and]
     refine D6 f.clauses (fun c=> !uD m c) (Out.ret false) (Out.brk ()) ?_ ?_ ?_
     ·intro k a hk
      simp only[uG]
      rw[if_pos (ltB (dB hk)),dA hk]
      simp only[bsm]
      rw[holdsAny_ok (hl.2 a (bQ hk)) (fun x hx=>by have:=valid_lit hv (bQ hk) hx;omega),jA (dB hk) hl.1]
      cases uD m a<;>rfl
     ·simp only[uG]
      rw[if_neg rY]
     rw[wR]
     cases f.clauses.all (uD m)<;>rfl
    simp[h1]
   ·rintro k a t hk rfl
    refine⟨?_,fun t' ht'=>?_⟩
    ·simp only[rJ]
     rw[if_pos (ltB (dB hk)),dA hk]
     have:=dB hk
     simp only[bsm]
     rw[jA (dB hk) (by omega),gW (show -9223372036854775808≤0-(k:Int)∧0-(k:Int)≤9223372036854775807 by omega)]
     simp only[bsm]
     rw[gW (show -9223372036854775808≤0-(k:Int)-1∧0-(k:Int)-1≤9223372036854775807 by omega)]
     have e:((k+1:Nat):Int)=(k:Int)+1:=by omega
     have e2:0-(k:Int)-1= -(k:Int)-1:=by omega
     rw[e,e2]
     by_cases h1:a=(k:Int)+1<;>by_cases h2:a= -(k:Int)-1<;>simp[h1,h2]
    split at ht'
    ·cases ht'
    exact(Step.next.inj ht').symm
   rintro t rfl
   simp only[rJ]
   rw[if_neg rY]
  rw[if_pos (by simp[hm])];simp[hm]
 rw[if_pos (by simp[hv])];simp[hv]
theorem ref_isModel {m:List Int} {n:Int} (hn:0≤n∧n≤65536):lQ n m=some (decide ((m.length:Int)=n)&&mdF 1 m):=by
 unfold lQ
 by_cases hm:(m.length:Int)=n
 ·rw[if_neg (by simp[hm])]
  rw[loopL (body:=fun s=>jJ m s) (s0:=(0:Int)) m (fun k t=>(k:Int)) (fun(a t:Int)=>if(!decide (a=t+1)&& !decide (a= -t-1))=true then Step.done (Out.ret false:Out Unit Bool) else Step.next (t+1)) (fun _=>Out.brk ()) (fun k t=>t=(k:Int)) (t0:=0) rfl rfl ?_ ?_,mdF_loop (by omega) (by omega)]
  ·simp only[bsm,hm,decide_true,Bool.true_and,Int.zero_add]
   cases mdF 1 m<;>rfl
  ·rintro k a t hk rfl
   refine⟨?_,fun t' ht'=>?_⟩
   ·have:=dB hk
    have e1:inK .i64 ((k:Int)+1)=some ((k:Int)+1):=gW ⟨by omega,by omega⟩
    have e2:inK .i64 (0-((k:Int)+1))=some (-(k:Int)-1):=by
     rw[gW ⟨by omega,by omega⟩];congr 1;omega
    simp only[jJ,ltB (dB hk),if_true,dA hk,bsm,e1,e2]
    by_cases h1:a=(k:Int)+1<;>by_cases h2:a= -(k:Int)-1<;>simp[h1,h2]
   split at ht'
   ·cases ht'
   exact(Step.next.inj ht').symm
  rintro t rfl
  simp only[jJ]
  rw[if_neg rY]
 rw[if_pos (by simp[hm])];simp[hm]
theorem foldl_or {α:Type} (p:α→Bool):∀(l:List α) (b:Bool),J9 (fun a t=>Step.next (t||p a)) (fun t=>t) l b=(b||l.any p)
 | [],b=>by simp[J9]
 |a::l,b=>by
  unfold J9
  show J9 _ _ l (b||p a)=_
  rw[foldl_or p l,List.any_cons,Bool.or_assoc]
theorem ref_holds {f:Formula} {m:List Int} (hl:FLen f.clauses):nH f m=some (holdsB f m):=by
 unfold nH holdsB
 rw[ref_valid hl]
 simp only[bsm]
 by_cases hv:iV f=true
 ·have hb:=mP hv
  rw[if_neg (by simp[hv]),ref_isModel ⟨hb.1,hb.2.1⟩]
  simp only[bsm,hv,Bool.true_and]
  by_cases hm:(decide ((m.length:Int)=f.vars)&&mdF 1 m)=true
  ·rw[hm,if_neg (by simp),Bool.true_and]
   have hm':(m.length:Int)=f.vars:=by simp only[Bool.and_eq_true,decide_eq_true_eq] at hm;exact hm.1
   refine D6 f.clauses (fun c=> !uD m c) (Out.ret false) (Out.brk ()) ?_ ?_ ?_
   ·intro k c hk
    simp only[mZ]
    rw[if_pos (ltB (dB hk))]
    have hcl:=hl.2 c (bQ hk)
    rw[loopL (body:=fun s:Bool×Int=>kP f m (k:Int) s.1 s.2) (s0:=(false,(0:Int))) c (fun j t=>(t,(j:Int))) (fun l t=>Step.next (t||decide (m[(vr l-1).toNat]?=some l))) (fun t=>t) (fun _ _=>True) rfl trivial ?_ ?_,foldl_or]
    ·simp only[bsm,Bool.false_or]
     rw[jA (dB hk) hl.1]
     show(if(!uD m c)=true then _ else _)=_
     cases uD m c<;>rfl
    ·intro j l t hj _
     refine⟨?_,fun _ _=>trivial⟩
     simp only[kP]
     rw[dA hk]
     simp only[bsm]
     rw[if_pos (ltB (dB hj)),dA hj]
     simp only[bsm]
     rw[jA (dB hj) hcl]
     cases t with
     |true=>simp
     |false=>
      have hb2:=valid_lit hv (bQ hk) (bQ hj)
      rw[rvar_ok (by omega)]
      simp only[bsm,Bool.false_eq_true,if_false]
      rw[gW (by omega)]
      simp only[bsm]
      obtain⟨y,h1,h2⟩:=idx_vr (m:=m) hb2.2.2.1 (by omega)
      rw[h2,h1]
      simp
    intro t _
    simp only[kP]
    rw[dA hk]
    simp only[bsm]
    rw[if_neg rY]
   ·simp only[mZ]
    rw[if_neg rY]
   rw[wR]
   cases f.clauses.all (uD m)<;>rfl
  have:(decide ((m.length:Int)=f.vars)&&mdF 1 m)=false:=by simpa using hm
  rw[this];simp
 rw[if_pos (by simp[hv])];simp[hv]
inductive UP (F:List (List Int)) (S:List Int):Int→Prop
 |start {l:Int}:l∈S→UP F S l
 |unit {c:List Int} {x:Int}:c∈F→x∈c→(∀y∈c,y≠x→UP F S (-y))→UP F S x
def Fails (F:List (List Int)) (S:List Int):Prop:=(∃l,UP F S l∧UP F S (-l))∨∃c∈F,∀y∈c,UP F S (-y)
structure Lits (n:Int) (F:List (List Int)) (S:List Int):Prop where
 nn:0≤n∧n≤65536
 cl:∀c∈F,∀y∈c,y≠0∧vr y≤n
 st:∀y∈S,y≠0∧vr y≤n
 nd:∀c∈F,c.Nodup
theorem UP.lit {n:Int} {F:List (List Int)} {S:List Int} (h:Lits n F S) {l:Int} (hl:UP F S l):l≠0∧vr l≤n:=by
 cases hl with
 |start hs=>exact h.st _ hs
 |unit hc hx _=>exact h.cl _ hc _ hx
def gv (val:List Int) (l:Int):Option Int:=val[(vr l).toNat]?
theorem vH (val:List Int) (l:Int):gv val (-l)=gv val l:=by unfold gv;rw[lL]
structure ValOk (n:Int) (F:List (List Int)) (S:List Int) (val:List Int):Prop where
 len:(val.length:Int)=n+1
 own:∀(v:Nat) x,val[v]?=some x→x=0∨(x≠0∧vr x=v)
 sound:∀(v:Nat) x,val[v]?=some x→x≠0→UP F S x
theorem ValOk.get {n:Int} {F:List (List Int)} {S:List Int} {val:List Int} (h:ValOk n F S val) {l:Int} (hl:vr l≤n):∃x,gv val l=some x∧idx val (vr l)=some x∧(x=0∨x=l∨x= -l):=by
 have h0:=jP l
 obtain⟨x,hx⟩:=bK (show(vr l).toNat<val.length by have:=h.len;omega)
 refine⟨x,hx,kE h0 hx,?_⟩
 rcases h.own _ x hx with h1|⟨_,h1⟩
 ·exact Or.inl h1
 exact Or.inr (vr_eq.1 (by omega))
theorem ValOk.up {n:Int} {F:List (List Int)} {S:List Int} {val:List Int} (h:ValOk n F S val) {l:Int} (h0:l≠0) (hl:gv val l=some l):UP F S l:=h.sound _ l hl h0
theorem ValOk.set {n:Int} {F:List (List Int)} {S:List Int} {val:List Int} (h:ValOk n F S val) {l:Int} (h0:l≠0) (hl:vr l≤n) (hu:UP F S l):ValOk n F S (val.set (vr l).toNat l):=by
 have hv:=jP l
 refine⟨by rw[List.length_set];exact h.len,fun v x hx=>?_,fun v x hx hx0=>?_⟩
 ·rw[List.getElem?_set] at hx
  split at hx
  ·rename_i e
   split at hx
   ·obtain rfl:=oj hx
    exact Or.inr ⟨h0,by omega⟩
   cases hx
  exact h.own v x hx
 rw[List.getElem?_set] at hx
 split at hx
 ·split at hx
  ·obtain rfl:=oj hx;exact hu
  cases hx
 exact h.sound v x hx hx0
theorem gv_set {n:Int} {val:List Int} {l m:Int} (hlen:(val.length:Int)=n+1) (hl:vr l≤n):gv (val.set (vr l).toNat l) m=if vr m=vr l then some l else gv val m:=by
 unfold gv
 have h1:=jP l
 have h2:=jP m
 rw[List.getElem?_set]
 by_cases e:vr m=vr l
 ·rw[if_pos (by omega),if_pos (by omega),if_pos e]
 rw[if_neg (by omega),if_neg e]
def Good (val c:List Int):Prop:=(∃y∈c,gv val y=some y)∨∃y∈c,∃z∈c,y≠z∧gv val y=some 0∧gv val z=some 0
theorem Z9 {n:Int} {F:List (List Int)} {S:List Int} {val:List Int} (hL:Lits n F S) (h:ValOk n F S val) (hs:∀l∈S,gv val l=some l) (hg:∀c∈F,Good val c):∀{l},UP F S l→gv val l=some l:=by
 intro l hl
 induction hl with
 |start hm=>exact hs _ hm
 | @unit c x hc hx hy ih=>
  rcases hg c hc with⟨y,hyc,h1⟩|⟨y,hyc,z,hzc,hyz,h1,h2⟩
  ·by_cases e:y=x
   ·rw[←e];exact h1
   have:=ih y hyc e
   rw[vH,h1] at this
   have:=oj this
   exact absurd (show y=0 by omega) (hL.cl c hc y hyc).1
  by_cases e:y=x
  ·have:=ih z hzc (by rw[←e];exact fun e'=>hyz e'.symm)
   rw[vH,h2] at this
   have:=oj this
   exact absurd (show z=0 by omega) (hL.cl c hc z hzc).1
  have:=ih y hyc e
  rw[vH,h1] at this
  have:=oj this
  exact absurd (show y=0 by omega) (hL.cl c hc y hyc).1
theorem closed_ok {n:Int} {F:List (List Int)} {S:List Int} {val:List Int} (hL:Lits n F S) (h:ValOk n F S val) (hs:∀l∈S,gv val l=some l) (hg:∀c∈F,Good val c):¬Fails F S:=by
 rintro(⟨l,h1,h2⟩|⟨c,hc,hy⟩)
 ·have e1:=Z9 hL h hs hg h1
  have e2:=Z9 hL h hs hg h2
  rw[vH,e1] at e2
  have:=oj e2
  exact(h1.lit hL).1 (by omega)
 rcases hg c hc with⟨y,hyc,h1⟩|⟨y,hyc,z,hzc,hyz,h1,h2⟩
 ·have:=Z9 hL h hs hg (hy y hyc)
  rw[vH,h1] at this
  have:=oj this
  exact(hL.cl c hc y hyc).1 (by omega)
 have:=Z9 hL h hs hg (hy y hyc)
 rw[vH,h1] at this
 have:=oj this
 exact(hL.cl c hc y hyc).1 (by omega)
def sOk (v x:Int):Bool:=decide (x≠0)&&decide (-v≤x)&&decide (x≤v)
end Go.Proofs.Ytpkhmndpeipfmaa

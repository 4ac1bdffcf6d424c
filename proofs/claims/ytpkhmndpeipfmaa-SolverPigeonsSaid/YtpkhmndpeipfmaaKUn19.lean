/- The code goes as its model: assessor/assessorref27.Follows, assessor/assessorref27.IsProof, assessor/assessorref27.With, assessor/assessorref27.Check, assessor/ -/
import Derived.Test.YtpkhmndpeipfmaaKUnT
import Derived.Test.YtpkhmndpeipfmaaKUn6
import Derived.Test.YtpkhmndpeipfmaaKUn18
set_option linter.unusedVariables false
set_option linter.unusedSimpArgs false
set_option maxRecDepth 100000
set_option maxHeartbeats 4000000
namespace Go.Proofs.Ytpkhmndpeipfmaa
open Go.RowKit
theorem wS {Z:World} {ρ:PH} {L:List bZ} {w:World} (p0:Formula) (aH:Value) (bI:bW ρ aH p0.clauses) (p1:(List Int)) (vp1:Value) (hp1:bW ρ vp1 p1) (hp:Hp Z ρ (L) w) (r:Formula) (hm:lS p0 p1=some r):
  Calls Try.prog 23 #[(.agg #[(Iv p0.vars),aH]),vp1] w (Ret fun v w'=>∃(ρ':PH) (rC:Value),ρ.le ρ'∧v=(.agg #[(Iv r.vars),rC])∧bW ρ' rC r.clauses∧Hp Z ρ' (L) w'):=by
 refine enter (N:=19) Try.func23 rfl rfl [(0,(.agg #[(Iv p0.vars),aH])),(1,vp1)] rfl (bM ⟨rfl,rfl,trivial⟩) fun a hE=>?_
 unfold lS at hm
 refine aG (aB ?_)
 refine rO (wk0 rfl) rfl rfl hE hp rfl (v:=(.agg #[(Iv p0.vars),aH])) rfl ?_
 intro a w b1 hE hp
 have hp:=r1 hp
 refine qB (wk0 rfl) rfl rfl hE hp rfl [(Iv 0),N0] (fun w=>by simp[Instr.alloc,go_sem]<;>rfl) ?_
 intro a w b2 hE hp
 have hp:=r2 hp
 refine aC (aG ?_)
 refine aB (V hE hp rfl (xf hE iL rfl rfl) fun a hE=>?_)
 refine V hE hp rfl (xl hE jD 1 rfl rfl rfl rfl) fun a hE=>V hE hp rfl (dL rfl hE rfl (bW.len bI kU)) fun a hE=>S hE 1 rfl fun a hE=>aC (aG ?_)
 refine aB (V hE hp rfl (xf hE iL rfl rfl) fun a hE=>?_)
 refine V hE hp rfl (xl hE jD 1 rfl rfl rfl rfl) fun a hE=>S hE 2 rfl fun a hE=>?_
 obtain⟨v1,v1r,f1⟩:=bW.full bI kU .i64 .i64
 refine V hE hp rfl (v:=v1) (ex_sl3 rfl hE rfl rfl rfl v1r) fun a hE=>S hE 1 rfl fun a hE=>?_
 refine iP (wk0 rfl) rfl rfl hE hp rfl [(0,vp1)] ⟨⟨rfl,rfl⟩,trivial⟩ [vp1] 25 (fun w=>by have hc0:=bW.cells hp1;simp only[Value.cells] at hc0;simp[Instr.buildSlice,Instr.fill,Value.cells,hc0,go_sem]) ?_
 intro a w b3 hE hp
 have hp:=r3 hp
 obtain⟨x1,ex1,hm⟩:=bnd hm
 have hR3:jT ρ ([p1]:List (List Int)) [vp1]:=⟨_,_,rfl,⟨_,rfl,(hp1)⟩,rfl⟩
 refine s_appC (wk0 rfl) rfl rfl hE hp rfl kU rfl rfl f1 rfl (l2:=[p1]) (ys:=[vp1]) rfl rfl hR3 (fun j u hj=>by have:=Hp.cN 0 rfl 0 _ (bV rfl) w hp j u hj;simpa using this) ex1 ?_
 intro v2 xs1 a w hR2 hE hp
 have hR1:jT ρ x1 (xs1++[vp1]):=(vC ex1).2▸jT.app hR2 hR3
 have hp:=r4 hp
 refine V hE hp rfl (xf hE iL rfl rfl) fun a hE=>?_
 refine oK (wk0 rfl) rfl hE hp rfl rfl rfl 3 rfl jD.size_ (wQ.cells hp 0 rfl) (wQ.one hp 0 rfl) rfl [(Iv p0.vars),v2] rfl ?_
 intro w hp
 have hp:=r4 hp
 refine aC (aG ?_)
 refine aB (V hE hp rfl (bD rfl hE rfl (fun w hw=>gB (cs:=[(Iv p0.vars),v2]) fC (Hp.cN 3 rfl 0 _ (bV rfl) w hw))) fun a hE=>?_)
 refine dO (wk0 rfl) rfl hE hp rfl rfl rfl 2 rfl fC.size_ rfl (bY ⟨rfl,(wQ.one hp 0 rfl),trivial⟩) [(Iv p0.vars),v2] rfl ?_
 intro w hp
 have hp:=r4 hp
 refine aC (dE ?_)
 obtain⟨k1,k1a,k1d,hp⟩:=(hp.get 0 rfl).lend
 have f2:bW (ρ.un k1) v2 x1:=wQ.ro k1d k1a hR1
 have hp:=r3 hp
 obtain rfl:=oj hm
 exact retc1 hE rfl rfl (rZ (cs:=[(Iv p0.vars),v2]) fC (Hp.cN 1 rfl 0 _ (bV rfl) _ hp)) ⟨_,rfl,_,_,(PH.le_un _ k1),rfl,f2,(((((hp.get 2 rfl).drop).get 1 rfl).drop).drop)⟩
theorem U1 {Z:World} {ρ:PH} {L:List bZ} {w:World} (p0:Int) (p1:Int) (hp:Hp Z ρ (L) w) (r:(List Int)) (hm:nK p0 p1=some r):
  Calls Try.prog 37 #[(Iv p0),(Iv p1)] w (Ret fun v w'=>∃(vr1:Value),v=vr1∧Hp Z ρ (aA 3 vr1 r::L) w'):=by
 refine enter (N:=30) Try.func37 rfl rfl [(0,(Iv p0)),(1,(Iv p1))] rfl (bM ⟨rfl,rfl,trivial⟩) fun a hE=>?_
 unfold nK at hm
 refine aG (aB ?_)
 refine S hE 1 rfl fun a hE=>aC (aG ?_)
 refine aB ?_
 refine iP (wk0 rfl) rfl rfl hE hp rfl [] trivial [] 3 (fun w=>by simp[Instr.buildSlice,Instr.fill,Value.cells,go_sem]) ?_
 intro a w b1 hE hp
 have hp:=r1 hp
 refine S hE 1 rfl fun a hE=>aC (aG ?_)
 refine aG (aB ?_)
 refine S hE 1 rfl fun a hE=>aC ?_
 have hp:=(hp.get 0 rfl).imp (oH (l:=(([]:List Int):List Int)) (n:=0) rfl (by decide) rfl)
 have hp:=r1 hp
 obtain⟨b2,hc1,hm⟩:=bnd hm
 refine dH (fun a w=>∃(w2:Value),Env 30 [(5,w2)] a∧Hp Z ρ (aA 3 w2 b2::L) w) ?_ ?_
 ·refine eU hc1 (fun s a w=>∃(w2:Value),Env 30 [(0,(Iv p0)),(1,(Iv p1)),(5,w2),(6,(Iv s.1))] a∧Hp Z ρ (aA 3 w2 s.2::L) w) ?_ ?_
  ·exact⟨_,hE.cut ⟨rfl,rfl,rfl,rfl,trivial⟩,hp⟩
  rintro⟨aW,bU⟩ st a w ⟨w2,hE,hp⟩ hl1
  dsimp only at hE hp hl1
  unfold iZ at hl1
  refine aG (aG ?_)
  refine aB (S hE 3 rfl fun a hE=>?_)
  refine aC ?_
  refine dK hE rfl (fun hc2=>?_) (fun hc2=>?_)
  ·replace hl1:=(it hc2).symm.trans hl1
   refine bP (aG ?_)
   refine dF (aG ?_)
   refine aB (S hE 3 rfl fun a hE=>?_)
   obtain⟨x1,ex1,hl1⟩:=bnd hl1
   refine V hE hp rfl (rX rfl hE rfl rfl (aZ ex1)) fun a hE=>?_
   obtain⟨x2,ex2,hl1⟩:=bnd hl1
   refine V hE hp rfl (v:=(Iv x2)) (ex_shr rfl hE rfl rfl ex2) fun a hE=>?_
   obtain⟨x3,ex3,hl1⟩:=bnd hl1
   refine V hE hp rfl (ex_rem rfl hE rfl rfl (aA7 ex3).1 (aA7 ex3).2) fun a hE=>S hE 1 rfl fun a hE=>aC ?_
   refine dK hE rfl (fun hc3=>?_) (fun hc3=>?_)
   ·replace hl1:=(it hc3).symm.trans hl1
    refine aB (S hE 2 rfl fun a hE=>?_)
    refine iP (wk0 rfl) rfl rfl hE hp rfl [(0,(Iv aW))] ⟨⟨rfl,rfl⟩,trivial⟩ [(Iv aW)] 3 (fun w=>by simp[Instr.buildSlice,Instr.fill,Value.cells,go_sem]) ?_
    intro a w b3 hE hp
    have hp:=r2 hp
    obtain⟨x4,ex4,hl1⟩:=bnd hl1
    refine lY (wk0 rfl) rfl rfl hE hp rfl bC rfl rfl 1 rfl rfl (l2:=[aW]) rfl (fun j u hj=>by have:=Hp.cN 0 rfl 0 _ (bV rfl) w hp j u hj;simpa using this) ex4 ?_
    intro v1 a w hE hp
    have hp:=r2 hp
    refine S hE 1 rfl fun a hE=>aC ?_
    have hE:=hE.cut (E':=[(0,(Iv p0)),(1,(Iv p1)),(5,v1),(6,(Iv aW))]) ⟨rfl,rfl,rfl,rfl,trivial⟩
    refine aB (S hE 1 rfl fun a hE=>?_)
    obtain⟨x5,ex5,hl1⟩:=bnd hl1
    refine V hE hp rfl (dD rfl hE rfl rfl (aZ ex5)) fun a hE=>S hE 1 rfl fun a hE=>aC ?_
    exact⟨_,(oj hl1).symm,_,hE.cut ⟨rfl,rfl,rfl,rfl,trivial⟩,(hp.drop)⟩
   replace hl1:=(ie hc3).symm.trans hl1
   refine aB (S hE 2 rfl fun a hE=>?_)
   obtain⟨x6,ex6,hl1⟩:=bnd hl1
   refine V hE hp rfl (mX rfl hE rfl (aZ ex6)) fun a hE=>?_
   refine iP (wk0 rfl) rfl rfl hE hp rfl [(0,(Iv x6))] ⟨⟨rfl,rfl⟩,trivial⟩ [(Iv x6)] 3 (fun w=>by simp[Instr.buildSlice,Instr.fill,Value.cells,go_sem]) ?_
   intro a w b4 hE hp
   have hp:=r2 hp
   obtain⟨x7,ex7,hl1⟩:=bnd hl1
   refine lY (wk0 rfl) rfl rfl hE hp rfl bC rfl rfl 1 rfl rfl (l2:=[x6]) rfl (fun j u hj=>by have:=Hp.cN 0 rfl 0 _ (bV rfl) w hp j u hj;simpa using this) ex7 ?_
   intro v2 a w hE hp
   have hp:=r2 hp
   refine S hE 1 rfl fun a hE=>aC (aB ?_)
   refine S hE 1 rfl fun a hE=>?_
   obtain⟨x8,ex8,hl1⟩:=bnd hl1
   refine V hE hp rfl (dD rfl hE rfl rfl (aZ ex8)) fun a hE=>S hE 1 rfl fun a hE=>aC ?_
   exact⟨_,(oj hl1).symm,_,hE.cut ⟨rfl,rfl,rfl,rfl,trivial⟩,(hp.drop)⟩
  replace hl1:=(ie hc2).symm.trans hl1
  refine dR ?_
  refine⟨_,(oj hl1).symm,fun hbb=>?_⟩
  subst hbb
  exact⟨_,hE.cut ⟨rfl,trivial⟩,hp⟩
 rintro a w ⟨w2,hE,hp⟩
 refine aG (aB ?_)
 refine S hE 2 rfl fun a hE=>aC (dE ?_)
 obtain rfl:=oj hm
 exact iH hE rfl rfl ⟨_,rfl,_,rfl,hp⟩
theorem I5 {Z:World} {ρ:PH} {L:List bZ} {w:World} (p0:Formula) (aH:Value) (bI:bW ρ aH p0.clauses) (hp:Hp Z ρ (L) w) (r:Int) (hm:mF p0=some r):
  Calls Try.prog 20 #[(.agg #[(Iv p0.vars),aH])] w (Ret fun v w'=>v=(Iv r)∧Hp Z ρ (L) w'):=by
 refine enter (N:=21) Try.func20 rfl rfl [(0,(.agg #[(Iv p0.vars),aH]))] rfl (bM ⟨rfl,trivial⟩) fun a hE=>?_
 unfold mF at hm
 refine aG (aB ?_)
 refine rO (wk0 rfl) rfl rfl hE hp rfl (v:=(.agg #[(Iv p0.vars),aH])) rfl ?_
 intro a w b1 hE hp
 have hp:=r1 hp
 refine S hE 1 rfl fun a hE=>aC (aG ?_)
 refine aB (S hE 1 rfl fun a hE=>?_)
 refine aC (aG ?_)
 refine aG (aB ?_)
 refine S hE 1 rfl fun a hE=>aC ?_
 obtain⟨b2,hc1,hm⟩:=bnd hm
 refine dH (fun a w=>Env 21 [(3,(Iv b2))] a∧Hp Z ρ (Pt b1 (.cells #[(Iv p0.vars),aH] 24 (0,0))::L) w) ?_ ?_
 ·refine eU hc1 (fun s a w=>Env 21 [(1,(Pv b1 0)),(3,(Iv s.1)),(4,(Iv s.2))] a∧Hp Z ρ (Pt b1 (.cells #[(Iv p0.vars),aH] 24 (0,0))::L) w) ?_ ?_
  ·exact⟨hE.cut ⟨rfl,rfl,rfl,trivial⟩,hp⟩
  rintro⟨aW,bU⟩ st a w ⟨hE,hp⟩ hl1
  dsimp only at hE hp hl1
  unfold jU at hl1
  refine aG (aG ?_)
  refine aB (S hE 1 rfl fun a hE=>?_)
  refine V hE hp rfl (xf hE lM rfl rfl) fun a hE=>V hE hp rfl (xl hE bG 0 rfl rfl rfl rfl) fun a hE=>?_
  obtain⟨x1,ex1,hl1⟩:=bnd hl1
  refine V hE hp rfl (v:=(Iv x1)) (ex_shl rfl hE rfl rfl ex1) fun a hE=>S hE 1 rfl fun a hE=>aC ?_
  refine dK hE rfl (fun hc2=>?_) (fun hc2=>?_)
  ·replace hl1:=(it hc2).symm.trans hl1
   refine bP (aG ?_)
   refine dF (aG ?_)
   obtain⟨x2,ex2,hl1⟩:=bnd hl1
   obtain⟨x3,ex3,hl1⟩:=bnd hl1
   have hp:=hp.drew
   refine jS ([([],At0 Z ρ),([],At1 Z ρ (Pt b1 (.cells #[(Iv p0.vars),aH] 24 (0,0))))]:Facts) (fun a w=>∃y3:Value,Env 21 [(1,(Pv b1 0)),(3,(Iv aW)),(4,(Iv bU)),(17,(.bool x3))] a∧Hp Z ρ (aA 3 y3 x2::Pt b1 (.cells #[(Iv p0.vars),aH] 24 (0,0))::L) w) (by kernel_rfl) ⟨fun _=>⟨_,hp⟩,fun _=>⟨_,(hp.get 0 rfl)⟩,trivial⟩ (fun hS=>?_) ?_
   ·
    generalize w.drew=w at hS hp⊢
    refine T 0 1 hE hS rfl rfl rfl (by kernel_rfl) (fun _=>bD rfl hE rfl (fun w hw=>gB (cs:=[(Iv p0.vars),aH]) fC (Hp.cN 0 rfl 0 _ (bV rfl) w hw))) fun a hE hS=>T0 1 hE hS rfl rfl rfl (by kernel_rfl) (fun _=>xf hE lM rfl rfl) fun a hE hS=>T 2 1 hE hS rfl rfl rfl (by kernel_rfl) (fun _=>xl hE bG 0 rfl rfl rfl rfl) fun a hE hS=>Ts [3] hE hS rfl rfl (by kernel_rfl) fun a hE hS=>?_
    refine W1 4 (by kernel_rfl) rfl ?_
    refine s_call (wk0 rfl) rfl rfl hE rfl [(Iv p0.vars),(Iv bU)] ⟨rfl,rfl,trivial⟩ ent37 (U1 p0.vars bU hp x2 ex2) Ret.ret ?_
    intro vr3 a w hR hE
    obtain⟨u,rfl,hp⟩:=Ret.of hR
    have hp:=r2 hp
    refine aC (aI ⟨gp0 hp,gp 1 hp rfl,trivial⟩ fun hS=>?_)
    refine W1 5 (by kernel_rfl) rfl ?_
    obtain⟨k2,k2a,k2d,k2h⟩:=(hp.get 0 rfl).lend
    refine Cl hE rfl rfl ent34 (Q9 p0 aH (bW.mono bI (PH.le_un _ _)) x2 vr3 (aA.ro k2d k2a) k2h x3 ex3) ⟨rfl,rfl,trivial⟩ fun v a w hR hE=>?_
    obtain⟨rfl,hp⟩:=hR
    have hp:=Hp.back k2a k2d hp
    have hp:=r2 hp
    refine aC (aI ⟨gp0 hp,gp 1 hp rfl,trivial⟩ fun hS=>?_)
    exact eG (by kernel_rfl) ⟨_,hE.cut ⟨rfl,rfl,rfl,rfl,trivial⟩,hp⟩
   rintro a w ⟨y3,hE,hp⟩
   refine dK hE rfl (fun hc3=>?_) (fun hc3=>?_)
   ·replace hl1:=(it hc3).symm.trans hl1
    refine aB (S hE 1 rfl fun a hE=>?_)
    obtain⟨x4,ex4,hl1⟩:=bnd hl1
    refine V hE hp rfl (dD rfl hE rfl rfl (aZ ex4)) fun a hE=>S hE 1 rfl fun a hE=>aC (aB ?_)
    refine S hE 1 rfl fun a hE=>?_
    obtain⟨x5,ex5,hl1⟩:=bnd hl1
    refine V hE hp rfl (dD rfl hE rfl rfl (aZ ex5)) fun a hE=>S hE 1 rfl fun a hE=>aC ?_
    exact⟨_,(oj hl1).symm,hE.cut ⟨rfl,rfl,rfl,trivial⟩,(hp.drop)⟩
   replace hl1:=(ie hc3).symm.trans hl1
   refine bP (aB ?_)
   refine S hE 1 rfl fun a hE=>?_
   obtain⟨x6,ex6,hl1⟩:=bnd hl1
   refine V hE hp rfl (dD rfl hE rfl rfl (aZ ex6)) fun a hE=>S hE 1 rfl fun a hE=>aC ?_
   exact⟨_,(oj hl1).symm,hE.cut ⟨rfl,rfl,rfl,trivial⟩,(hp.drop)⟩
  replace hl1:=(ie hc2).symm.trans hl1
  refine dR ?_
  refine⟨_,(oj hl1).symm,fun hbb=>?_⟩
  subst hbb
  exact⟨hE.cut ⟨rfl,trivial⟩,hp⟩
 rintro a w ⟨hE,hp⟩
 refine aG (aB ?_)
 refine S hE 2 rfl fun a hE=>aC (dE ?_)
 obtain rfl:=oj hm
 exact iH hE rfl rfl ⟨_,rfl,rfl,(hp.drop)⟩
theorem U7 {Z:World} {ρ:PH} {L:List bZ} {w:World} (p0:Formula) (aH:Value) (bI:bW ρ aH p0.clauses) (p1:(List Int)) (vp1:Value) (hp1:bW ρ vp1 p1) (hp:Hp Z ρ (L) w) (r:Formula) (hm:jV p0 p1=some r):
  Calls Try.prog 26 #[(.agg #[(Iv p0.vars),aH]),vp1] w (Ret fun v w'=>∃(ρ':PH) (rC:Value),ρ.le ρ'∧v=(.agg #[(Iv r.vars),rC])∧bW ρ' rC r.clauses∧Hp Z ρ' (L) w'):=by
 refine enter (N:=20) Try.func26 rfl rfl [(0,(.agg #[(Iv p0.vars),aH])),(1,vp1)] rfl (bM ⟨rfl,rfl,trivial⟩) fun a hE=>?_
 unfold jV at hm
 refine aG (aB ?_)
 refine rO (wk0 rfl) rfl rfl hE hp rfl (v:=(.agg #[(Iv p0.vars),aH])) rfl ?_
 intro a w b1 hE hp
 have hp:=r1 hp
 refine qB (wk0 rfl) rfl rfl hE hp rfl [(Iv 0),N0] (fun w=>by simp[Instr.alloc,go_sem]<;>rfl) ?_
 intro a w b2 hE hp
 have hp:=r2 hp
 refine aC (aG ?_)
 refine aG (aB ?_)
 refine S hE 1 rfl fun a hE=>aC ?_
 obtain⟨b3,hc1,hm⟩:=bnd hm
 refine dH (fun a w=>∃(ρ1:PH) (G9:Value),ρ.le ρ1∧bW ρ1 G9 b3.2∧Env 20 [(2,(Pv b1 0)),(4,(Pv b2 0))] a∧Hp Z ρ1 (Pt b2 (.cells #[(Iv 0),N0] 24 (0,0))::Pt b1 (.cells #[(Iv b3.1),G9] 24 (0,0))::L) w) ?_ ?_
 ·refine eU hc1 (fun s a w=>∃(ρ1:PH) (G9:Value),ρ.le ρ1∧bW ρ1 G9 s.2.2∧Env 20 [(1,vp1),(2,(Pv b1 0)),(4,(Pv b2 0)),(5,(Iv s.1))] a∧Hp Z ρ1 (Pt b2 (.cells #[(Iv 0),N0] 24 (0,0))::Pt b1 (.cells #[(Iv s.2.1),G9] 24 (0,0))::L) w) ?_ ?_
  ·exact⟨ρ,_,(PH.le.rf _),bI,hE.cut ⟨rfl,rfl,rfl,rfl,trivial⟩,hp⟩
  rintro⟨aW,bU,dJ⟩ st a w ⟨ρ1,G9,hlg1,hc1_1,hE,hp⟩ hl1
  dsimp only at hE hp hlg1 hc1_1 hl1
  unfold lH at hl1
  refine aG (aG ?_)
  refine aB (S hE 2 rfl fun a hE=>?_)
  refine V hE hp rfl (dL rfl hE rfl (bW.len (bW.mono hp1 hlg1) bC)) fun a hE=>S hE 1 rfl fun a hE=>aC ?_
  refine dK hE rfl (fun hc2=>?_) (fun hc2=>?_)
  ·replace hl1:=(it hc2).symm.trans hl1
   refine bP (aG ?_)
   refine dF ?_
   obtain⟨x1,ex1,hl1⟩:=bnd hl1
   obtain⟨x2,ex2,hl1⟩:=bnd hl1
   have hp:=hp.drew
   refine jS ([([],At0 Z ρ1),([7],At1 Z ρ1 (Pt b1 (.cells #[(Iv bU),G9] 24 (0,0))))]:Facts) (fun a w=>∃ρy1:PH,∃yv1:Value,ρ1.le ρy1∧bW ρy1 yv1 x2.clauses∧Env 20 [(1,vp1),(2,(Pv b1 0)),(4,(Pv b2 0)),(5,(Iv aW))] a∧Hp Z ρy1 (Pt b2 (.cells #[(Iv 0),N0] 24 (0,0))::Pt b1 (.cells #[(Iv x2.vars),yv1] 24 (0,0))::L) w) (by kernel_rfl) ⟨fun _=>⟨_,hp⟩,fun _=>⟨_,(hp.get 1 rfl)⟩,trivial⟩ (fun hS=>?_) ?_
   ·
    generalize w.drew=w at hS hp⊢
    refine T 0 1 hE hS rfl rfl rfl (by kernel_rfl) (fun _=>bD rfl hE rfl (fun w hw=>gB (cs:=[(Iv bU),G9]) fC (Hp.cN 0 rfl 0 _ (bV rfl) w hw))) fun a hE hS=>Ts [1,2] hE hS rfl rfl (by kernel_rfl) fun a hE hS=>?_
    obtain⟨b6,b6o,b6c,b6r,b6k,b6f⟩:=bW.at (bW.mono hp1 hlg1) bC ex1
    obtain rfl:b6c=Enc.enc x1:=b6k
    have b6f:AtP ρ1 b6 b6o [(Iv x1)]:=b6f
    refine T0 3 hE hS rfl rfl rfl (by kernel_rfl) (fun _=>aU rfl hE rfl rfl b6r) fun a hE hS=>T0 4 hE hS rfl rfl rfl (by kernel_rfl) (fun _=>bD rfl hE rfl (fun w hw=>bH bG (b6f.c 0 rfl w hw))) fun a hE hS=>?_
    refine W1 5 (by kernel_rfl) rfl ?_
    refine iP (wk0 rfl) rfl rfl hE hp rfl [(0,(Iv x1))] ⟨⟨rfl,rfl⟩,trivial⟩ [(Iv x1)] 3 (fun w=>by simp[Instr.buildSlice,Instr.fill,Value.cells,go_sem]) ?_
    intro a w b7 hE hp
    have hp:=r3 hp
    refine aC (aI ⟨gp0 hp,gp 2 hp rfl,trivial⟩ fun hS=>?_)
    refine W1 6 (by kernel_rfl) rfl ?_
    have hp:=(hp.get 0 rfl).imp (oH (l:=(([x1]:List Int):List Int)) (n:=1) rfl (by decide) rfl)
    have hp:=r3 hp
    obtain⟨k2,k2a,k2d,hp⟩:=(hp.get 0 rfl).lend
    have f2:bW (ρ1.un k2) (.slice (some ⟨b7,0,none⟩) 1 1) ([x1]:List Int):=aA.ro k2d k2a
    have hp:=r2 hp
    refine Cl hE rfl rfl ent23 (wS (Formula.mk bU dJ) G9 (bW.mono hc1_1 (PH.le_un _ k2)) ([x1]:List Int) (.slice (some ⟨b7,0,none⟩) 1 1) f2 hp x2 ex2) ⟨rfl,rfl,trivial⟩ fun v a w hR hE=>?_
    obtain⟨ρ3,dU,hle2,rfl,hr2_clauses,hp⟩:=hR
    have hp:=r2 hp
    refine aC (aI ⟨fun _=>⟨_,((hp.less hle2).less (PH.le_un _ k2))⟩,fun _=>⟨_,(((hp.get 1 rfl).less hle2).less (PH.le_un _ k2))⟩,trivial⟩ fun hS=>?_)
    refine W1 7 (by kernel_rfl) rfl ?_
    refine dO (wk0 rfl) rfl hE hp rfl rfl rfl 1 rfl fC.size_ rfl (bY ⟨rfl,(bW.one hr2_clauses),trivial⟩) [(Iv x2.vars),dU] rfl ?_
    intro w hp
    have hp:=r2 hp
    refine aC (aI ⟨fun _=>⟨_,((hp.less hle2).less (PH.le_un _ k2))⟩,dead (by kernel_rfl),trivial⟩ fun hS=>?_)
    exact eG (by kernel_rfl) ⟨ρ3,_,(PH.le.tr (PH.le_un _ k2) hle2),hr2_clauses,hE.cut ⟨rfl,rfl,rfl,rfl,trivial⟩,hp⟩
   rintro a w ⟨ρy1,yv1,hley1,yh1,hE,hp⟩
   refine aB (S hE 1 rfl fun a hE=>?_)
   obtain⟨x3,ex3,hl1⟩:=bnd hl1
   refine V hE hp rfl (dD rfl hE rfl rfl (aZ ex3)) fun a hE=>S hE 1 rfl fun a hE=>aC ?_
   exact⟨_,(oj hl1).symm,ρy1,_,(PH.le.tr hlg1 hley1),yh1,hE.cut ⟨rfl,rfl,rfl,rfl,trivial⟩,hp⟩
  replace hl1:=(ie hc2).symm.trans hl1
  refine dR ?_
  refine⟨_,(oj hl1).symm,fun hbb=>?_⟩
  subst hbb
  exact⟨ρ1,_,hlg1,hc1_1,hE.cut ⟨rfl,rfl,trivial⟩,hp⟩
 rintro a w ⟨ρ1,G9,hlg1,hc1_1,hE,hp⟩
 refine aG (aB ?_)
 refine V hE hp rfl (bD rfl hE rfl (fun w hw=>gB (cs:=[(Iv b3.1),G9]) fC (Hp.cN 1 rfl 0 _ (bV rfl) w hw))) fun a hE=>?_
 refine dO (wk0 rfl) rfl hE hp rfl rfl rfl 0 rfl fC.size_ rfl (bY ⟨rfl,(bW.one hc1_1),trivial⟩) [(Iv b3.1),G9] rfl ?_
 intro w hp
 have hp:=r2 hp
 refine aC (dE ?_)
 obtain rfl:=oj hm
 exact retc1 hE rfl rfl (rZ (cs:=[(Iv b3.1),G9]) fC (Hp.cN 0 rfl 0 _ (bV rfl) _ hp)) ⟨_,rfl,_,_,hlg1,rfl,hc1_1,(((hp.get 1 rfl).drop).drop)⟩
theorem D8 {Z:World} {ρ:PH} {L:List bZ} {w:World} (p0:Int) (p1:Int) (hp:Hp Z ρ (L) w) (r:Formula) (hm:jO p0 p1=some r):
  Calls Try.prog 24 #[(Iv p0),(Iv p1)] w (Ret fun v w'=>∃(rC:Value) (usr1_clauses:List Sl),v=(.agg #[(Iv r.vars),rC])∧Hp Z ρ (bT 25 3 rC usr1_clauses (r.clauses:(List (List Int)))::L) w'):=by
 refine enter (N:=77) Try.func24 rfl rfl [(0,(Iv p0)),(1,(Iv p1))] rfl (bM ⟨rfl,rfl,trivial⟩) fun a hE=>?_
 unfold jO at hm
 refine aG (aB ?_)
 refine qB (wk0 rfl) rfl rfl hE hp rfl [(Iv 0),N0] (fun w=>by simp[Instr.alloc,go_sem]<;>rfl) ?_
 intro a w b1 hE hp
 have hp:=r1 hp
 refine aC (aG ?_)
 refine aB (S hE 2 rfl fun a hE=>?_)
 obtain⟨x1,ex1,hm⟩:=bnd hm
 refine V hE hp rfl (yO rfl hE rfl rfl (aZ ex1)) fun a hE=>V hE hp rfl (v:=(.agg #[(Iv x1),N0])) (qN rfl hE [(0,(Iv x1))] (by exact⟨⟨rfl,rfl⟩,trivial⟩) (fun w=>by simp[Instr.build,Instr.fill,Value.cells,go_sem])) fun a hE=>?_
 refine qB (wk0 rfl) rfl rfl hE hp rfl [(Iv 0),N0] (fun w=>by simp[Instr.alloc,go_sem]<;>rfl) ?_
 intro a w b2 hE hp
 have hp:=r2 hp
 refine dO (wk0 rfl) rfl hE hp rfl rfl rfl 0 rfl fC.size_ rfl (bY ⟨rfl,rfl,trivial⟩) [(Iv x1),N0] rfl ?_
 intro w hp
 have hp:=r2 hp
 refine aC (aG ?_)
 refine aG (aB ?_)
 refine S hE 1 rfl fun a hE=>aC ?_
 have hp:=hp.emp (bT.none (α:=Int) 25 3 none)
 have hp:=r3 hp
 have hp:=r3 hp
 obtain⟨b3,hc1,hm⟩:=bnd hm
 refine dH (fun a w=>∃(w10:Value) (us10:List Sl),Env 77 [(0,(Iv p0)),(1,(Iv p1)),(4,(Pv b1 0)),(5,(Pv b2 0))] a∧Hp Z ρ (bT 25 3 w10 us10 (b3:(List (List Int)))::Pt b2 (.cells #[(Iv x1),w10] 24 (0,0))::Pt b1 (.cells #[(Iv 0),N0] 24 (0,0))::L) w) ?_ ?_
 ·refine eU hc1 (fun s a w=>∃(w10:Value) (us10:List Sl),Env 77 [(0,(Iv p0)),(1,(Iv p1)),(4,(Pv b1 0)),(5,(Pv b2 0)),(6,(Iv s.1))] a∧Hp Z ρ (bT 25 3 w10 us10 (s.2:(List (List Int)))::Pt b2 (.cells #[(Iv x1),w10] 24 (0,0))::Pt b1 (.cells #[(Iv 0),N0] 24 (0,0))::L) w) ?_ ?_
  ·exact⟨_,_,hE.cut ⟨rfl,rfl,rfl,rfl,rfl,trivial⟩,hp⟩
  rintro⟨aW,bU⟩ st a w ⟨w10,us10,hE,hp⟩ hl1
  dsimp only at hE hp hl1
  unfold jK at hl1
  refine aG (aG ?_)
  refine aB (S hE 3 rfl fun a hE=>?_)
  refine aC ?_
  refine dK hE rfl (fun hc2=>?_) (fun hc2=>?_)
  ·replace hl1:=(it hc2).symm.trans hl1
   refine bP (aG ?_)
   refine dF (aG ?_)
   refine aB ?_
   refine iP (wk0 rfl) rfl rfl hE hp rfl [] trivial [] 3 (fun w=>by simp[Instr.buildSlice,Instr.fill,Value.cells,go_sem]) ?_
   intro a w b4 hE hp
   have hp:=r4 hp
   refine S hE 1 rfl fun a hE=>aC (aG ?_)
   refine aG (aB ?_)
   refine S hE 1 rfl fun a hE=>aC ?_
   have hp:=(hp.get 0 rfl).imp (oH (l:=(([]:List Int):List Int)) (n:=0) rfl (by decide) rfl)
   have hp:=r4 hp
   obtain⟨b5,hc3,hl1⟩:=bnd hl1
   refine dH (fun a w=>∃(w16:Value),Env 77 [(0,(Iv p0)),(1,(Iv p1)),(4,(Pv b1 0)),(5,(Pv b2 0)),(6,(Iv aW)),(7,w16)] a∧Hp Z ρ (aA 3 w16 b5::bT 25 3 w10 us10 (bU:(List (List Int)))::Pt b2 (.cells #[(Iv x1),w10] 24 (0,0))::Pt b1 (.cells #[(Iv 0),N0] 24 (0,0))::L) w) ?_ ?_
   ·refine eU hc3 (fun s a w=>∃(w16:Value),Env 77 [(0,(Iv p0)),(1,(Iv p1)),(4,(Pv b1 0)),(5,(Pv b2 0)),(6,(Iv aW)),(7,w16),(8,(Iv s.1))] a∧Hp Z ρ (aA 3 w16 s.2::bT 25 3 w10 us10 (bU:(List (List Int)))::Pt b2 (.cells #[(Iv x1),w10] 24 (0,0))::Pt b1 (.cells #[(Iv 0),N0] 24 (0,0))::L) w) ?_ ?_
    ·exact⟨_,hE.cut ⟨rfl,rfl,rfl,rfl,rfl,rfl,rfl,trivial⟩,hp⟩
    rintro⟨dG,fB⟩ st a w ⟨w16,hE,hp⟩ hl2
    dsimp only at hE hp hl2
    unfold oO at hl2
    refine aG (aG ?_)
    refine aB (S hE 3 rfl fun a hE=>?_)
    refine aC ?_
    refine dK hE rfl (fun hc4=>?_) (fun hc4=>?_)
    ·replace hl2:=(it hc4).symm.trans hl2
     refine bP (aG ?_)
     refine dF (aB ?_)
     refine S hE 3 rfl fun a hE=>?_
     obtain⟨x2,ex2,hl2⟩:=bnd hl2
     refine V hE hp rfl (yO rfl hE rfl rfl (aZ ex2)) fun a hE=>S hE 1 rfl fun a hE=>?_
     obtain⟨x3,ex3,hl2⟩:=bnd hl2
     refine V hE hp rfl (dD rfl hE rfl rfl (aZ ex3)) fun a hE=>?_
     refine iP (wk0 rfl) rfl rfl hE hp rfl [(0,(Iv x3))] ⟨⟨rfl,rfl⟩,trivial⟩ [(Iv x3)] 3 (fun w=>by simp[Instr.buildSlice,Instr.fill,Value.cells,go_sem]) ?_
     intro a w b6 hE hp
     have hp:=r5 hp
     obtain⟨x4,ex4,hl2⟩:=bnd hl2
     refine lY (wk0 rfl) rfl rfl hE hp rfl bC rfl rfl 1 rfl rfl (l2:=[x3]) rfl (fun j u hj=>by have:=Hp.cN 0 rfl 0 _ (bV rfl) w hp j u hj;simpa using this) ex4 ?_
     intro v1 a w hE hp
     have hp:=r5 hp
     refine S hE 1 rfl fun a hE=>aC (aB ?_)
     refine S hE 1 rfl fun a hE=>?_
     obtain⟨x5,ex5,hl2⟩:=bnd hl2
     refine V hE hp rfl (dD rfl hE rfl rfl (aZ ex5)) fun a hE=>S hE 1 rfl fun a hE=>aC ?_
     exact⟨_,(oj hl2).symm,_,hE.cut ⟨rfl,rfl,rfl,rfl,rfl,rfl,rfl,trivial⟩,(hp.drop)⟩
    replace hl2:=(ie hc4).symm.trans hl2
    refine dR ?_
    refine⟨_,(oj hl2).symm,fun hbb=>?_⟩
    subst hbb
    exact⟨_,hE.cut ⟨rfl,rfl,rfl,rfl,rfl,rfl,trivial⟩,hp⟩
   rintro a w ⟨w16,hE,hp⟩
   refine aB (V hE hp rfl (xf hE iL rfl rfl) fun a hE=>?_)
   refine V hE hp rfl (xl hE jD 2 rfl rfl rfl rfl) fun a hE=>S hE 1 rfl fun a hE=>?_
   refine iP (wk0 rfl) rfl rfl hE hp rfl [(0,w16)] ⟨⟨rfl,rfl⟩,trivial⟩ [w16] 25 (fun w=>by have hc0:=aA.cells hp 0 rfl;simp only[Value.cells] at hc0;simp[Instr.buildSlice,Instr.fill,Value.cells,hc0,go_sem]) ?_
   intro a w b7 hE hp
   have hp:=r5 hp
   obtain⟨x6,ex6,hl1⟩:=bnd hl1
   obtain⟨sl1,sl1e⟩:=aA.toSl hp 1 rfl
   have hlo1:=fun(w:World) (ty:TypeId)=>aA.len hp 1 rfl bC w ty
   have hlo2:=fun(w:World) (ty:TypeId)=>aA.len hp 1 rfl bC w ty
   refine s_tapp (wk0 rfl) rfl rfl hE sl1e (hp.get 1 rfl) rfl kU rfl rfl 1 rfl rfl (Hp.c 0 rfl 0 rfl w hp) ex6 ?_
   intro v2 us1 a w hE hp
   have hp:=r4 hp
   refine V hE hp rfl (xf hE iL rfl rfl) fun a hE=>?_
   refine oK (wk0 rfl) rfl hE hp rfl rfl rfl 2 rfl jD.size_ (bT.cells hp 1 rfl) (bT.one hp 1 rfl) rfl [(Iv x1),v2] rfl ?_
   intro w hp
   have hp:=r4 hp
   refine aC ?_
   have hE:=hE.cut (E':=[(0,(Iv p0)),(1,(Iv p1)),(4,(Pv b1 0)),(5,(Pv b2 0)),(6,(Iv aW))]) ⟨rfl,rfl,rfl,rfl,rfl,trivial⟩
   refine aB (S hE 1 rfl fun a hE=>?_)
   obtain⟨x7,ex7,hl1⟩:=bnd hl1
   refine V hE hp rfl (dD rfl hE rfl rfl (aZ ex7)) fun a hE=>S hE 1 rfl fun a hE=>aC ?_
   exact⟨_,(oj hl1).symm,_,_,hE.cut ⟨rfl,rfl,rfl,rfl,rfl,trivial⟩,(hp.drop)⟩
  replace hl1:=(ie hc2).symm.trans hl1
  refine dR ?_
  refine⟨_,(oj hl1).symm,fun hbb=>?_⟩
  subst hbb
  exact⟨_,_,hE.cut ⟨rfl,rfl,rfl,rfl,trivial⟩,hp⟩
 rintro a w ⟨w10,us10,hE,hp⟩
 refine aG (aG ?_)
 refine aB (S hE 1 rfl fun a hE=>?_)
 refine aC ?_
 obtain⟨b8,hc5,hm⟩:=bnd hm
 refine dH (fun a w=>∃(w10q:Value) (us10q:List Sl),Env 77 [(4,(Pv b1 0)),(5,(Pv b2 0))] a∧Hp Z ρ (bT 25 3 w10q us10q (b8:(List (List Int)))::Pt b2 (.cells #[(Iv x1),w10q] 24 (0,0))::Pt b1 (.cells #[(Iv 0),N0] 24 (0,0))::L) w) ?_ ?_
 ·refine eU hc5 (fun s a w=>∃(w10q:Value) (us10q:List Sl),Env 77 [(0,(Iv p0)),(1,(Iv p1)),(4,(Pv b1 0)),(5,(Pv b2 0)),(9,(Iv s.1))] a∧Hp Z ρ (bT 25 3 w10q us10q (s.2:(List (List Int)))::Pt b2 (.cells #[(Iv x1),w10q] 24 (0,0))::Pt b1 (.cells #[(Iv 0),N0] 24 (0,0))::L) w) ?_ ?_
  ·exact⟨_,_,hE.cut ⟨rfl,rfl,rfl,rfl,rfl,trivial⟩,hp⟩
  rintro⟨lN,F6⟩ st a w ⟨w10q,us10q,hE,hp⟩ hl3
  dsimp only at hE hp hl3
  unfold jL at hl3
  refine aG (aG ?_)
  refine aB (S hE 3 rfl fun a hE=>?_)
  refine aC ?_
  refine dK hE rfl (fun hc6=>?_) (fun hc6=>?_)
  ·replace hl3:=(it hc6).symm.trans hl3
   refine bP (aG ?_)
   refine dF (aG ?_)
   refine aB (S hE 1 rfl fun a hE=>?_)
   refine aC ?_
   obtain⟨b9,hc7,hl3⟩:=bnd hl3
   refine dH (fun a w=>∃(w10:Value) (us10:List Sl),Env 77 [(0,(Iv p0)),(1,(Iv p1)),(4,(Pv b1 0)),(5,(Pv b2 0)),(9,(Iv lN))] a∧Hp Z ρ (bT 25 3 w10 us10 (b9:(List (List Int)))::Pt b2 (.cells #[(Iv x1),w10] 24 (0,0))::Pt b1 (.cells #[(Iv 0),N0] 24 (0,0))::L) w) ?_ ?_
   ·refine eU hc7 (fun s a w=>∃(w10:Value) (us10:List Sl),Env 77 [(0,(Iv p0)),(1,(Iv p1)),(4,(Pv b1 0)),(5,(Pv b2 0)),(9,(Iv lN)),(10,(Iv s.1))] a∧Hp Z ρ (bT 25 3 w10 us10 (s.2:(List (List Int)))::Pt b2 (.cells #[(Iv x1),w10] 24 (0,0))::Pt b1 (.cells #[(Iv 0),N0] 24 (0,0))::L) w) ?_ ?_
    ·exact⟨_,_,hE.cut ⟨rfl,rfl,rfl,rfl,rfl,rfl,trivial⟩,hp⟩
    rintro⟨vV,sJ⟩ st a w ⟨w10,us10,hE,hp⟩ hl4
    dsimp only at hE hp hl4
    unfold lW at hl4
    refine aG (aG ?_)
    refine aB (S hE 3 rfl fun a hE=>?_)
    refine aC ?_
    refine dK hE rfl (fun hc8=>?_) (fun hc8=>?_)
    ·replace hl4:=(it hc8).symm.trans hl4
     refine bP (aG ?_)
     refine dF (aG ?_)
     refine aB (S hE 1 rfl fun a hE=>?_)
     obtain⟨x8,ex8,hl4⟩:=bnd hl4
     refine V hE hp rfl (dD rfl hE rfl rfl (aZ ex8)) fun a hE=>S hE 1 rfl fun a hE=>aC ?_
     obtain⟨b10,hc9,hl4⟩:=bnd hl4
     refine dH (fun a w=>∃(w10q:Value) (us10q:List Sl),Env 77 [(0,(Iv p0)),(1,(Iv p1)),(4,(Pv b1 0)),(5,(Pv b2 0)),(9,(Iv lN)),(10,(Iv vV))] a∧Hp Z ρ (bT 25 3 w10q us10q (b10:(List (List Int)))::Pt b2 (.cells #[(Iv x1),w10q] 24 (0,0))::Pt b1 (.cells #[(Iv 0),N0] 24 (0,0))::L) w) ?_ ?_
     ·refine eU hc9 (fun s a w=>∃(w10q:Value) (us10q:List Sl),Env 77 [(0,(Iv p0)),(1,(Iv p1)),(4,(Pv b1 0)),(5,(Pv b2 0)),(9,(Iv lN)),(10,(Iv vV)),(11,(Iv s.1))] a∧Hp Z ρ (bT 25 3 w10q us10q (s.2:(List (List Int)))::Pt b2 (.cells #[(Iv x1),w10q] 24 (0,0))::Pt b1 (.cells #[(Iv 0),N0] 24 (0,0))::L) w) ?_ ?_
      ·exact⟨_,_,hE.cut ⟨rfl,rfl,rfl,rfl,rfl,rfl,rfl,trivial⟩,hp⟩
      rintro⟨F7,lp5_1⟩ st a w ⟨w10q,us10q,hE,hp⟩ hl5
      dsimp only at hE hp hl5
      unfold oP at hl5
      refine aG (aG ?_)
      refine aB (S hE 3 rfl fun a hE=>?_)
      refine aC ?_
      refine dK hE rfl (fun hc10=>?_) (fun hc10=>?_)
      ·replace hl5:=(it hc10).symm.trans hl5
       refine bP (aG ?_)
       refine dF (aB ?_)
       refine V hE hp rfl (xf hE iL rfl rfl) fun a hE=>V hE hp rfl (xl hE jD 1 rfl rfl rfl rfl) fun a hE=>S hE 2 rfl fun a hE=>?_
       obtain⟨x9,ex9,hl5⟩:=bnd hl5
       refine V hE hp rfl (yO rfl hE rfl rfl (aZ ex9)) fun a hE=>S hE 1 rfl fun a hE=>?_
       obtain⟨x10,ex10,hl5⟩:=bnd hl5
       refine V hE hp rfl (dD rfl hE rfl rfl (aZ ex10)) fun a hE=>?_
       obtain⟨x11,ex11,hl5⟩:=bnd hl5
       refine V hE hp rfl (mX rfl hE rfl (aZ ex11)) fun a hE=>S hE 2 rfl fun a hE=>?_
       obtain⟨x12,ex12,hl5⟩:=bnd hl5
       refine V hE hp rfl (yO rfl hE rfl rfl (aZ ex12)) fun a hE=>S hE 1 rfl fun a hE=>?_
       obtain⟨x13,ex13,hl5⟩:=bnd hl5
       refine V hE hp rfl (dD rfl hE rfl rfl (aZ ex13)) fun a hE=>?_
       obtain⟨x14,ex14,hl5⟩:=bnd hl5
       refine V hE hp rfl (mX rfl hE rfl (aZ ex14)) fun a hE=>?_
       refine iP (wk0 rfl) rfl rfl hE hp rfl [(0,(Iv x11)),(1,(Iv x14))] ⟨⟨rfl,rfl⟩,⟨rfl,rfl⟩,trivial⟩ [(Iv x11),(Iv x14)] 3 (fun w=>by simp[Instr.buildSlice,Instr.fill,Value.cells,go_sem]) ?_
       intro a w b11 hE hp
       have hp:=r4 hp
       refine iP (wk0 rfl) rfl rfl hE hp rfl [(0,(.slice (some ⟨b11,0,none⟩) 2 2))] ⟨⟨rfl,rfl⟩,trivial⟩ [(.slice (some ⟨b11,0,none⟩) 2 2)] 25 (fun w=>by simp[Instr.buildSlice,Instr.fill,Value.cells,go_sem]) ?_
       intro a w b12 hE hp
       have hp:=r5 hp
       have hp:=(hp.get 1 rfl).imp (oH (l:=(([x11,x14]:List Int):List Int)) (n:=2) rfl (by decide) rfl)
       have hp:=r5 hp
       have hp:=r5 hp
       obtain⟨x15,ex15,hl5⟩:=bnd hl5
       obtain⟨sl2,sl2e⟩:=aA.toSl hp 0 rfl
       have hlo3:=fun(w:World) (ty:TypeId)=>aA.len hp 0 rfl bC w ty
       refine s_tapp (wk0 rfl) rfl rfl hE sl2e (hp.get 0 rfl) rfl kU rfl rfl 1 rfl rfl (Hp.c 1 rfl 0 rfl w hp) ex15 ?_
       intro v3 us2 a w hE hp
       have hp:=r4 hp
       refine V hE hp rfl (xf hE iL rfl rfl) fun a hE=>?_
       refine oK (wk0 rfl) rfl hE hp rfl rfl rfl 2 rfl jD.size_ (bT.cells hp 1 rfl) (bT.one hp 1 rfl) rfl [(Iv x1),v3] rfl ?_
       intro w hp
       have hp:=r4 hp
       refine aC ?_
       have hE:=hE.cut (E':=[(0,(Iv p0)),(1,(Iv p1)),(4,(Pv b1 0)),(5,(Pv b2 0)),(9,(Iv lN)),(10,(Iv vV)),(11,(Iv F7))]) ⟨rfl,rfl,rfl,rfl,rfl,rfl,rfl,trivial⟩
       refine aB (S hE 1 rfl fun a hE=>?_)
       obtain⟨x16,ex16,hl5⟩:=bnd hl5
       refine V hE hp rfl (dD rfl hE rfl rfl (aZ ex16)) fun a hE=>S hE 1 rfl fun a hE=>aC ?_
       exact⟨_,(oj hl5).symm,_,_,hE.cut ⟨rfl,rfl,rfl,rfl,rfl,rfl,rfl,trivial⟩,(hp.drop)⟩
      replace hl5:=(ie hc10).symm.trans hl5
      refine dR ?_
      refine⟨_,(oj hl5).symm,fun hbb=>?_⟩
      subst hbb
      exact⟨_,_,hE.cut ⟨rfl,rfl,rfl,rfl,rfl,rfl,trivial⟩,hp⟩
     rintro a w ⟨w10q,us10q,hE,hp⟩
     refine aB (S hE 1 rfl fun a hE=>?_)
     obtain⟨x17,ex17,hl4⟩:=bnd hl4
     refine V hE hp rfl (dD rfl hE rfl rfl (aZ ex17)) fun a hE=>S hE 1 rfl fun a hE=>aC ?_
     exact⟨_,(oj hl4).symm,_,_,hE.cut ⟨rfl,rfl,rfl,rfl,rfl,rfl,trivial⟩,hp⟩
    replace hl4:=(ie hc8).symm.trans hl4
    refine dR ?_
    refine⟨_,(oj hl4).symm,fun hbb=>?_⟩
    subst hbb
    exact⟨_,_,hE.cut ⟨rfl,rfl,rfl,rfl,rfl,trivial⟩,hp⟩
   rintro a w ⟨w10,us10,hE,hp⟩
   refine aB (S hE 1 rfl fun a hE=>?_)
   obtain⟨x18,ex18,hl3⟩:=bnd hl3
   refine V hE hp rfl (dD rfl hE rfl rfl (aZ ex18)) fun a hE=>S hE 1 rfl fun a hE=>aC ?_
   exact⟨_,(oj hl3).symm,_,_,hE.cut ⟨rfl,rfl,rfl,rfl,rfl,trivial⟩,hp⟩
  replace hl3:=(ie hc6).symm.trans hl3
  refine dR ?_
  refine⟨_,(oj hl3).symm,fun hbb=>?_⟩
  subst hbb
  exact⟨_,_,hE.cut ⟨rfl,rfl,trivial⟩,hp⟩
 rintro a w ⟨w10q,us10q,hE,hp⟩
 refine aG (aB ?_)
 refine V hE hp rfl (bD rfl hE rfl (fun w hw=>gB (cs:=[(Iv x1),w10q]) fC (Hp.cN 1 rfl 0 _ (bV rfl) w hw))) fun a hE=>?_
 refine dO (wk0 rfl) rfl hE hp rfl rfl rfl 2 rfl fC.size_ rfl (bY ⟨rfl,(bT.one hp 0 rfl),trivial⟩) [(Iv x1),w10q] rfl ?_
 intro w hp
 have hp:=r3 hp
 refine aC (dE ?_)
 obtain rfl:=oj hm
 exact retc1 hE rfl rfl (rZ (cs:=[(Iv x1),w10q]) fC (Hp.cN 2 rfl 0 _ (bV rfl) _ hp)) ⟨_,rfl,_,_,rfl,((((hp.get 2 rfl).drop).get 1 rfl).drop)⟩
end Go.Proofs.Ytpkhmndpeipfmaa

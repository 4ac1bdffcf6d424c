/- The code goes as its model: assessor/assessorref28.Fits, assessor/assessorref28.With, assessor/assessorref28.Contains, assessor/assessorref28.All, assessor/asse -/
import Derived.Test.YtpkhmndpeipfmaaKLeT
import Derived.Test.YtpkhmndpeipfmaaKLe6
import Derived.Test.YtpkhmndpeipfmaaKLe19
set_option linter.unusedVariables false
set_option linter.unusedSimpArgs false
set_option maxRecDepth 100000
set_option maxHeartbeats 4000000
namespace Go.Proofs.Ytpkhmndpeipfmaa
open Go.RowKit
theorem xW {Z:World} {ρ:PH} {L:List bZ} {w:World} (p0:Formula) (aF:Value) (bH:bJ ρ aF p0.clauses) (p1:(List Int)) (vp1:Value) (hp1:bJ ρ vp1 p1) (p2:Int) (hp:Hp Z ρ (L) w) (r:Bool) (hm:kF p0 p1 p2=some r):
  Calls Try.prog 13 #[(.agg #[(Iv p0.vars),aF]),vp1,(Iv p2)] w (Ret fun v w'=>v=(.bool r)∧Hp Z ρ (L) w'):=by
 refine enter (N:=34) Try.func13 rfl rfl [(0,(.agg #[(Iv p0.vars),aF])),(1,vp1),(2,(Iv p2))] rfl (bT ⟨rfl,rfl,rfl,trivial⟩) fun a hE=>?_
 unfold kF at hm
 refine aG (aB ?_)
 refine qH (wk0 rfl) rfl rfl hE hp rfl (v:=(.agg #[(Iv p0.vars),aF])) rfl ?_
 intro a w b1 hE hp
 have hp:=r1 hp
 refine S hE 1 rfl fun a hE=>aC (aG ?_)
 refine aG (aB ?_)
 refine V hE hp rfl (aX rfl hE rfl (fun w hw=>eY (cs:=[(Iv p0.vars),aF]) fP (Hp.cN 0 rfl 0 _ (bW rfl) w hw))) fun a hE=>?_
 obtain⟨x1,ex1,hm⟩:=bnd hm
 refine Cl hE rfl rfl ent31 (tJ p0 aF bH hp x1 ex1) ⟨rfl,trivial⟩ fun v a w hR hE=>?_
 obtain⟨rfl,hp⟩:=hR
 have hp:=r1 hp
 refine S hE 2 rfl fun a hE=>?_
 refine iD [_,_,_] (fun a w=>Env 34 [(14,(.bool ((!x1)||(decide (p2<0))))),(1,vp1),(2,(Iv p2)),(3,(Pv b1 0))] a∧Hp Z ρ (Pt b1 (.cells #[(Iv p0.vars),aF] 24 (0,0))::L) w) ?_ ?_
 ·rcases Bool.eq_false_or_eq_true (!x1) with hc1|hc1
  ·
   refine Gk hE hc1 rfl fun a hE=>Gk hE hc1 rfl fun a hE=>pk1 hE hc1 rfl rfl rfl rfl fun a hE=>?_
   have hE:=hE.eqv (v':=(.bool ((!x1)||(decide (p2<0))))) (by rw[hc1];rfl)
   exact aC ⟨hE.cut ⟨rfl,rfl,rfl,rfl,trivial⟩,hp⟩
  refine Gs hE hc1 rfl rfl fun a hE=>Gs hE hc1 rfl rfl fun a hE=>pk0 hE hc1 rfl rfl rfl rfl fun a hE=>?_
  have hE:=hE.eqv (v':=(.bool ((!x1)||(decide (p2<0))))) (by rw[hc1];rfl)
  exact aC ⟨hE.cut ⟨rfl,rfl,rfl,rfl,trivial⟩,hp⟩
 rintro a w ⟨hE,hp⟩
 refine S hE 1 rfl fun a hE=>?_
 refine iD [_,_,_] (fun a w=>Env 34 [(18,(.bool (((!x1)||(decide (p2<0)))||(decide (65536<p2))))),(1,vp1),(3,(Pv b1 0))] a∧Hp Z ρ (Pt b1 (.cells #[(Iv p0.vars),aF] 24 (0,0))::L) w) ?_ ?_
 ·rcases Bool.eq_false_or_eq_true ((!x1)||(decide (p2<0))) with hc2|hc2
  ·
   refine Gk hE hc2 rfl fun a hE=>Gk hE hc2 rfl fun a hE=>pk1 hE hc2 rfl rfl rfl rfl fun a hE=>?_
   have hE:=hE.eqv (v':=(.bool (((!x1)||(decide (p2<0)))||(decide (65536<p2))))) (by rw[hc2];rfl)
   exact aC ⟨hE.cut ⟨rfl,rfl,rfl,trivial⟩,hp⟩
  refine Gs hE hc2 rfl rfl fun a hE=>Gs hE hc2 rfl rfl fun a hE=>pk0 hE hc2 rfl rfl rfl rfl fun a hE=>?_
  have hE:=hE.eqv (v':=(.bool (((!x1)||(decide (p2<0)))||(decide (65536<p2))))) (by rw[hc2];rfl)
  exact aC ⟨hE.cut ⟨rfl,rfl,rfl,trivial⟩,hp⟩
 rintro a w ⟨hE,hp⟩
 refine aC ?_
 refine dK hE rfl (fun hc3=>?_) (fun hc3=>?_)
 ·replace hm:=(it hc3).symm.trans hm
  refine aG (aB ?_)
  refine S hE 1 rfl fun a hE=>aC (dC ?_)
  obtain rfl:=oj hm
  exact gK hE rfl rfl ⟨_,rfl,rfl,(hp.drop)⟩
 replace hm:=(ie hc3).symm.trans hm
 refine bQ (aG ?_)
 refine aG (aB ?_)
 refine S hE 1 rfl fun a hE=>aC ?_
 obtain⟨b2,hc4,hm⟩:=bnd hm
 refine dI (fun a w=>∃s:Unit,b2= .brk s∧(Env 34 [] a∧Hp Z ρ (Pt b1 (.cells #[(Iv p0.vars),aF] 24 (0,0))::L) w)) ?_ ?_
 ·refine eX hc4 (fun s a w=>Env 34 [(1,vp1),(3,(Pv b1 0)),(7,(Iv s))] a∧Hp Z ρ (Pt b1 (.cells #[(Iv p0.vars),aF] 24 (0,0))::L) w) ?_ ?_
  ·exact⟨hE.cut ⟨rfl,rfl,rfl,trivial⟩,hp⟩
  rintro aW st a w ⟨hE,hp⟩ hl1
  unfold oU at hl1
  refine aG (aG ?_)
  refine aB (S hE 2 rfl fun a hE=>?_)
  refine V hE hp rfl (dD rfl hE rfl (bJ.len hp1 aY)) fun a hE=>S hE 1 rfl fun a hE=>aC ?_
  have hE:=hE.cut (E':=[(1,vp1),(3,(Pv b1 0)),(7,(Iv aW)),(22,(.bool (decide (aW<(p1.length:Int)))))]) ⟨rfl,rfl,rfl,rfl,trivial⟩
  refine dK hE rfl (fun hc5=>?_) (fun hc5=>?_)
  ·replace hl1:=(it hc5).symm.trans hl1
   refine bQ (aG ?_)
   refine dG (aG ?_)
   refine lG (by kernel_rfl) (by kernel_rfl) hp ?_
   refine Sq hE 3 rfl fun a hE=>?_
   obtain⟨x2,ex2,hl1⟩:=bnd hl1
   refine Vq hE rfl (dH rfl hE rfl rfl (bD ex2)) fun a hE=>?_
   obtain⟨x3,ex3,hl1⟩:=bnd hl1
   obtain⟨v1,v1r,f1⟩:=bJ.part hp1 aY (some (.i64,aW)) (some (.i64,x2)) rfl rfl ex3
   refine Vq hE rfl (wW rfl hE rfl (some (.i64,aW)) (some (.i64,x2)) (by exact rfl) (by exact rfl) v1r) fun a hE=>Vq hE rfl (xf hE kP rfl rfl) fun a hE=>Vq hE rfl (xl hE bG 0 rfl rfl rfl rfl) fun a hE=>?_
   obtain⟨x4,ex4,hl1⟩:=bnd hl1
   refine vF (wk0 rfl) rfl rfl hE rfl [v1,(Iv p0.vars)] ⟨rfl,rfl,trivial⟩ ent32 (v:=(.bool x4)) (fun w hw=>Calls.mono (oP x3 v1 f1 p0.vars hw x4 ex4) fun e w' ⟨v,he,hv,hh⟩=>⟨by rw[he,hv],hh⟩) ?_
   intro a hE
   refine Sq hE 1 rfl fun a hE=>?_
   refine oO fun w hp=>?_
   have hp:=r1 hp
   refine dK hE rfl (fun hc6=>?_) (fun hc6=>?_)
   ·replace hl1:=(it hc6).symm.trans hl1
    refine aG (aB ?_)
    refine S hE 1 rfl fun a hE=>aC (dC ?_)
    refine⟨_,(oj hl1).symm,fun hb=>?_⟩
    subst hb
    obtain rfl:=oj hm
    exact gK hE rfl rfl ⟨_,rfl,rfl,(hp.drop)⟩
   replace hl1:=(ie hc6).symm.trans hl1
   refine bQ (aB ?_)
   refine S hE 1 rfl fun a hE=>?_
   obtain⟨x5,ex5,hl1⟩:=bnd hl1
   refine V hE hp rfl (dH rfl hE rfl rfl (bD ex5)) fun a hE=>S hE 1 rfl fun a hE=>aC ?_
   exact⟨_,(oj hl1).symm,hE.cut ⟨rfl,rfl,rfl,trivial⟩,hp⟩
  replace hl1:=(ie hc5).symm.trans hl1
  refine dR ?_
  refine⟨_,(oj hl1).symm,fun hbb=>?_⟩
  exact⟨_,hbb.symm,hE.cut trivial,hp⟩
 rintro a w ⟨b2s,rfl,hE,hp⟩
 dsimp only at hm
 refine aG (aB ?_)
 refine S hE 1 rfl fun a hE=>aC (dC ?_)
 obtain rfl:=oj hm
 exact gK hE rfl rfl ⟨_,rfl,rfl,(hp.drop)⟩
theorem xX {Z:World} {ρ:PH} {L:List bZ} {w:World} (p0:Formula) (aF:Value) (bH:bJ ρ aF p0.clauses) (p1:(List Int)) (vp1:Value) (hp1:bJ ρ vp1 p1) (hp:Hp Z ρ (L) w) (r:Formula) (hm:jE p0 p1=some r):
  Calls Try.prog 26 #[(.agg #[(Iv p0.vars),aF]),vp1] w (Ret fun v w'=>∃(ρ':PH) (yI:Value),ρ.le ρ'∧v=(.agg #[(Iv r.vars),yI])∧bJ ρ' yI r.clauses∧Hp Z ρ' (L) w'):=by
 refine enter (N:=20) Try.func26 rfl rfl [(0,(.agg #[(Iv p0.vars),aF])),(1,vp1)] rfl (bT ⟨rfl,rfl,trivial⟩) fun a hE=>?_
 unfold jE at hm
 refine aG (aB ?_)
 refine qH (wk0 rfl) rfl rfl hE hp rfl (v:=(.agg #[(Iv p0.vars),aF])) rfl ?_
 intro a w b1 hE hp
 have hp:=r1 hp
 refine sQ (wk0 rfl) rfl rfl hE hp rfl [(Iv 0),N0] (fun w=>by simp[Instr.alloc,go_sem]<;>rfl) ?_
 intro a w b2 hE hp
 have hp:=r2 hp
 refine aC (aG ?_)
 refine aG (aB ?_)
 refine S hE 1 rfl fun a hE=>aC ?_
 obtain⟨b3,hc1,hm⟩:=bnd hm
 refine dI (fun a w=>∃(ρ1:PH) (rW:Value),ρ.le ρ1∧bJ ρ1 rW b3.2∧Env 20 [(2,(Pv b1 0)),(4,(Pv b2 0))] a∧Hp Z ρ1 (Pt b2 (.cells #[(Iv 0),N0] 24 (0,0))::Pt b1 (.cells #[(Iv b3.1),rW] 24 (0,0))::L) w) ?_ ?_
 ·refine eX hc1 (fun s a w=>∃(ρ1:PH) (rW:Value),ρ.le ρ1∧bJ ρ1 rW s.2.2∧Env 20 [(1,vp1),(2,(Pv b1 0)),(4,(Pv b2 0)),(5,(Iv s.1))] a∧Hp Z ρ1 (Pt b2 (.cells #[(Iv 0),N0] 24 (0,0))::Pt b1 (.cells #[(Iv s.2.1),rW] 24 (0,0))::L) w) ?_ ?_
  ·exact⟨ρ,_,(PH.le.rf _),bH,hE.cut ⟨rfl,rfl,rfl,rfl,trivial⟩,hp⟩
  rintro⟨aW,bU,dJ⟩ st a w ⟨ρ1,rW,hlg1,X0,hE,hp⟩ hl1
  dsimp only at hE hp hlg1 X0 hl1
  unfold lU at hl1
  refine aG (aG ?_)
  refine aB (S hE 2 rfl fun a hE=>?_)
  refine V hE hp rfl (dD rfl hE rfl (bJ.len (bJ.mono hp1 hlg1) aY)) fun a hE=>S hE 1 rfl fun a hE=>aC ?_
  refine dK hE rfl (fun hc2=>?_) (fun hc2=>?_)
  ·replace hl1:=(it hc2).symm.trans hl1
   refine bQ (aG ?_)
   refine dG ?_
   obtain⟨x1,ex1,hl1⟩:=bnd hl1
   obtain⟨x2,ex2,hl1⟩:=bnd hl1
   have hp:=hp.drew
   refine jT ([([],At0 Z ρ1),([7],At1 Z ρ1 (Pt b1 (.cells #[(Iv bU),rW] 24 (0,0))))]:Facts) (fun a w=>∃ρy1:PH,∃yv1:Value,ρ1.le ρy1∧bJ ρy1 yv1 x2.clauses∧Env 20 [(1,vp1),(2,(Pv b1 0)),(4,(Pv b2 0)),(5,(Iv aW))] a∧Hp Z ρy1 (Pt b2 (.cells #[(Iv 0),N0] 24 (0,0))::Pt b1 (.cells #[(Iv x2.vars),yv1] 24 (0,0))::L) w) (by kernel_rfl) ⟨fun _=>⟨_,hp⟩,fun _=>⟨_,(hp.get 1 rfl)⟩,trivial⟩ (fun hS=>?_) ?_
   ·
    generalize w.drew=w at hS hp⊢
    refine T 0 1 hE hS rfl rfl rfl (by kernel_rfl) (fun _=>aX rfl hE rfl (fun w hw=>eY (cs:=[(Iv bU),rW]) fP (Hp.cN 0 rfl 0 _ (bW rfl) w hw))) fun a hE hS=>Ts [1,2] hE hS rfl rfl (by kernel_rfl) fun a hE hS=>?_
    obtain⟨b6,b6o,b6c,b6r,b6k,b6f⟩:=bJ.at (bJ.mono hp1 hlg1) aY ex1
    obtain rfl:b6c=Enc.enc x1:=b6k
    have b6f:AtP ρ1 b6 b6o [(Iv x1)]:=b6f
    refine T0 3 hE hS rfl rfl rfl (by kernel_rfl) (fun _=>aS rfl hE rfl rfl b6r) fun a hE hS=>T0 4 hE hS rfl rfl rfl (by kernel_rfl) (fun _=>aX rfl hE rfl (fun w hw=>bF bG (b6f.c 0 rfl w hw))) fun a hE hS=>?_
    refine W1 5 (by kernel_rfl) rfl ?_
    refine jJ (wk0 rfl) rfl rfl hE hp rfl [(0,(Iv x1))] ⟨⟨rfl,rfl⟩,trivial⟩ [(Iv x1)] 3 (fun w=>by simp[Instr.buildSlice,Instr.fill,Value.cells,go_sem]) ?_
    intro a w b7 hE hp
    have hp:=r3 hp
    refine aC (aI ⟨gp0 hp,gp 2 hp rfl,trivial⟩ fun hS=>?_)
    refine W1 6 (by kernel_rfl) rfl ?_
    have hp:=(hp.get 0 rfl).imp (pR (l:=(([x1]:List Int):List Int)) (n:=1) rfl (by decide) rfl)
    have hp:=r3 hp
    obtain⟨k2,k2a,k2d,hp⟩:=(hp.get 0 rfl).lend
    have f2:bJ (ρ1.un k2) (.slice (some ⟨b7,0,none⟩) 1 1) ([x1]:List Int):=aA.ro k2d k2a
    have hp:=r2 hp
    refine Cl hE rfl rfl ent23 (xU (Formula.mk bU dJ) rW (bJ.mono X0 (PH.le_un _ k2)) ([x1]:List Int) (.slice (some ⟨b7,0,none⟩) 1 1) f2 hp x2 ex2) ⟨rfl,rfl,trivial⟩ fun v a w hR hE=>?_
    obtain⟨ρ3,vr2_clauses,hle2,rfl,hr2_clauses,hp⟩:=hR
    have hp:=r2 hp
    refine aC (aI ⟨fun _=>⟨_,((hp.less hle2).less (PH.le_un _ k2))⟩,fun _=>⟨_,(((hp.get 1 rfl).less hle2).less (PH.le_un _ k2))⟩,trivial⟩ fun hS=>?_)
    refine W1 7 (by kernel_rfl) rfl ?_
    refine dW (wk0 rfl) rfl hE hp rfl rfl rfl 1 rfl fP.size_ rfl (cO ⟨rfl,(bJ.one hr2_clauses),trivial⟩) [(Iv x2.vars),vr2_clauses] rfl ?_
    intro w hp
    have hp:=r2 hp
    refine aC (aI ⟨fun _=>⟨_,((hp.less hle2).less (PH.le_un _ k2))⟩,dead (by kernel_rfl),trivial⟩ fun hS=>?_)
    exact dX (by kernel_rfl) ⟨ρ3,_,(PH.le.tr (PH.le_un _ k2) hle2),hr2_clauses,hE.cut ⟨rfl,rfl,rfl,rfl,trivial⟩,hp⟩
   rintro a w ⟨ρy1,yv1,hley1,yh1,hE,hp⟩
   refine aB (S hE 1 rfl fun a hE=>?_)
   obtain⟨x3,ex3,hl1⟩:=bnd hl1
   refine V hE hp rfl (dH rfl hE rfl rfl (bD ex3)) fun a hE=>S hE 1 rfl fun a hE=>aC ?_
   exact⟨_,(oj hl1).symm,ρy1,_,(PH.le.tr hlg1 hley1),yh1,hE.cut ⟨rfl,rfl,rfl,rfl,trivial⟩,hp⟩
  replace hl1:=(ie hc2).symm.trans hl1
  refine dR ?_
  refine⟨_,(oj hl1).symm,fun hbb=>?_⟩
  subst hbb
  exact⟨ρ1,_,hlg1,X0,hE.cut ⟨rfl,rfl,trivial⟩,hp⟩
 rintro a w ⟨ρ1,rW,hlg1,X0,hE,hp⟩
 refine aG (aB ?_)
 refine V hE hp rfl (aX rfl hE rfl (fun w hw=>eY (cs:=[(Iv b3.1),rW]) fP (Hp.cN 1 rfl 0 _ (bW rfl) w hw))) fun a hE=>?_
 refine dW (wk0 rfl) rfl hE hp rfl rfl rfl 0 rfl fP.size_ rfl (cO ⟨rfl,(bJ.one X0),trivial⟩) [(Iv b3.1),rW] rfl ?_
 intro w hp
 have hp:=r2 hp
 refine aC (dC ?_)
 obtain rfl:=oj hm
 exact retc1 hE rfl rfl (uT (cs:=[(Iv b3.1),rW]) fP (Hp.cN 0 rfl 0 _ (bW rfl) _ hp)) ⟨_,rfl,_,_,hlg1,rfl,X0,(((hp.get 1 rfl).drop).drop)⟩
theorem oQ {Z:World} {ρ:PH} {L:List bZ} {w:World} (p0:(List Int)) (vp0:Value) (hp0:bJ ρ vp0 p0) (p1:Int) (hp:Hp Z ρ (L) w) (r:Bool) (hm:gV p0 p1=some r):
  Calls Try.prog 40 #[vp0,(Iv p1)] w (Ret fun v w'=>v=(.bool r)∧Hp Z ρ (L) w'):=by
 refine enter (N:=13) Try.func40 rfl rfl [(0,vp0),(1,(Iv p1))] rfl (bT ⟨rfl,rfl,trivial⟩) fun a hE=>?_
 unfold gV at hm
 refine aG (aB ?_)
 refine S hE 1 rfl fun a hE=>aC (aG ?_)
 refine aB (S hE 2 rfl fun a hE=>?_)
 obtain⟨x1,ex1,hm⟩:=bnd hm
 refine Cl hE rfl rfl ent25 (gQ p1 hp x1 ex1) ⟨rfl,trivial⟩ fun v a w hR hE=>?_
 obtain⟨rfl,hp⟩:=hR
 have hp:=r0 hp
 obtain⟨x2,ex2,hm⟩:=bnd hm
 refine V hE hp rfl (tX rfl hE rfl rfl (bD ex2)) fun a hE=>?_
 obtain⟨x3,ex3,hm⟩:=bnd hm
 obtain⟨b1,b1o,b1c,b1r,b1k,b1f⟩:=bJ.at hp0 aY ex3
 obtain rfl:b1c=Enc.enc x3:=b1k
 have b1f:AtP ρ b1 b1o [(Iv x3)]:=b1f
 refine V hE hp rfl (aS rfl hE rfl rfl b1r) fun a hE=>V hE hp rfl (aX rfl hE rfl (fun w hw=>bF bG (b1f.c 0 rfl w hw))) fun a hE=>S hE 3 rfl fun a hE=>aC (dC ?_)
 obtain rfl:=oj hm
 exact gK hE rfl rfl ⟨_,rfl,rfl,hp⟩
theorem zC {Z:World} {ρ:PH} {L:List bZ} {w:World} (p0:(List Int)) (vp0:Value) (hp0:bJ ρ vp0 p0) (p1:(List Int)) (vp1:Value) (hp1:bJ ρ vp1 p1) (hp:Hp Z ρ (L) w) (r:Bool) (hm:lD p0 p1=some r):
  Calls Try.prog 35 #[vp0,vp1] w (Ret fun v w'=>v=(.bool r)∧Hp Z ρ (L) w'):=by
 refine enter (N:=19) Try.func35 rfl rfl [(0,vp0),(1,vp1)] rfl (bT ⟨rfl,rfl,trivial⟩) fun a hE=>?_
 unfold lD at hm
 refine aG (aB ?_)
 refine S hE 1 rfl fun a hE=>aC (aG ?_)
 refine aG (aB ?_)
 refine S hE 1 rfl fun a hE=>aC ?_
 obtain⟨b1,hc1,hm⟩:=bnd hm
 refine dI (fun a w=>∃s:Unit,b1= .brk s∧(Env 19 [] a∧Hp Z ρ (L) w)) ?_ ?_
 ·refine eX hc1 (fun s a w=>Env 19 [(0,vp0),(1,vp1),(5,(Iv s))] a∧Hp Z ρ (L) w) ?_ ?_
  ·exact⟨hE.cut ⟨rfl,rfl,rfl,trivial⟩,hp⟩
  rintro aW st a w ⟨hE,hp⟩ hl1
  unfold pM at hl1
  refine aG (aG ?_)
  refine aB (S hE 2 rfl fun a hE=>?_)
  refine V hE hp rfl (dD rfl hE rfl (bJ.len hp1 aY)) fun a hE=>S hE 1 rfl fun a hE=>aC ?_
  refine dK hE rfl (fun hc2=>?_) (fun hc2=>?_)
  ·replace hl1:=(it hc2).symm.trans hl1
   refine bQ (aG ?_)
   refine dG (aG ?_)
   refine aB (S hE 3 rfl fun a hE=>?_)
   obtain⟨x1,ex1,hl1⟩:=bnd hl1
   obtain⟨b2,b2o,b2c,b2r,b2k,b2f⟩:=bJ.at hp1 aY ex1
   obtain rfl:b2c=Enc.enc x1:=b2k
   have b2f:AtP ρ b2 b2o [(Iv x1)]:=b2f
   refine V hE hp rfl (aS rfl hE rfl rfl b2r) fun a hE=>V hE hp rfl (aX rfl hE rfl (fun w hw=>bF bG (b2f.c 0 rfl w hw))) fun a hE=>?_
   obtain⟨x2,ex2,hl1⟩:=bnd hl1
   refine Cl hE rfl rfl ent40 (oQ p0 vp0 hp0 x1 hp x2 ex2) ⟨rfl,rfl,trivial⟩ fun v a w hR hE=>?_
   obtain⟨rfl,hp⟩:=hR
   have hp:=r0 hp
   refine S hE 1 rfl fun a hE=>aC ?_
   have hE:=hE.cut (E':=[(0,vp0),(1,vp1),(5,(Iv aW)),(18,(.bool (!x2)))]) ⟨rfl,rfl,rfl,rfl,trivial⟩
   refine dK hE rfl (fun hc3=>?_) (fun hc3=>?_)
   ·replace hl1:=(it hc3).symm.trans hl1
    refine aG (aB ?_)
    refine S hE 1 rfl fun a hE=>aC (dC ?_)
    refine⟨_,(oj hl1).symm,fun hb=>?_⟩
    subst hb
    obtain rfl:=oj hm
    exact gK hE rfl rfl ⟨_,rfl,rfl,hp⟩
   replace hl1:=(ie hc3).symm.trans hl1
   refine bQ (aB ?_)
   refine S hE 1 rfl fun a hE=>?_
   obtain⟨x3,ex3,hl1⟩:=bnd hl1
   refine V hE hp rfl (dH rfl hE rfl rfl (bD ex3)) fun a hE=>S hE 1 rfl fun a hE=>aC ?_
   exact⟨_,(oj hl1).symm,hE.cut ⟨rfl,rfl,rfl,trivial⟩,hp⟩
  replace hl1:=(ie hc2).symm.trans hl1
  refine dR ?_
  refine⟨_,(oj hl1).symm,fun hbb=>?_⟩
  exact⟨_,hbb.symm,hE.cut trivial,hp⟩
 rintro a w ⟨b1s,rfl,hE,hp⟩
 dsimp only at hm
 refine aG (aB ?_)
 refine S hE 1 rfl fun a hE=>aC (dC ?_)
 obtain rfl:=oj hm
 exact gK hE rfl rfl ⟨_,rfl,rfl,hp⟩
theorem tK {Z:World} {ρ:PH} {L:List bZ} {w:World} (p0:(List Int)) (vp0:Value) (hp0:bJ ρ vp0 p0) (p1:(List Int)) (vp1:Value) (hp1:bJ ρ vp1 p1) (p2:(List Int)) (vp2:Value) (hp2:bJ ρ vp2 p2) (hp:Hp Z ρ (L) w) (r:Bool) (hm:kG p0 p1 p2=some r):
  Calls Try.prog 18 #[vp0,vp1,vp2] w (Ret fun v w'=>v=(.bool r)∧Hp Z ρ (L) w'):=by
 refine enter (N:=33) Try.func18 rfl rfl [(0,vp0),(1,vp1),(2,vp2)] rfl (bT ⟨rfl,rfl,rfl,trivial⟩) fun a hE=>?_
 unfold kG at hm
 refine aG (aB ?_)
 refine S hE 1 rfl fun a hE=>aC (aG ?_)
 refine aG (aB ?_)
 refine S hE 1 rfl fun a hE=>aC ?_
 obtain⟨b1,hc1,hm⟩:=bnd hm
 refine dI (fun a w=>∃s:Unit,b1= .brk s∧(Env 33 [] a∧Hp Z ρ (L) w)) ?_ ?_
 ·refine eX hc1 (fun s a w=>Env 33 [(0,vp0),(1,vp1),(2,vp2),(7,(Iv s))] a∧Hp Z ρ (L) w) ?_ ?_
  ·exact⟨hE.cut ⟨rfl,rfl,rfl,rfl,trivial⟩,hp⟩
  rintro aW st a w ⟨hE,hp⟩ hl1
  unfold lT at hl1
  refine aG (aG ?_)
  refine aB (S hE 2 rfl fun a hE=>?_)
  refine V hE hp rfl (dD rfl hE rfl (bJ.len hp2 aY)) fun a hE=>S hE 1 rfl fun a hE=>aC ?_
  refine dK hE rfl (fun hc2=>?_) (fun hc2=>?_)
  ·replace hl1:=(it hc2).symm.trans hl1
   refine bQ (aG ?_)
   refine dG (aG ?_)
   refine lG (by kernel_rfl) (by kernel_rfl) hp ?_
   refine Sq hE 3 rfl fun a hE=>?_
   obtain⟨x1,ex1,hl1⟩:=bnd hl1
   obtain⟨b2,b2o,b2c,b2r,b2k,b2f⟩:=bJ.at hp2 aY ex1
   obtain rfl:b2c=Enc.enc x1:=b2k
   have b2f:AtP ρ b2 b2o [(Iv x1)]:=b2f
   refine Vq hE rfl (aS rfl hE rfl rfl b2r) fun a hE=>Vq hE rfl (aX rfl hE rfl (fun w hw=>bF bG (b2f.c 0 rfl w hw))) fun a hE=>?_
   obtain⟨x2,ex2,hl1⟩:=bnd hl1
   refine vF (wk0 rfl) rfl rfl hE rfl [vp0,(Iv x1)] ⟨rfl,rfl,trivial⟩ ent40 (v:=(.bool x2)) (fun w hw=>Calls.mono (oQ p0 vp0 hp0 x1 hw x2 ex2) fun e w' ⟨v,he,hv,hh⟩=>⟨by rw[he,hv],hh⟩) ?_
   intro a hE
   refine Sq hE 3 rfl fun a hE=>?_
   obtain⟨x3,ex3,hl1⟩:=bnd hl1
   obtain⟨b3,b3o,b3c,b3r,b3k,b3f⟩:=bJ.at hp2 aY ex3
   obtain rfl:b3c=Enc.enc x3:=b3k
   have b3f:AtP ρ b3 b3o [(Iv x3)]:=b3f
   refine Vq hE rfl (aS rfl hE rfl rfl b3r) fun a hE=>Vq hE rfl (aX rfl hE rfl (fun w hw=>bF bG (b3f.c 0 rfl w hw))) fun a hE=>?_
   obtain⟨x4,ex4,hl1⟩:=bnd hl1
   refine vF (wk0 rfl) rfl rfl hE rfl [vp1,(Iv x3)] ⟨rfl,rfl,trivial⟩ ent40 (v:=(.bool x4)) (fun w hw=>Calls.mono (oQ p1 vp1 hp1 x3 hw x4 ex4) fun e w' ⟨v,he,hv,hh⟩=>⟨by rw[he,hv],hh⟩) ?_
   intro a hE
   refine Vq hE rfl (v:=(.bool (!(x2==x4)))) (ex_bneq bty4 rfl hE rfl rfl) fun a hE=>?_
   refine oO fun w hp=>?_
   have hp:=r0 hp
   refine dK hE rfl (fun hc3=>?_) (fun hc3=>?_)
   ·replace hl1:=(it hc3).symm.trans hl1
    refine aG (aB ?_)
    refine S hE 3 rfl fun a hE=>?_
    obtain⟨x5,ex5,hl1⟩:=bnd hl1
    obtain⟨b4,b4o,b4c,b4r,b4k,b4f⟩:=bJ.at hp2 aY ex5
    obtain rfl:b4c=Enc.enc x5:=b4k
    have b4f:AtP ρ b4 b4o [(Iv x5)]:=b4f
    refine V hE hp rfl (aS rfl hE rfl rfl b4r) fun a hE=>V hE hp rfl (aX rfl hE rfl (fun w hw=>bF bG (b4f.c 0 rfl w hw))) fun a hE=>?_
    obtain⟨x6,ex6,hl1⟩:=bnd hl1
    refine Cl hE rfl rfl ent40 (oQ p1 vp1 hp1 x5 hp x6 ex6) ⟨rfl,rfl,trivial⟩ fun v a w hR hE=>?_
    obtain⟨rfl,hp⟩:=hR
    have hp:=r0 hp
    refine S hE 1 rfl fun a hE=>aC ?_
    have hE:=hE.cut (E':=[(6,(.bool x6))]) ⟨rfl,trivial⟩
    refine dC ?_
    refine⟨_,(oj hl1).symm,fun hb=>?_⟩
    subst hb
    obtain rfl:=oj hm
    exact gK hE rfl rfl ⟨_,rfl,rfl,hp⟩
   replace hl1:=(ie hc3).symm.trans hl1
   refine bQ (aB ?_)
   refine S hE 1 rfl fun a hE=>?_
   obtain⟨x7,ex7,hl1⟩:=bnd hl1
   refine V hE hp rfl (dH rfl hE rfl rfl (bD ex7)) fun a hE=>S hE 1 rfl fun a hE=>aC ?_
   exact⟨_,(oj hl1).symm,hE.cut ⟨rfl,rfl,rfl,rfl,trivial⟩,hp⟩
  replace hl1:=(ie hc2).symm.trans hl1
  refine dR ?_
  refine⟨_,(oj hl1).symm,fun hbb=>?_⟩
  exact⟨_,hbb.symm,hE.cut trivial,hp⟩
 rintro a w ⟨b1s,rfl,hE,hp⟩
 dsimp only at hm
 refine aG (aB ?_)
 refine S hE 1 rfl fun a hE=>aC (dC ?_)
 obtain rfl:=oj hm
 exact gK hE rfl rfl ⟨_,rfl,rfl,hp⟩
theorem Y6 {Z:World} {ρ:PH} {L:List bZ} {w:World} (p0:Formula) (aF:Value) (bH:bJ ρ aF p0.clauses) (p1:(List Int)) (vp1:Value) (hp1:bJ ρ vp1 p1) (p2:(List Int)) (vp2:Value) (hp2:bJ ρ vp2 p2) (hp:Hp Z ρ (L) w) (r:((List Int)×Bool)) (hm:pF p0 p1 p2=some r):
  Calls Try.prog 16 #[(.agg #[(Iv p0.vars),aF]),vp1,vp2] w (Ret fun v w'=>∃(vr1:Value),v= .tuple #[vr1,(.bool r.2)]∧Hp Z ρ (aA 3 vr1 r.1::L) w'):=by
 refine enter (N:=45) Try.func16 rfl rfl [(0,(.agg #[(Iv p0.vars),aF])),(1,vp1),(2,vp2)] rfl (bT ⟨rfl,rfl,rfl,trivial⟩) fun a hE=>?_
 unfold pF at hm
 refine aG (aB ?_)
 refine qH (wk0 rfl) rfl rfl hE hp rfl (v:=(.agg #[(Iv p0.vars),aF])) rfl ?_
 intro a w b1 hE hp
 have hp:=r1 hp
 refine S hE 2 rfl fun a hE=>aC (aG ?_)
 refine aB ?_
 refine jJ (wk0 rfl) rfl rfl hE hp rfl [] trivial [] 3 (fun w=>by simp[Instr.buildSlice,Instr.fill,Value.cells,go_sem]) ?_
 intro a w b2 hE hp
 have hp:=r2 hp
 refine S hE 2 rfl fun a hE=>aC (aG ?_)
 refine aG (aB ?_)
 refine S hE 1 rfl fun a hE=>aC ?_
 have hp:=(hp.get 0 rfl).imp (pR (l:=(([]:List Int):List Int)) (n:=0) rfl (by decide) rfl)
 have hp:=r2 hp
 obtain⟨b3,hc1,hm⟩:=bnd hm
 refine dI (fun a w=>∃(w3:Value),Env 45 [(8,w3),(9,(.bool b3.1))] a∧Hp Z ρ (aA 3 w3 b3.2::Pt b1 (.cells #[(Iv p0.vars),aF] 24 (0,0))::L) w) ?_ ?_
 ·refine eX hc1 (fun s a w=>∃(w3:Value),Env 45 [(1,vp1),(2,vp2),(3,(Pv b1 0)),(8,w3),(9,(.bool s.1)),(10,(Iv s.2.1))] a∧Hp Z ρ (aA 3 w3 s.2.2::Pt b1 (.cells #[(Iv p0.vars),aF] 24 (0,0))::L) w) ?_ ?_
  ·exact⟨_,hE.cut ⟨rfl,rfl,rfl,rfl,rfl,rfl,trivial⟩,hp⟩
  rintro⟨aW,bU,dJ⟩ st a w ⟨w3,hE,hp⟩ hl1
  dsimp only at hE hp hl1
  unfold lS at hl1
  refine aG (aG ?_)
  refine aB (S hE 1 rfl fun a hE=>?_)
  refine V hE hp rfl (xf hE kP rfl rfl) fun a hE=>V hE hp rfl (xl hE bG 1 rfl rfl rfl rfl) fun a hE=>?_
  obtain⟨x1,ex1,hl1⟩:=bnd hl1
  refine V hE hp rfl (v:=(Iv x1)) (ex_shl rfl hE rfl rfl ex1) fun a hE=>S hE 1 rfl fun a hE=>aC ?_
  refine dK hE rfl (fun hc2=>?_) (fun hc2=>?_)
  ·replace hl1:=(it hc2).symm.trans hl1
   refine bQ (aG ?_)
   refine dG (aG ?_)
   refine aB (V hE hp rfl (xf hE kP rfl rfl) fun a hE=>?_)
   refine V hE hp rfl (xl hE bG 1 rfl rfl rfl rfl) fun a hE=>S hE 1 rfl fun a hE=>?_
   obtain⟨x2,ex2,hl1⟩:=bnd hl1
   refine s_call (wk0 rfl) rfl rfl hE rfl [(Iv p0.vars),(Iv bU)] ⟨rfl,rfl,trivial⟩ ent37 (Y0 p0.vars bU hp x2 ex2) Ret.ret ?_
   intro vr1 a w hR hE
   obtain⟨u,rfl,hp⟩:=Ret.of hR
   have hp:=r3 hp
   refine S hE 1 rfl fun a hE=>aC ?_
   have hE:=hE.cut (E':=[(1,vp1),(2,vp2),(3,(Pv b1 0)),(8,w3),(9,(.bool aW)),(10,(Iv bU)),(11,vr1)]) ⟨rfl,rfl,rfl,rfl,rfl,rfl,rfl,trivial⟩
   refine aG (aB ?_)
   refine V hE hp rfl (aX rfl hE rfl (fun w hw=>eY (cs:=[(Iv p0.vars),aF]) fP (Hp.cN 2 rfl 0 _ (bW rfl) w hw))) fun a hE=>S hE 1 rfl fun a hE=>?_
   obtain⟨k1,k1a,k1d,k1h⟩:=(hp.get 0 rfl).lend
   obtain⟨x3,ex3,hl1⟩:=bnd hl1
   refine Cl hE rfl rfl ent34 (wS p0 aF (bJ.mono bH (PH.le_un _ _)) x2 vr1 (aA.ro k1d k1a) k1h x3 ex3) ⟨rfl,rfl,trivial⟩ fun v a w hR hE=>?_
   obtain⟨rfl,hp⟩:=hR
   have hp:=Hp.back k1a k1d hp
   have hp:=r3 hp
   refine S hE 1 rfl fun a hE=>?_
   obtain⟨m1,hg1,hl1⟩:=bnd hl1
   refine iD [_,_,_,_] (fun a w=>Env 45 [(31,(.bool m1)),(1,vp1),(2,vp2),(3,(Pv b1 0)),(8,w3),(9,(.bool aW)),(10,(Iv bU)),(11,vr1)] a∧Hp Z ρ (aA 3 vr1 x2::aA 3 w3 dJ::Pt b1 (.cells #[(Iv p0.vars),aF] 24 (0,0))::L) w) ?_ ?_
   ·rcases Bool.eq_false_or_eq_true x3 with hc3|hc3
    ·
     replace hg1:=(it hc3).symm.trans hg1
     refine Gs hE hc3 rfl rfl fun a hE=>Gs hE hc3 rfl rfl fun a hE=>?_
     obtain⟨k2,k2a,k2d,k2h⟩:=(hp.get 0 rfl).lend
     obtain⟨x4,ex4,hg1⟩:=bnd hg1
     refine Cg hE hc3 rfl rfl ent35 (zC x2 vr1 (aA.ro k2d k2a) p1 vp1 (bJ.mono hp1 (PH.le_un _ _)) k2h x4 ex4) ⟨rfl,rfl,trivial⟩ fun v a w hR hE=>?_
     obtain⟨rfl,hp⟩:=hR
     have hp:=Hp.back k2a k2d hp
     have hp:=r3 hp
     refine pk1 hE hc3 rfl rfl rfl rfl fun a hE=>?_
     obtain rfl:=oj hg1
     exact aC ⟨hE.cut ⟨rfl,rfl,rfl,rfl,rfl,rfl,rfl,rfl,trivial⟩,hp⟩
    replace hg1:=(ie hc3).symm.trans hg1
    refine Gk hE hc3 rfl fun a hE=>Gk hE hc3 rfl fun a hE=>Gk hE hc3 rfl fun a hE=>pk0 hE hc3 rfl rfl rfl rfl fun a hE=>?_
    obtain rfl:=oj hg1
    exact aC ⟨hE.cut ⟨rfl,rfl,rfl,rfl,rfl,rfl,rfl,rfl,trivial⟩,hp⟩
   rintro a w ⟨hE,hp⟩
   refine S hE 1 rfl fun a hE=>?_
   obtain⟨m2,hg2,hl1⟩:=bnd hl1
   refine iD [_,_,_,_,_,_,_,_,_] (fun a w=>Env 45 [(41,(.bool m2)),(1,vp1),(2,vp2),(3,(Pv b1 0)),(8,w3),(9,(.bool aW)),(10,(Iv bU)),(11,vr1)] a∧Hp Z ρ (aA 3 vr1 x2::aA 3 w3 dJ::Pt b1 (.cells #[(Iv p0.vars),aF] 24 (0,0))::L) w) ?_ ?_
   ·rcases Bool.eq_false_or_eq_true m1 with hc4|hc4
    ·
     replace hg2:=(it hc4).symm.trans hg2
     refine Gs hE hc4 rfl rfl fun a hE=>Gs hE hc4 rfl rfl fun a hE=>Gs hE hc4 rfl rfl fun a hE=>?_
     obtain⟨m3,hg3,hg2⟩:=bnd hg2
     refine iD [_,_,_,_,_] (fun a w=>Env 45 [(40,(.bool m3)),(1,vp1),(2,vp2),(3,(Pv b1 0)),(8,w3),(9,(.bool aW)),(10,(Iv bU)),(11,vr1),(32,(.bool m1)),(33,(.bool aW)),(34,(.bool (!aW))),(35,(.bool (!aW)))] a∧Hp Z ρ (aA 3 vr1 x2::aA 3 w3 dJ::Pt b1 (.cells #[(Iv p0.vars),aF] 24 (0,0))::L) w) ?_ ?_
     ·rcases Bool.eq_false_or_eq_true (!aW) with hc5|hc5
      ·
       replace hg3:=(it hc5).symm.trans hg3
       refine Gk hE hc5 rfl fun a hE=>Gk hE hc5 rfl fun a hE=>Gk hE hc5 rfl fun a hE=>Gk hE hc5 rfl fun a hE=>G hE hp hc4 rfl (mD rfl hE rfl hc5 rfl) fun a hE=>?_
       obtain rfl:=oj hg3
       exact aC ⟨hE.cut ⟨rfl,rfl,rfl,rfl,rfl,rfl,rfl,rfl,rfl,rfl,rfl,rfl,trivial⟩,hp⟩
      replace hg3:=(ie hc5).symm.trans hg3
      refine Gs hE hc5 rfl rfl fun a hE=>Gs hE hc5 rfl rfl fun a hE=>Gs hE hc5 rfl rfl fun a hE=>?_
      obtain⟨k3,k3a,k3d,k3h⟩:=(hp.get 0 rfl).lend
      obtain⟨k4,k4a,k4d,k4h⟩:=(k3h.get 0 rfl).lend
      obtain⟨x5,ex5,hg3⟩:=bnd hg3
      refine Cg hE hc5 rfl rfl ent18 (tK x2 vr1 (bJ.mono (aA.ro k3d k3a) (PH.le_un _ _)) dJ w3 (aA.ro k4d k4a) p2 vp2 (bJ.mono (bJ.mono hp2 (PH.le_un _ _)) (PH.le_un _ _)) k4h x5 ex5) ⟨rfl,rfl,rfl,trivial⟩ fun v a w hR hE=>?_
      obtain⟨rfl,hp⟩:=hR
      have hp:=Hp.back k4a k4d hp
      have hp:=Hp.back k3a k3d hp
      have hp:=r3 hp
      refine G hE hp hc4 rfl (dF rfl hE rfl hc5 rfl) fun a hE=>?_
      obtain rfl:=oj hg3
      exact aC ⟨hE.cut ⟨rfl,rfl,rfl,rfl,rfl,rfl,rfl,rfl,rfl,rfl,rfl,rfl,trivial⟩,hp⟩
     rintro a w ⟨hE,hp⟩
     refine pk1 hE hc4 rfl rfl rfl rfl fun a hE=>?_
     obtain rfl:=oj hg2
     exact aC ⟨hE.cut ⟨rfl,rfl,rfl,rfl,rfl,rfl,rfl,rfl,trivial⟩,hp⟩
    replace hg2:=(ie hc4).symm.trans hg2
    refine Gk hE hc4 rfl fun a hE=>Gk hE hc4 rfl fun a hE=>Gk hE hc4 rfl fun a hE=>?_
    refine xH (wk3 hE rfl rfl rfl) rfl rfl hE ?_
    intro a hE
    refine xH (wk3 hE rfl rfl rfl) rfl rfl hE ?_
    intro a hE
    refine xH (wk3 hE rfl rfl rfl) rfl rfl hE ?_
    intro a hE
    refine xH (wk3 hE rfl rfl rfl) rfl rfl hE ?_
    intro a hE
    refine Gk hE hc4 rfl fun a hE=>pk0 hE hc4 rfl rfl rfl rfl fun a hE=>?_
    obtain rfl:=oj hg2
    exact aC ⟨hE.cut ⟨rfl,rfl,rfl,rfl,rfl,rfl,rfl,rfl,trivial⟩,hp⟩
   rintro a w ⟨hE,hp⟩
   refine aC ?_
   refine dK hE rfl (fun hc6=>?_) (fun hc6=>?_)
   ·replace hl1:=(it hc6).symm.trans hl1
    refine aB (S hE 3 rfl fun a hE=>?_)
    refine aC (aB ?_)
    refine S hE 1 rfl fun a hE=>?_
    obtain⟨x6,ex6,hl1⟩:=bnd hl1
    refine V hE hp rfl (dH rfl hE rfl rfl (bD ex6)) fun a hE=>S hE 1 rfl fun a hE=>aC ?_
    have hp:=(hp.get 1 rfl).drop
    have hp:=r2 hp
    exact⟨_,(oj hl1).symm,_,hE.cut ⟨rfl,rfl,rfl,rfl,rfl,rfl,trivial⟩,hp⟩
   replace hl1:=(ie hc6).symm.trans hl1
   refine bQ (aB ?_)
   refine S hE 1 rfl fun a hE=>?_
   obtain⟨x7,ex7,hl1⟩:=bnd hl1
   refine V hE hp rfl (dH rfl hE rfl rfl (bD ex7)) fun a hE=>S hE 1 rfl fun a hE=>aC ?_
   exact⟨_,(oj hl1).symm,_,hE.cut ⟨rfl,rfl,rfl,rfl,rfl,rfl,trivial⟩,(hp.drop)⟩
  replace hl1:=(ie hc2).symm.trans hl1
  refine dR ?_
  refine⟨_,(oj hl1).symm,fun hbb=>?_⟩
  subst hbb
  exact⟨_,hE.cut ⟨rfl,rfl,trivial⟩,hp⟩
 rintro a w ⟨w3,hE,hp⟩
 refine aG (aB ?_)
 refine S hE 4 rfl fun a hE=>aC (dC ?_)
 obtain rfl:=oj hm
 exact ret2 hE rfl rfl rfl ⟨_,rfl,_,rfl,((hp.get 1 rfl).drop)⟩
theorem wU {Z:World} {ρ:PH} {L:List bZ} {w:World} (p0:Formula) (aF:Value) (bH:bJ ρ aF p0.clauses) (p1:(List Int)) (vp1:Value) (hp1:bJ ρ vp1 p1) (p2:Int) (p3:Answer) (pU:Value) (aD1:bJ ρ pU p3.model) (qE:Value) (hp3_proof:bJ ρ qE p3.proof) (hp:Hp Z ρ (L) w) (r:Bool) (hm:jS p0 p1 p2 p3=some r):
  Calls Try.prog 15 #[(.agg #[(Iv p0.vars),aF]),vp1,(Iv p2),(.agg #[(Iv p3.kind),pU,qE,(Iv p3.conflicts)])] w (Ret fun v w'=>v=(.bool r)∧Hp Z ρ (L) w'):=by
 refine enter (N:=73) Try.func15 rfl rfl [(0,(.agg #[(Iv p0.vars),aF])),(1,vp1),(2,(Iv p2)),(3,(.agg #[(Iv p3.kind),pU,qE,(Iv p3.conflicts)]))] rfl (bT ⟨rfl,rfl,rfl,rfl,trivial⟩) fun a hE=>?_
 unfold jS at hm
 refine aG (aB ?_)
 refine qH (wk0 rfl) rfl rfl hE hp rfl (v:=(.agg #[(Iv p0.vars),aF])) rfl ?_
 intro a w b1 hE hp
 have hp:=r1 hp
 refine qH (wk0 rfl) rfl rfl hE hp rfl (v:=(.agg #[(Iv p3.kind),pU,qE,(Iv p3.conflicts)])) rfl ?_
 intro a w b2 hE hp
 have hp:=r2 hp
 refine S hE 1 rfl fun a hE=>aC (aG ?_)
 refine aG (aB ?_)
 refine V hE hp rfl (xf hE vY rfl rfl) fun a hE=>V hE hp rfl (xl hE bG 0 rfl rfl rfl rfl) fun a hE=>S hE 2 rfl fun a hE=>?_
 refine iD [_,_,_,_,_] (fun a w=>Env 73 [(17,(.bool ((decide (p3.conflicts<0))||(decide (p2<p3.conflicts))))),(1,vp1),(2,(Iv p2)),(4,(Pv b1 0)),(7,(Pv b2 0))] a∧Hp Z ρ (Pt b2 (.cells #[(Iv p3.kind),pU,qE,(Iv p3.conflicts)] 29 (0,0))::Pt b1 (.cells #[(Iv p0.vars),aF] 24 (0,0))::L) w) ?_ ?_
 ·rcases Bool.eq_false_or_eq_true (decide (p3.conflicts<0)) with hc1|hc1
  ·
   refine Gk hE hc1 rfl fun a hE=>Gk hE hc1 rfl fun a hE=>Gk hE hc1 rfl fun a hE=>Gk hE hc1 rfl fun a hE=>pk1 hE hc1 rfl rfl rfl rfl fun a hE=>?_
   have hE:=hE.eqv (v':=(.bool ((decide (p3.conflicts<0))||(decide (p2<p3.conflicts))))) (by rw[hc1];rfl)
   exact aC ⟨hE.cut ⟨rfl,rfl,rfl,rfl,rfl,trivial⟩,hp⟩
  refine G hE hp hc1 rfl (xf hE vY rfl rfl) fun a hE=>G hE hp hc1 rfl (xl hE bG 0 rfl rfl rfl rfl) fun a hE=>Gs hE hc1 rfl rfl fun a hE=>Gs hE hc1 rfl rfl fun a hE=>pk0 hE hc1 rfl rfl rfl rfl fun a hE=>?_
  have hE:=hE.eqv (v':=(.bool ((decide (p3.conflicts<0))||(decide (p2<p3.conflicts))))) (by rw[hc1];rfl)
  exact aC ⟨hE.cut ⟨rfl,rfl,rfl,rfl,rfl,trivial⟩,hp⟩
 rintro a w ⟨hE,hp⟩
 refine aC ?_
 refine dK hE rfl (fun hc2=>?_) (fun hc2=>?_)
 ·replace hm:=(it hc2).symm.trans hm
  refine aG (aB ?_)
  refine S hE 1 rfl fun a hE=>aC (dC ?_)
  obtain rfl:=oj hm
  exact gK hE rfl rfl ⟨_,rfl,rfl,(((hp.get 1 rfl).drop).drop)⟩
 replace hm:=(ie hc2).symm.trans hm
 refine bQ (aG ?_)
 refine aG (aB ?_)
 refine V hE hp rfl (xf hE qO rfl rfl) fun a hE=>V hE hp rfl (xl hE bG 0 rfl rfl rfl rfl) fun a hE=>aC (dG ?_)
 refine aG (aB ?_)
 refine S hE 2 rfl fun a hE=>aC ?_
 refine dK hE rfl (fun hc3=>?_) (fun hc3=>?_)
 ·replace hm:=(it hc3).symm.trans hm
  refine aG (aB ?_)
  refine V hE hp rfl (xf hE zK rfl rfl) fun a hE=>V hE hp rfl (xl hE kD 0 rfl rfl rfl rfl) fun a hE=>V hE hp rfl (dD rfl hE rfl (bJ.len hp3_proof gY)) fun a hE=>S hE 2 rfl fun a hE=>?_
  obtain⟨m1,hg1,hm⟩:=bnd hm
  refine iD [_,_,_,_,_] (fun a w=>Env 73 [(31,(.bool m1)),(1,vp1),(7,(Pv b2 0))] a∧Hp Z ρ (Pt b2 (.cells #[(Iv p3.kind),pU,qE,(Iv p3.conflicts)] 29 (0,0))::Pt b1 (.cells #[(Iv p0.vars),aF] 24 (0,0))::L) w) ?_ ?_
  ·rcases Bool.eq_false_or_eq_true (decide ((p3.proof.length:Int)=0)) with hc4|hc4
   ·
    replace hg1:=(it hc4).symm.trans hg1
    refine G hE hp hc4 rfl (aX rfl hE rfl (fun w hw=>eY (cs:=[(Iv p0.vars),aF]) fP (Hp.cN 1 rfl 0 _ (bW rfl) w hw))) fun a hE=>G hE hp hc4 rfl (xf hE oH rfl rfl) fun a hE=>G hE hp hc4 rfl (xl hE bK 0 rfl rfl rfl rfl) fun a hE=>?_
    obtain⟨x1,ex1,hg1⟩:=bnd hg1
    refine Cg hE hc4 rfl rfl ent34 (wS p0 aF bH p3.model pU aD1 hp x1 ex1) ⟨rfl,rfl,trivial⟩ fun v a w hR hE=>?_
    obtain⟨rfl,hp⟩:=hR
    have hp:=r2 hp
    refine pk1 hE hc4 rfl rfl rfl rfl fun a hE=>?_
    obtain rfl:=oj hg1
    exact aC ⟨hE.cut ⟨rfl,rfl,rfl,trivial⟩,hp⟩
   replace hg1:=(ie hc4).symm.trans hg1
   refine Gk hE hc4 rfl fun a hE=>Gk hE hc4 rfl fun a hE=>Gk hE hc4 rfl fun a hE=>Gk hE hc4 rfl fun a hE=>pk0 hE hc4 rfl rfl rfl rfl fun a hE=>?_
   obtain rfl:=oj hg1
   exact aC ⟨hE.cut ⟨rfl,rfl,rfl,trivial⟩,hp⟩
  rintro a w ⟨hE,hp⟩
  refine S hE 1 rfl fun a hE=>?_
  obtain⟨m2,hg2,hm⟩:=bnd hm
  refine iD [_,_,_,_,_] (fun a w=>Env 73 [(37,(.bool m2))] a∧Hp Z ρ (Pt b2 (.cells #[(Iv p3.kind),pU,qE,(Iv p3.conflicts)] 29 (0,0))::Pt b1 (.cells #[(Iv p0.vars),aF] 24 (0,0))::L) w) ?_ ?_
  ·rcases Bool.eq_false_or_eq_true m1 with hc5|hc5
   ·
    replace hg2:=(it hc5).symm.trans hg2
    refine G hE hp hc5 rfl (xf hE oH rfl rfl) fun a hE=>G hE hp hc5 rfl (xl hE bK 0 rfl rfl rfl rfl) fun a hE=>Gs hE hc5 rfl rfl fun a hE=>?_
    obtain⟨x2,ex2,hg2⟩:=bnd hg2
    refine Cg hE hc5 rfl rfl ent35 (zC p3.model pU aD1 p1 vp1 hp1 hp x2 ex2) ⟨rfl,rfl,trivial⟩ fun v a w hR hE=>?_
    obtain⟨rfl,hp⟩:=hR
    have hp:=r2 hp
    refine pk1 hE hc5 rfl rfl rfl rfl fun a hE=>?_
    obtain rfl:=oj hg2
    exact aC ⟨hE.cut ⟨rfl,trivial⟩,hp⟩
   replace hg2:=(ie hc5).symm.trans hg2
   refine Gk hE hc5 rfl fun a hE=>Gk hE hc5 rfl fun a hE=>Gk hE hc5 rfl fun a hE=>Gk hE hc5 rfl fun a hE=>pk0 hE hc5 rfl rfl rfl rfl fun a hE=>?_
   obtain rfl:=oj hg2
   exact aC ⟨hE.cut ⟨rfl,trivial⟩,hp⟩
  rintro a w ⟨hE,hp⟩
  refine S hE 1 rfl fun a hE=>aC (dC ?_)
  obtain rfl:=oj hm
  exact gK hE rfl rfl ⟨_,rfl,rfl,(((hp.get 1 rfl).drop).drop)⟩
 replace hm:=(ie hc3).symm.trans hm
 refine aG (aB ?_)
 refine S hE 2 rfl fun a hE=>aC ?_
 refine dK hE rfl (fun hc6=>?_) (fun hc6=>?_)
 ·replace hm:=(it hc6).symm.trans hm
  refine aG ?_
  obtain⟨m3,hg3,hm⟩:=bnd hm
  have hp:=hp.drew
  refine jT ([([],At0 Z ρ),([],At1 Z ρ (Pt b2 (.cells #[(Iv p3.kind),pU,qE,(Iv p3.conflicts)] 29 (0,0)))),([],At1 Z ρ (Pt b1 (.cells #[(Iv p0.vars),aF] 24 (0,0))))]:Facts) (fun a w=>Env 73 [(8,(.bool m3))] a∧Hp Z ρ (Pt b2 (.cells #[(Iv p3.kind),pU,qE,(Iv p3.conflicts)] 29 (0,0))::Pt b1 (.cells #[(Iv p0.vars),aF] 24 (0,0))::L) w) (by kernel_rfl) ⟨fun _=>⟨_,hp⟩,fun _=>⟨_,(hp.get 0 rfl)⟩,fun _=>⟨_,(hp.get 1 rfl)⟩,trivial⟩ (fun hS=>?_) ?_
  ·
   generalize w.drew=w at hS hp⊢
   refine T0 0 hE hS rfl rfl rfl (by kernel_rfl) (fun _=>xf hE oH rfl rfl) fun a hE hS=>T 1 1 hE hS rfl rfl rfl (by kernel_rfl) (fun _=>xl hE bK 0 rfl rfl rfl rfl) fun a hE hS=>T0 2 hE hS rfl rfl rfl (by kernel_rfl) (fun _=>dD rfl hE rfl (bJ.len aD1 aY)) fun a hE hS=>Ts [3,4] hE hS rfl rfl (by kernel_rfl) fun a hE hS=>?_
   rcases Bool.eq_false_or_eq_true (decide ((p3.model.length:Int)=0)) with hc8|hc8
   ·
    have hg3:=(it hc8).symm.trans hg3
    obtain⟨x3,ex3,hg3⟩:=bnd hg3
    obtain⟨x4,ex4,hg3⟩:=bnd hg3
    refine Tg 5 2 hE hc8 hS rfl rfl rfl (by kernel_rfl) (fun _=>aX rfl hE rfl (fun w hw=>eY (cs:=[(Iv p0.vars),aF]) fP (Hp.cN 0 rfl 0 _ (bW rfl) w hw))) fun a hE hS=>Tg0 6 hE hc8 hS rfl rfl rfl (by kernel_rfl) (fun _=>mZ rfl hE rfl) fun a hE hS=>Tg0 8 hE hc8 hS rfl rfl rfl (by kernel_rfl) (fun _=>xf hE zK rfl rfl) fun a hE hS=>Tg 9 1 hE hc8 hS rfl rfl rfl (by kernel_rfl) (fun _=>xl hE kD 0 rfl rfl rfl rfl) fun a hE hS=>?_
    refine W1 7 (by kernel_rfl) rfl ?_
    refine Cg hE hc8 rfl rfl ent26 (xX p0 aF bH p1 vp1 hp1 hp x3 ex3) ⟨rfl,rfl,trivial⟩ fun v a w hR hE=>?_
    obtain⟨ρ2,vr5_clauses,hle2,rfl,hr5_clauses,hp⟩:=hR
    have hp:=r2 hp
    refine aC (aI ⟨fun _=>⟨_,(hp.less hle2)⟩,fun _=>⟨_,((hp.get 0 rfl).less hle2)⟩,fun _=>⟨_,((hp.get 1 rfl).less hle2)⟩,trivial⟩ fun hS=>?_)
    refine W1 10 (by kernel_rfl) rfl ?_
    refine Cg hE hc8 rfl rfl ent36 (X9 x3 vr5_clauses hr5_clauses p3.proof qE (bJ.mono hp3_proof hle2) hp x4 ex4) ⟨rfl,rfl,trivial⟩ fun v a w hR hE=>?_
    obtain⟨rfl,hp⟩:=hR
    have hp:=r2 hp
    refine aC (aI ⟨fun _=>⟨_,(hp.less hle2)⟩,fun _=>⟨_,((hp.get 0 rfl).less hle2)⟩,fun _=>⟨_,((hp.get 1 rfl).less hle2)⟩,trivial⟩ fun hS=>?_)
    refine T0 11 hE hS rfl rfl rfl (by kernel_rfl) (fun _=>mD rfl hE rfl hc8 rfl) fun a hE hS=>?_
    have hE:=hE.eqv (v':=(.bool m3)) (congrArg Value.bool (oj hg3))
    refine Ts [12] hE hS rfl rfl (by kernel_rfl) fun a hE hS=>?_
    exact dX (by kernel_rfl) ⟨hE.cut ⟨rfl,trivial⟩,(hp.less hle2)⟩
   have hg3:=(ie hc8).symm.trans hg3
   refine Tk 5 hE hc8 hS rfl rfl rfl (by kernel_rfl) fun a hE hS=>Tk 6 hE hc8 hS rfl rfl rfl (by kernel_rfl) fun a hE hS=>Tk 8 hE hc8 hS rfl rfl rfl (by kernel_rfl) fun a hE hS=>Tk 9 hE hc8 hS rfl rfl rfl (by kernel_rfl) fun a hE hS=>Tk 7 hE hc8 hS rfl rfl rfl (by kernel_rfl) fun a hE hS=>Tk 10 hE hc8 hS rfl rfl rfl (by kernel_rfl) fun a hE hS=>T0 11 hE hS rfl rfl rfl (by kernel_rfl) (fun _=>dF rfl hE rfl hc8 rfl) fun a hE hS=>?_
   have hE:=hE.eqv (v':=(.bool m3)) (congrArg Value.bool (oj hg3))
   refine Ts [12] hE hS rfl rfl (by kernel_rfl) fun a hE hS=>?_
   exact dX (by kernel_rfl) ⟨hE.cut ⟨rfl,trivial⟩,hp⟩
  rintro a w ⟨hE,hp⟩
  refine dC ?_
  obtain rfl:=oj hm
  exact gK hE rfl rfl ⟨_,rfl,rfl,(((hp.get 1 rfl).drop).drop)⟩
 replace hm:=(ie hc6).symm.trans hm
 refine bQ (aG ?_)
 refine aB (V hE hp rfl (xf hE qO rfl rfl) fun a hE=>?_)
 refine V hE hp rfl (xl hE bG 0 rfl rfl rfl rfl) fun a hE=>S hE 2 rfl fun a hE=>?_
 refine iD [_,_,_,_,_] (fun a w=>Env 73 [(60,(.bool ((decide (p3.kind=2))&&(decide (p3.conflicts=p2))))),(7,(Pv b2 0))] a∧Hp Z ρ (Pt b2 (.cells #[(Iv p3.kind),pU,qE,(Iv p3.conflicts)] 29 (0,0))::Pt b1 (.cells #[(Iv p0.vars),aF] 24 (0,0))::L) w) ?_ ?_
 ·rcases Bool.eq_false_or_eq_true (decide (p3.kind=2)) with hc9|hc9
  ·
   refine G hE hp hc9 rfl (xf hE vY rfl rfl) fun a hE=>G hE hp hc9 rfl (xl hE bG 0 rfl rfl rfl rfl) fun a hE=>Gs hE hc9 rfl rfl fun a hE=>Gs hE hc9 rfl rfl fun a hE=>pk1 hE hc9 rfl rfl rfl rfl fun a hE=>?_
   have hE:=hE.eqv (v':=(.bool ((decide (p3.kind=2))&&(decide (p3.conflicts=p2))))) (by rw[hc9];rfl)
   exact aC ⟨hE.cut ⟨rfl,rfl,trivial⟩,hp⟩
  refine Gk hE hc9 rfl fun a hE=>Gk hE hc9 rfl fun a hE=>Gk hE hc9 rfl fun a hE=>Gk hE hc9 rfl fun a hE=>pk0 hE hc9 rfl rfl rfl rfl fun a hE=>?_
  have hE:=hE.eqv (v':=(.bool ((decide (p3.kind=2))&&(decide (p3.conflicts=p2))))) (by rw[hc9];rfl)
  exact aC ⟨hE.cut ⟨rfl,rfl,trivial⟩,hp⟩
 rintro a w ⟨hE,hp⟩
 refine S hE 1 rfl fun a hE=>?_
 refine iD [_,_,_,_,_] (fun a w=>Env 73 [(66,(.bool (((decide (p3.kind=2))&&(decide (p3.conflicts=p2)))&&(decide ((p3.model.length:Int)=0))))),(7,(Pv b2 0))] a∧Hp Z ρ (Pt b2 (.cells #[(Iv p3.kind),pU,qE,(Iv p3.conflicts)] 29 (0,0))::Pt b1 (.cells #[(Iv p0.vars),aF] 24 (0,0))::L) w) ?_ ?_
 ·rcases Bool.eq_false_or_eq_true ((decide (p3.kind=2))&&(decide (p3.conflicts=p2))) with hc10|hc10
  ·
   refine G hE hp hc10 rfl (xf hE oH rfl rfl) fun a hE=>G hE hp hc10 rfl (xl hE bK 0 rfl rfl rfl rfl) fun a hE=>G hE hp hc10 rfl (dD rfl hE rfl (bJ.len aD1 aY)) fun a hE=>Gs hE hc10 rfl rfl fun a hE=>pk1 hE hc10 rfl rfl rfl rfl fun a hE=>?_
   have hE:=hE.eqv (v':=(.bool (((decide (p3.kind=2))&&(decide (p3.conflicts=p2)))&&(decide ((p3.model.length:Int)=0))))) (by rw[hc10];rfl)
   exact aC ⟨hE.cut ⟨rfl,rfl,trivial⟩,hp⟩
  refine Gk hE hc10 rfl fun a hE=>Gk hE hc10 rfl fun a hE=>Gk hE hc10 rfl fun a hE=>Gk hE hc10 rfl fun a hE=>pk0 hE hc10 rfl rfl rfl rfl fun a hE=>?_
  have hE:=hE.eqv (v':=(.bool (((decide (p3.kind=2))&&(decide (p3.conflicts=p2)))&&(decide ((p3.model.length:Int)=0))))) (by rw[hc10];rfl)
  exact aC ⟨hE.cut ⟨rfl,rfl,trivial⟩,hp⟩
 rintro a w ⟨hE,hp⟩
 refine S hE 1 rfl fun a hE=>?_
 refine iD [_,_,_,_,_] (fun a w=>Env 73 [(72,(.bool ((((decide (p3.kind=2))&&(decide (p3.conflicts=p2)))&&(decide ((p3.model.length:Int)=0)))&&(decide ((p3.proof.length:Int)=0)))))] a∧Hp Z ρ (Pt b2 (.cells #[(Iv p3.kind),pU,qE,(Iv p3.conflicts)] 29 (0,0))::Pt b1 (.cells #[(Iv p0.vars),aF] 24 (0,0))::L) w) ?_ ?_
 ·rcases Bool.eq_false_or_eq_true (((decide (p3.kind=2))&&(decide (p3.conflicts=p2)))&&(decide ((p3.model.length:Int)=0))) with hc11|hc11
  ·
   refine G hE hp hc11 rfl (xf hE zK rfl rfl) fun a hE=>G hE hp hc11 rfl (xl hE kD 0 rfl rfl rfl rfl) fun a hE=>G hE hp hc11 rfl (dD rfl hE rfl (bJ.len hp3_proof gY)) fun a hE=>Gs hE hc11 rfl rfl fun a hE=>pk1 hE hc11 rfl rfl rfl rfl fun a hE=>?_
   have hE:=hE.eqv (v':=(.bool ((((decide (p3.kind=2))&&(decide (p3.conflicts=p2)))&&(decide ((p3.model.length:Int)=0)))&&(decide ((p3.proof.length:Int)=0))))) (by rw[hc11];rfl)
   exact aC ⟨hE.cut ⟨rfl,trivial⟩,hp⟩
  refine Gk hE hc11 rfl fun a hE=>Gk hE hc11 rfl fun a hE=>Gk hE hc11 rfl fun a hE=>Gk hE hc11 rfl fun a hE=>pk0 hE hc11 rfl rfl rfl rfl fun a hE=>?_
  have hE:=hE.eqv (v':=(.bool ((((decide (p3.kind=2))&&(decide (p3.conflicts=p2)))&&(decide ((p3.model.length:Int)=0)))&&(decide ((p3.proof.length:Int)=0))))) (by rw[hc11];rfl)
  exact aC ⟨hE.cut ⟨rfl,trivial⟩,hp⟩
 rintro a w ⟨hE,hp⟩
 refine S hE 1 rfl fun a hE=>aC (dC ?_)
 obtain rfl:=oj hm
 exact gK hE rfl rfl ⟨_,rfl,rfl,(((hp.get 1 rfl).drop).drop)⟩
theorem tN {Z:World} {ρ:PH} {L:List bZ} {w:World} (p0:Answer) (uV:Value) (hp0_model:bJ ρ uV p0.model) (aQ:Value) (hp0_proof:bJ ρ aQ p0.proof) (p1:Answer) (uX:Value) (hp1_model:bJ ρ uX p1.model) (tC:Value) (hp1_proof:bJ ρ tC p1.proof) (hp:Hp Z ρ (L) w) (r:Bool) (hm:gW p0 p1=some r):
  Calls Try.prog 14 #[(.agg #[(Iv p0.kind),uV,aQ,(Iv p0.conflicts)]),(.agg #[(Iv p1.kind),uX,tC,(Iv p1.conflicts)])] w (Ret fun v w'=>v=(.bool r)∧Hp Z ρ (L) w'):=by
 refine enter (N:=53) Try.func14 rfl rfl [(0,(.agg #[(Iv p0.kind),uV,aQ,(Iv p0.conflicts)])),(1,(.agg #[(Iv p1.kind),uX,tC,(Iv p1.conflicts)]))] rfl (bT ⟨rfl,rfl,trivial⟩) fun a hE=>?_
 unfold gW at hm
 refine aG (aB ?_)
 refine qH (wk0 rfl) rfl rfl hE hp rfl (v:=(.agg #[(Iv p0.kind),uV,aQ,(Iv p0.conflicts)])) rfl ?_
 intro a w b1 hE hp
 have hp:=r1 hp
 refine qH (wk0 rfl) rfl rfl hE hp rfl (v:=(.agg #[(Iv p1.kind),uX,tC,(Iv p1.conflicts)])) rfl ?_
 intro a w b2 hE hp
 have hp:=r2 hp
 refine S hE 1 rfl fun a hE=>aC (aG ?_)
 refine aG (aB ?_)
 refine V hE hp rfl (xf hE qO rfl rfl) fun a hE=>V hE hp rfl (xl hE bG 1 rfl rfl rfl rfl) fun a hE=>V hE hp rfl (xf hE qO rfl rfl) fun a hE=>V hE hp rfl (xl hE bG 0 rfl rfl rfl rfl) fun a hE=>S hE 2 rfl fun a hE=>?_
 refine iD [_,_,_,_,_,_] (fun a w=>Env 53 [(17,(.bool ((!decide (p0.kind=p1.kind))||(!decide (p0.conflicts=p1.conflicts))))),(2,(Pv b1 0)),(3,(Pv b2 0))] a∧Hp Z ρ (Pt b2 (.cells #[(Iv p1.kind),uX,tC,(Iv p1.conflicts)] 29 (0,0))::Pt b1 (.cells #[(Iv p0.kind),uV,aQ,(Iv p0.conflicts)] 29 (0,0))::L) w) ?_ ?_
 ·rcases Bool.eq_false_or_eq_true (!decide (p0.kind=p1.kind)) with hc1|hc1
  ·
   refine Gk hE hc1 rfl fun a hE=>Gk hE hc1 rfl fun a hE=>Gk hE hc1 rfl fun a hE=>Gk hE hc1 rfl fun a hE=>Gk hE hc1 rfl fun a hE=>pk1 hE hc1 rfl rfl rfl rfl fun a hE=>?_
   have hE:=hE.eqv (v':=(.bool ((!decide (p0.kind=p1.kind))||(!decide (p0.conflicts=p1.conflicts))))) (by rw[hc1];rfl)
   exact aC ⟨hE.cut ⟨rfl,rfl,rfl,trivial⟩,hp⟩
  refine G hE hp hc1 rfl (xf hE vY rfl rfl) fun a hE=>G hE hp hc1 rfl (xl hE bG 1 rfl rfl rfl rfl) fun a hE=>G hE hp hc1 rfl (xf hE vY rfl rfl) fun a hE=>G hE hp hc1 rfl (xl hE bG 0 rfl rfl rfl rfl) fun a hE=>Gs hE hc1 rfl rfl fun a hE=>pk0 hE hc1 rfl rfl rfl rfl fun a hE=>?_
  have hE:=hE.eqv (v':=(.bool ((!decide (p0.kind=p1.kind))||(!decide (p0.conflicts=p1.conflicts))))) (by rw[hc1];rfl)
  exact aC ⟨hE.cut ⟨rfl,rfl,rfl,trivial⟩,hp⟩
 rintro a w ⟨hE,hp⟩
 refine S hE 1 rfl fun a hE=>?_
 refine iD [_,_,_,_,_,_,_,_] (fun a w=>Env 53 [(26,(.bool (((!decide (p0.kind=p1.kind))||(!decide (p0.conflicts=p1.conflicts)))||(!decide ((p0.model.length:Int)=(p1.model.length:Int)))))),(2,(Pv b1 0)),(3,(Pv b2 0))] a∧Hp Z ρ (Pt b2 (.cells #[(Iv p1.kind),uX,tC,(Iv p1.conflicts)] 29 (0,0))::Pt b1 (.cells #[(Iv p0.kind),uV,aQ,(Iv p0.conflicts)] 29 (0,0))::L) w) ?_ ?_
 ·rcases Bool.eq_false_or_eq_true ((!decide (p0.kind=p1.kind))||(!decide (p0.conflicts=p1.conflicts))) with hc2|hc2
  ·
   refine Gk hE hc2 rfl fun a hE=>Gk hE hc2 rfl fun a hE=>Gk hE hc2 rfl fun a hE=>Gk hE hc2 rfl fun a hE=>Gk hE hc2 rfl fun a hE=>Gk hE hc2 rfl fun a hE=>Gk hE hc2 rfl fun a hE=>pk1 hE hc2 rfl rfl rfl rfl fun a hE=>?_
   have hE:=hE.eqv (v':=(.bool (((!decide (p0.kind=p1.kind))||(!decide (p0.conflicts=p1.conflicts)))||(!decide ((p0.model.length:Int)=(p1.model.length:Int)))))) (by rw[hc2];rfl)
   exact aC ⟨hE.cut ⟨rfl,rfl,rfl,trivial⟩,hp⟩
  refine G hE hp hc2 rfl (xf hE oH rfl rfl) fun a hE=>G hE hp hc2 rfl (xl hE bK 1 rfl rfl rfl rfl) fun a hE=>G hE hp hc2 rfl (dD rfl hE rfl (bJ.len hp0_model aY)) fun a hE=>G hE hp hc2 rfl (xf hE oH rfl rfl) fun a hE=>G hE hp hc2 rfl (xl hE bK 0 rfl rfl rfl rfl) fun a hE=>G hE hp hc2 rfl (dD rfl hE rfl (bJ.len hp1_model aY)) fun a hE=>Gs hE hc2 rfl rfl fun a hE=>pk0 hE hc2 rfl rfl rfl rfl fun a hE=>?_
  have hE:=hE.eqv (v':=(.bool (((!decide (p0.kind=p1.kind))||(!decide (p0.conflicts=p1.conflicts)))||(!decide ((p0.model.length:Int)=(p1.model.length:Int)))))) (by rw[hc2];rfl)
  exact aC ⟨hE.cut ⟨rfl,rfl,rfl,trivial⟩,hp⟩
 rintro a w ⟨hE,hp⟩
 refine S hE 1 rfl fun a hE=>?_
 obtain⟨m1,hg1,hm⟩:=bnd hm
 refine iD [_,_,_,_,_,_,_] (fun a w=>Env 53 [(34,(.bool m1)),(2,(Pv b1 0)),(3,(Pv b2 0))] a∧Hp Z ρ (Pt b2 (.cells #[(Iv p1.kind),uX,tC,(Iv p1.conflicts)] 29 (0,0))::Pt b1 (.cells #[(Iv p0.kind),uV,aQ,(Iv p0.conflicts)] 29 (0,0))::L) w) ?_ ?_
 ·rcases Bool.eq_false_or_eq_true (((!decide (p0.kind=p1.kind))||(!decide (p0.conflicts=p1.conflicts)))||(!decide ((p0.model.length:Int)=(p1.model.length:Int)))) with hc3|hc3
  ·
   replace hg1:=(it hc3).symm.trans hg1
   refine Gk hE hc3 rfl fun a hE=>Gk hE hc3 rfl fun a hE=>Gk hE hc3 rfl fun a hE=>Gk hE hc3 rfl fun a hE=>Gk hE hc3 rfl fun a hE=>Gk hE hc3 rfl fun a hE=>pk1 hE hc3 rfl rfl rfl rfl fun a hE=>?_
   obtain rfl:=oj hg1
   exact aC ⟨hE.cut ⟨rfl,rfl,rfl,trivial⟩,hp⟩
  replace hg1:=(ie hc3).symm.trans hg1
  refine G hE hp hc3 rfl (xf hE zK rfl rfl) fun a hE=>G hE hp hc3 rfl (xl hE kD 1 rfl rfl rfl rfl) fun a hE=>G hE hp hc3 rfl (xf hE zK rfl rfl) fun a hE=>G hE hp hc3 rfl (xl hE kD 0 rfl rfl rfl rfl) fun a hE=>?_
  obtain⟨x1,ex1,hg1⟩:=bnd hg1
  refine Cg hE hc3 rfl rfl ent33 (I7 p0.proof aQ hp0_proof p1.proof tC hp1_proof hp x1 ex1) ⟨rfl,rfl,trivial⟩ fun v a w hR hE=>?_
  obtain⟨rfl,hp⟩:=hR
  have hp:=r2 hp
  refine Gs hE hc3 rfl rfl fun a hE=>pk0 hE hc3 rfl rfl rfl rfl fun a hE=>?_
  obtain rfl:=oj hg1
  exact aC ⟨hE.cut ⟨rfl,rfl,rfl,trivial⟩,hp⟩
 rintro a w ⟨hE,hp⟩
 refine aC ?_
 refine dK hE rfl (fun hc4=>?_) (fun hc4=>?_)
 ·replace hm:=(it hc4).symm.trans hm
  refine aG (aB ?_)
  refine S hE 1 rfl fun a hE=>aC (dC ?_)
  obtain rfl:=oj hm
  exact gK hE rfl rfl ⟨_,rfl,rfl,(((hp.get 1 rfl).drop).drop)⟩
 replace hm:=(ie hc4).symm.trans hm
 refine bQ (aG ?_)
 refine aG (aB ?_)
 refine S hE 1 rfl fun a hE=>aC ?_
 obtain⟨b3,hc5,hm⟩:=bnd hm
 refine dI (fun a w=>∃s:Unit,b3= .brk s∧(Env 53 [] a∧Hp Z ρ (Pt b2 (.cells #[(Iv p1.kind),uX,tC,(Iv p1.conflicts)] 29 (0,0))::Pt b1 (.cells #[(Iv p0.kind),uV,aQ,(Iv p0.conflicts)] 29 (0,0))::L) w)) ?_ ?_
 ·refine eX hc5 (fun s a w=>Env 53 [(2,(Pv b1 0)),(3,(Pv b2 0)),(5,(Iv s))] a∧Hp Z ρ (Pt b2 (.cells #[(Iv p1.kind),uX,tC,(Iv p1.conflicts)] 29 (0,0))::Pt b1 (.cells #[(Iv p0.kind),uV,aQ,(Iv p0.conflicts)] 29 (0,0))::L) w) ?_ ?_
  ·exact⟨hE.cut ⟨rfl,rfl,rfl,trivial⟩,hp⟩
  rintro aW st a w ⟨hE,hp⟩ hl1
  unfold oV at hl1
  refine aG (aG ?_)
  refine aB (S hE 1 rfl fun a hE=>?_)
  refine V hE hp rfl (xf hE oH rfl rfl) fun a hE=>V hE hp rfl (xl hE bK 1 rfl rfl rfl rfl) fun a hE=>V hE hp rfl (dD rfl hE rfl (bJ.len hp0_model aY)) fun a hE=>S hE 1 rfl fun a hE=>aC ?_
  refine dK hE rfl (fun hc6=>?_) (fun hc6=>?_)
  ·replace hl1:=(it hc6).symm.trans hl1
   refine bQ (aG ?_)
   refine dG (aG ?_)
   refine lG (by kernel_rfl) (by kernel_rfl) hp ?_
   refine Vq hE rfl (xf hE oH rfl rfl) fun a hE=>Vq hE rfl (xl hE bK 1 rfl rfl rfl rfl) fun a hE=>Sq hE 1 rfl fun a hE=>?_
   obtain⟨x2,ex2,hl1⟩:=bnd hl1
   obtain⟨b4,b4o,b4c,b4r,b4k,b4f⟩:=bJ.at hp0_model aY ex2
   obtain rfl:b4c=Enc.enc x2:=b4k
   have b4f:AtP ρ b4 b4o [(Iv x2)]:=b4f
   refine Vq hE rfl (aS rfl hE rfl rfl b4r) fun a hE=>Vq hE rfl (aX rfl hE rfl (fun w hw=>bF bG (b4f.c 0 rfl w hw))) fun a hE=>Vq hE rfl (xf hE oH rfl rfl) fun a hE=>Vq hE rfl (xl hE bK 0 rfl rfl rfl rfl) fun a hE=>Sq hE 1 rfl fun a hE=>?_
   obtain⟨x3,ex3,hl1⟩:=bnd hl1
   obtain⟨b5,b5o,b5c,b5r,b5k,b5f⟩:=bJ.at hp1_model aY ex3
   obtain rfl:b5c=Enc.enc x3:=b5k
   have b5f:AtP ρ b5 b5o [(Iv x3)]:=b5f
   refine Vq hE rfl (aS rfl hE rfl rfl b5r) fun a hE=>Vq hE rfl (aX rfl hE rfl (fun w hw=>bF bG (b5f.c 0 rfl w hw))) fun a hE=>Sq hE 1 rfl fun a hE=>?_
   refine oO fun w hp=>?_
   have hp:=r2 hp
   refine dK hE rfl (fun hc7=>?_) (fun hc7=>?_)
   ·replace hl1:=(it hc7).symm.trans hl1
    refine aG (aB ?_)
    refine S hE 1 rfl fun a hE=>aC (dC ?_)
    refine⟨_,(oj hl1).symm,fun hb=>?_⟩
    subst hb
    obtain rfl:=oj hm
    exact gK hE rfl rfl ⟨_,rfl,rfl,(((hp.get 1 rfl).drop).drop)⟩
   replace hl1:=(ie hc7).symm.trans hl1
   refine bQ (aB ?_)
   refine S hE 1 rfl fun a hE=>?_
   obtain⟨x4,ex4,hl1⟩:=bnd hl1
   refine V hE hp rfl (dH rfl hE rfl rfl (bD ex4)) fun a hE=>S hE 1 rfl fun a hE=>aC ?_
   exact⟨_,(oj hl1).symm,hE.cut ⟨rfl,rfl,rfl,trivial⟩,hp⟩
  replace hl1:=(ie hc6).symm.trans hl1
  refine dR ?_
  refine⟨_,(oj hl1).symm,fun hbb=>?_⟩
  exact⟨_,hbb.symm,hE.cut trivial,hp⟩
 rintro a w ⟨b3s,rfl,hE,hp⟩
 dsimp only at hm
 refine aG (aB ?_)
 refine S hE 1 rfl fun a hE=>aC (dC ?_)
 obtain rfl:=oj hm
 exact gK hE rfl rfl ⟨_,rfl,rfl,(((hp.get 1 rfl).drop).drop)⟩
end Go.Proofs.Ytpkhmndpeipfmaa

/- The code goes as its model: assessor/assessorref28.Fits, assessor/assessorref28.With, assessor/assessorref28.Contains, assessor/assessorref28.All, assessor/asse -/
import Derived.Test.YtpkhmndpeipfmaaKSaT
import Derived.Test.YtpkhmndpeipfmaaKSa5
import Derived.Test.YtpkhmndpeipfmaaKSa6
import Derived.Test.YtpkhmndpeipfmaaKSa18
set_option linter.unusedVariables false
set_option linter.unusedSimpArgs false
namespace Go.Proofs.Ytpkhmndpeipfmaa
open Go.RowKit
set_option maxRecDepth 100000 in
set_option maxHeartbeats 4000000 in
theorem N7 {Z:World} {ρ:PH} {L:List bW} {w:World} (p0:Formula) (aG:Value) (bK:bU ρ aG p0.clauses) (p1:(List Int)) (vp1:Value) (hp1:bU ρ vp1 p1) (p2:Int) (hp:Hp Z ρ (L) w) (r:Bool) (hm:kM p0 p1 p2=some r):
  Calls Try.prog 13 #[(.agg #[(.int .i64 p0.vars),aG]),vp1,(.int .i64 p2)] w (Ret fun v w'=>v=(.bool r)∧Hp Z ρ (L) w'):=by
 refine enter (N:=34) Try.func13 rfl rfl [(0,(.agg #[(.int .i64 p0.vars),aG])),(1,vp1),(2,(.int .i64 p2))] rfl (bP ⟨rfl,rfl,rfl,trivial⟩) fun a hE=>?_
 unfold kM at hm
 refine aH (aB ?_)
 refine qV (wk0 rfl) rfl rfl hE hp rfl (v:=(.agg #[(.int .i64 p0.vars),aG])) rfl ?_
 intro a w b1 hE hp
 have hp:=r1 hp
 refine S hE 1 rfl fun a hE=>aC (aH ?_)
 refine aH (aB ?_)
 refine V hE hp rfl (aZ rfl hE rfl (fun w hw=>gQ (cs:=[(.int .i64 p0.vars),aG]) iU (Hp.cN 0 rfl 0 _ (bY rfl) w hw))) fun a hE=>?_
 obtain⟨x1,ex1,hm⟩:=bnd hm
 refine s_call (wk0 rfl) rfl rfl hE rfl [(.agg #[(.int .i64 p0.vars),aG])] ⟨rfl,trivial⟩ ent31 (J5 p0 aG bK hp x1 ex1) Ret.ret ?_
 intro v a w hR hE
 obtain⟨rfl,hp⟩:=Ret.of hR
 have hp:=r1 hp
 refine S hE 2 rfl fun a hE=>?_
 refine kR [_,_,_] (fun a w=>Env 34 [(14,(.bool ((!x1)||(decide (p2<0))))),(1,vp1),(2,(.int .i64 p2)),(3,(.pointer (some ⟨b1,0,none⟩)))] a∧Hp Z ρ (Pt b1 (.cells #[(.int .i64 p0.vars),aG] 24 (0,0))::L) w) ?_ ?_
 ·rcases Bool.eq_false_or_eq_true (!x1) with hc1|hc1
  ·
   refine Gk hE hc1 rfl fun a hE=>Gk hE hc1 rfl fun a hE=>pk1 hE hc1 rfl rfl rfl rfl fun a hE=>?_
   have hE:=hE.eqv (v':=(.bool ((!x1)||(decide (p2<0))))) (by rw[hc1];rfl)
   exact aC ⟨hE.cut ⟨rfl,rfl,rfl,rfl,trivial⟩,hp⟩
  refine Gs hE hc1 rfl rfl fun a hE=>Gs hE hc1 rfl rfl fun a hE=>pk0 hE hc1 rfl rfl rfl rfl fun a hE=>?_
  have hE:=hE.eqv (v':=(.bool ((!x1)||(decide (p2<0))))) (by rw[hc1];rfl)
  exact aC ⟨hE.cut ⟨rfl,rfl,rfl,rfl,trivial⟩,hp⟩
 rintro a w ⟨hE,hp⟩
 refine S hE 1 rfl fun a hE=>?_
 refine kR [_,_,_] (fun a w=>Env 34 [(18,(.bool (((!x1)||(decide (p2<0)))||(decide (65536<p2))))),(1,vp1),(3,(.pointer (some ⟨b1,0,none⟩)))] a∧Hp Z ρ (Pt b1 (.cells #[(.int .i64 p0.vars),aG] 24 (0,0))::L) w) ?_ ?_
 ·rcases Bool.eq_false_or_eq_true ((!x1)||(decide (p2<0))) with hc2|hc2
  ·
   refine Gk hE hc2 rfl fun a hE=>Gk hE hc2 rfl fun a hE=>pk1 hE hc2 rfl rfl rfl rfl fun a hE=>?_
   have hE:=hE.eqv (v':=(.bool (((!x1)||(decide (p2<0)))||(decide (65536<p2))))) (by rw[hc2];rfl)
   exact aC ⟨hE.cut ⟨rfl,rfl,rfl,trivial⟩,hp⟩
  refine Gs hE hc2 rfl rfl fun a hE=>Gs hE hc2 rfl rfl fun a hE=>pk0 hE hc2 rfl rfl rfl rfl fun a hE=>?_
  have hE:=hE.eqv (v':=(.bool (((!x1)||(decide (p2<0)))||(decide (65536<p2))))) (by rw[hc2];rfl)
  exact aC ⟨hE.cut ⟨rfl,rfl,rfl,trivial⟩,hp⟩
 rintro a w ⟨hE,hp⟩
 refine aC ?_
 refine dO hE rfl (fun hc3=>?_) (fun hc3=>?_)
 ·replace hm:=(it hc3).symm.trans hm
  refine aH (aB ?_)
  refine S hE 1 rfl fun a hE=>aC (dE ?_)
  obtain rfl:=Option.some.inj hm
  exact iR hE rfl rfl ⟨_,rfl,rfl,(hp.drop)⟩
 replace hm:=(ie hc3).symm.trans hm
 refine bT (aH ?_)
 refine aH (aB ?_)
 refine S hE 1 rfl fun a hE=>aC ?_
 obtain⟨b2,hc4,hm⟩:=bnd hm
 refine dN (fun a w=>∃s:Unit,b2= .brk s∧(Env 34 [] a∧Hp Z ρ (Pt b1 (.cells #[(.int .i64 p0.vars),aG] 24 (0,0))::L) w)) ?_ ?_
 ·refine fQ hc4 (fun s a w=>Env 34 [(1,vp1),(3,(.pointer (some ⟨b1,0,none⟩))),(7,(.int .i64 s))] a∧Hp Z ρ (Pt b1 (.cells #[(.int .i64 p0.vars),aG] 24 (0,0))::L) w) ?_ ?_
  ·exact⟨hE.cut ⟨rfl,rfl,rfl,trivial⟩,hp⟩
  rintro bC st a w ⟨hE,hp⟩ hl1
  unfold mG at hl1
  refine aH (aH ?_)
  refine aB (S hE 2 rfl fun a hE=>?_)
  refine V hE hp rfl (dF rfl hE rfl (bU.len hp1 aY)) fun a hE=>S hE 1 rfl fun a hE=>aC ?_
  have hE:=hE.cut (E':=[(1,vp1),(3,(.pointer (some ⟨b1,0,none⟩))),(7,(.int .i64 bC)),(22,(.bool (decide (bC<(p1.length:Int)))))]) ⟨rfl,rfl,rfl,rfl,trivial⟩
  refine dO hE rfl (fun hc5=>?_) (fun hc5=>?_)
  ·replace hl1:=(it hc5).symm.trans hl1
   refine bT (aH ?_)
   refine dL (aH ?_)
   refine lJ (by kernel_rfl) (by kernel_rfl) hp ?_
   refine Sq hE 3 rfl fun a hE=>?_
   obtain⟨x2,ex2,hl1⟩:=bnd hl1
   refine Vq hE rfl (dV rfl hE rfl rfl (bF ex2)) fun a hE=>?_
   obtain⟨x3,ex3,hl1⟩:=bnd hl1
   obtain⟨v1,v1r,f1⟩:=bU.part hp1 aY (some (.i64,bC)) (some (.i64,x2)) rfl rfl ex3
   refine Vq hE rfl (uS rfl hE rfl (some (.i64,bC)) (some (.i64,x2)) (by exact rfl) (by exact rfl) v1r) fun a hE=>Vq hE rfl (xf hE mZ rfl rfl) fun a hE=>Vq hE rfl (xl hE bG 0 rfl rfl rfl rfl) fun a hE=>?_
   obtain⟨x4,ex4,hl1⟩:=bnd hl1
   refine xW (wk0 rfl) rfl rfl hE rfl [v1,(.int .i64 p0.vars)] ⟨rfl,rfl,trivial⟩ ent32 (v:=(.bool x4)) (fun w hw=>Calls.mono (sH x3 v1 f1 p0.vars hw x4 ex4) fun e w' ⟨v,he,hv,hh⟩=>⟨by rw[he,hv],hh⟩) ?_
   intro a hE
   refine Sq hE 1 rfl fun a hE=>?_
   refine nY fun w hp=>?_
   have hp:=r1 hp
   refine dO hE rfl (fun hc6=>?_) (fun hc6=>?_)
   ·replace hl1:=(it hc6).symm.trans hl1
    refine aH (aB ?_)
    refine S hE 1 rfl fun a hE=>aC (dE ?_)
    refine⟨_,(Option.some.inj hl1).symm,fun hb=>?_⟩
    subst hb
    obtain rfl:=Option.some.inj hm
    exact iR hE rfl rfl ⟨_,rfl,rfl,(hp.drop)⟩
   replace hl1:=(ie hc6).symm.trans hl1
   refine bT (aB ?_)
   refine S hE 1 rfl fun a hE=>?_
   obtain⟨x5,ex5,hl1⟩:=bnd hl1
   refine V hE hp rfl (dV rfl hE rfl rfl (bF ex5)) fun a hE=>S hE 1 rfl fun a hE=>aC ?_
   exact⟨_,(Option.some.inj hl1).symm,hE.cut ⟨rfl,rfl,rfl,trivial⟩,hp⟩
  replace hl1:=(ie hc5).symm.trans hl1
  refine eX ?_
  refine⟨_,(Option.some.inj hl1).symm,fun hbb=>?_⟩
  exact⟨_,hbb.symm,hE.cut trivial,hp⟩
 rintro a w ⟨b2s,rfl,hE,hp⟩
 dsimp only at hm
 refine aH (aB ?_)
 refine S hE 1 rfl fun a hE=>aC (dE ?_)
 obtain rfl:=Option.some.inj hm
 exact iR hE rfl rfl ⟨_,rfl,rfl,(hp.drop)⟩
set_option maxRecDepth 100000 in
set_option maxHeartbeats 4000000 in
theorem N8 {Z:World} {ρ:PH} {L:List bW} {w:World} (p0:Formula) (aG:Value) (bK:bU ρ aG p0.clauses) (p1:(List Int)) (vp1:Value) (hp1:bU ρ vp1 p1) (hp:Hp Z ρ (L) w) (r:Formula) (hm:jC p0 p1=some r):
  Calls Try.prog 26 #[(.agg #[(.int .i64 p0.vars),aG]),vp1] w (Ret fun v w'=>∃(ρ':PH) (wB:Value),ρ.le ρ'∧v=(.agg #[(.int .i64 r.vars),wB])∧bU ρ' wB r.clauses∧Hp Z ρ' (L) w'):=by
 refine enter (N:=20) Try.func26 rfl rfl [(0,(.agg #[(.int .i64 p0.vars),aG])),(1,vp1)] rfl (bP ⟨rfl,rfl,trivial⟩) fun a hE=>?_
 unfold jC at hm
 refine aH (aB ?_)
 refine qV (wk0 rfl) rfl rfl hE hp rfl (v:=(.agg #[(.int .i64 p0.vars),aG])) rfl ?_
 intro a w b1 hE hp
 have hp:=r1 hp
 refine qE (wk0 rfl) rfl rfl hE hp rfl [(.int .i64 0),(.slice none 0 0)] (fun w=>by simp[Instr.alloc,go_sem]<;>rfl) ?_
 intro a w b2 hE hp
 have hp:=r2 hp
 refine aC (aH ?_)
 refine aH (aB ?_)
 refine S hE 1 rfl fun a hE=>aC ?_
 obtain⟨b3,hc1,hm⟩:=bnd hm
 refine dN (fun a w=>∃(ρ1:PH) (yK:Value),ρ.le ρ1∧bU ρ1 yK b3.2∧Env 20 [(2,(.pointer (some ⟨b1,0,none⟩))),(4,(.pointer (some ⟨b2,0,none⟩)))] a∧Hp Z ρ1 (Pt b2 (.cells #[(.int .i64 0),(.slice none 0 0)] 24 (0,0))::Pt b1 (.cells #[(.int .i64 b3.1),yK] 24 (0,0))::L) w) ?_ ?_
 ·refine fQ hc1 (fun s a w=>∃(ρ1:PH) (yK:Value),ρ.le ρ1∧bU ρ1 yK s.2.2∧Env 20 [(1,vp1),(2,(.pointer (some ⟨b1,0,none⟩))),(4,(.pointer (some ⟨b2,0,none⟩))),(5,(.int .i64 s.1))] a∧Hp Z ρ1 (Pt b2 (.cells #[(.int .i64 0),(.slice none 0 0)] 24 (0,0))::Pt b1 (.cells #[(.int .i64 s.2.1),yK] 24 (0,0))::L) w) ?_ ?_
  ·exact⟨ρ,_,(PH.le.rf _),bK,hE.cut ⟨rfl,rfl,rfl,rfl,trivial⟩,hp⟩
  rintro⟨bC,cZ,dH⟩ st a w ⟨ρ1,yK,hlg1,hc1_1,hE,hp⟩ hl1
  dsimp only at hE hp hlg1 hc1_1 hl1
  unfold kF at hl1
  refine aH (aH ?_)
  refine aB (S hE 2 rfl fun a hE=>?_)
  refine V hE hp rfl (dF rfl hE rfl (bU.len (bU.mono hp1 hlg1) aY)) fun a hE=>S hE 1 rfl fun a hE=>aC ?_
  refine dO hE rfl (fun hc2=>?_) (fun hc2=>?_)
  ·replace hl1:=(it hc2).symm.trans hl1
   refine bT (aH ?_)
   refine dL ?_
   obtain⟨x1,ex1,hl1⟩:=bnd hl1
   obtain⟨x2,ex2,hl1⟩:=bnd hl1
   have hp:=hp.drew
   refine jW ([([],At0 Z ρ1),([7],At1 Z ρ1 (Pt b1 (.cells #[(.int .i64 cZ),yK] 24 (0,0))))]:Facts) (fun a w=>∃ρy1:PH,∃yv1:Value,ρ1.le ρy1∧bU ρy1 yv1 x2.clauses∧Env 20 [(1,vp1),(2,(.pointer (some ⟨b1,0,none⟩))),(4,(.pointer (some ⟨b2,0,none⟩))),(5,(.int .i64 bC))] a∧Hp Z ρy1 (Pt b2 (.cells #[(.int .i64 0),(.slice none 0 0)] 24 (0,0))::Pt b1 (.cells #[(.int .i64 x2.vars),yv1] 24 (0,0))::L) w) (by kernel_rfl) ⟨fun _=>⟨_,hp⟩,fun _=>⟨_,(hp.get 1 rfl)⟩,trivial⟩ (fun hS=>?_) ?_
   ·
    generalize w.drew=w at hS hp⊢
    refine T 0 1 hE hS rfl rfl rfl (by kernel_rfl) (fun _=>aZ rfl hE rfl (fun w hw=>gQ (cs:=[(.int .i64 cZ),yK]) iU (Hp.cN 0 rfl 0 _ (bY rfl) w hw))) fun a hE hS=>Ts [1,2] hE hS rfl rfl (by kernel_rfl) fun a hE hS=>?_
    obtain⟨b6,b6o,b6c,b6r,b6k,b6f⟩:=bU.at (bU.mono hp1 hlg1) aY ex1
    obtain rfl:b6c=Enc.enc x1:=b6k
    have b6f:AtP ρ1 b6 b6o [(.int .i64 x1)]:=b6f
    refine T0 3 hE hS rfl rfl rfl (by kernel_rfl) (fun _=>aV rfl hE rfl rfl b6r) fun a hE hS=>T0 4 hE hS rfl rfl rfl (by kernel_rfl) (fun _=>aZ rfl hE rfl (fun w hw=>bH bG (b6f.c 0 rfl w hw))) fun a hE hS=>?_
    refine W1 5 (by kernel_rfl) rfl ?_
    refine jJ (wk0 rfl) rfl rfl hE hp rfl [(0,(.int .i64 x1))] ⟨⟨rfl,rfl⟩,trivial⟩ [(.int .i64 x1)] 3 (fun w=>by simp[Instr.buildSlice,Instr.fill,Value.cells,go_sem]) ?_
    intro a w b7 hE hp
    have hp:=r3 hp
    refine aC (aI ⟨gp0 hp,gp 2 hp rfl,trivial⟩ fun hS=>?_)
    refine W1 6 (by kernel_rfl) rfl ?_
    have hp:=(hp.get 0 rfl).imp (pW (l:=(([x1]:List Int):List Int)) (n:=1) rfl (by decide) rfl)
    have hp:=r3 hp
    obtain⟨k2,k2a,k2d,hp⟩:=(hp.get 0 rfl).lend
    have f2:bU (ρ1.un k2) (.slice (some ⟨b7,0,none⟩) 1 1) ([x1]:List Int):=aA.ro k2d k2a
    have hp:=r2 hp
    refine s_call (wk0 rfl) rfl rfl hE rfl [(.agg #[(.int .i64 cZ),yK]),(.slice (some ⟨b7,0,none⟩) 1 1)] ⟨rfl,rfl,trivial⟩ ent23 (L9 (Formula.mk cZ dH) yK (bU.mono hc1_1 (PH.le_un _ k2)) ([x1]:List Int) (.slice (some ⟨b7,0,none⟩) 1 1) f2 hp x2 ex2) Ret.ret ?_
    intro v a w hR hE
    obtain⟨ρ3,vr2_clauses,hle2,rfl,hr2_clauses,hp⟩:=Ret.of hR
    have hp:=r2 hp
    refine aC (aI ⟨fun _=>⟨_,((hp.less hle2).less (PH.le_un _ k2))⟩,fun _=>⟨_,(((hp.get 1 rfl).less hle2).less (PH.le_un _ k2))⟩,trivial⟩ fun hS=>?_)
    refine W1 7 (by kernel_rfl) rfl ?_
    refine dM (wk0 rfl) rfl hE hp rfl rfl rfl 1 rfl iU.size_ rfl (bV ⟨rfl,(bU.one hr2_clauses),trivial⟩) [(.int .i64 x2.vars),vr2_clauses] rfl ?_
    intro w hp
    have hp:=r2 hp
    refine aC (aI ⟨fun _=>⟨_,((hp.less hle2).less (PH.le_un _ k2))⟩,dead (by kernel_rfl),trivial⟩ fun hS=>?_)
    exact eF (by kernel_rfl) ⟨ρ3,_,(PH.le.tr (PH.le_un _ k2) hle2),hr2_clauses,hE.cut ⟨rfl,rfl,rfl,rfl,trivial⟩,hp⟩
   rintro a w ⟨ρy1,yv1,hley1,yh1,hE,hp⟩
   refine aB (S hE 1 rfl fun a hE=>?_)
   obtain⟨x3,ex3,hl1⟩:=bnd hl1
   refine V hE hp rfl (dV rfl hE rfl rfl (bF ex3)) fun a hE=>S hE 1 rfl fun a hE=>aC ?_
   exact⟨_,(Option.some.inj hl1).symm,ρy1,_,(PH.le.tr hlg1 hley1),yh1,hE.cut ⟨rfl,rfl,rfl,rfl,trivial⟩,hp⟩
  replace hl1:=(ie hc2).symm.trans hl1
  refine eX ?_
  refine⟨_,(Option.some.inj hl1).symm,fun hbb=>?_⟩
  subst hbb
  exact⟨ρ1,_,hlg1,hc1_1,hE.cut ⟨rfl,rfl,trivial⟩,hp⟩
 rintro a w ⟨ρ1,yK,hlg1,hc1_1,hE,hp⟩
 refine aH (aB ?_)
 refine V hE hp rfl (aZ rfl hE rfl (fun w hw=>gQ (cs:=[(.int .i64 b3.1),yK]) iU (Hp.cN 1 rfl 0 _ (bY rfl) w hw))) fun a hE=>?_
 refine dM (wk0 rfl) rfl hE hp rfl rfl rfl 0 rfl iU.size_ rfl (bV ⟨rfl,(bU.one hc1_1),trivial⟩) [(.int .i64 b3.1),yK] rfl ?_
 intro w hp
 have hp:=r2 hp
 refine aC (dE ?_)
 obtain rfl:=Option.some.inj hm
 exact retc1 hE rfl rfl (rV (cs:=[(.int .i64 b3.1),yK]) iU (Hp.cN 0 rfl 0 _ (bY rfl) _ hp)) ⟨_,rfl,_,_,hlg1,rfl,hc1_1,(((hp.get 1 rfl).drop).drop)⟩
set_option maxRecDepth 100000 in
set_option maxHeartbeats 4000000 in
theorem vS {Z:World} {ρ:PH} {L:List bW} {w:World} (p0:Answer) (rX:Value) (hp0_model:bU ρ rX p0.model) (aQ:Value) (hp0_proof:bU ρ aQ p0.proof) (p1:Answer) (rY:Value) (hp1_model:bU ρ rY p1.model) (pX:Value) (hp1_proof:bU ρ pX p1.proof) (hp:Hp Z ρ (L) w) (r:Bool) (hm:kN p0 p1=some r):
  Calls Try.prog 14 #[(.agg #[(.int .i64 p0.kind),rX,aQ,(.int .i64 p0.conflicts)]),(.agg #[(.int .i64 p1.kind),rY,pX,(.int .i64 p1.conflicts)])] w (Ret fun v w'=>v=(.bool r)∧Hp Z ρ (L) w'):=by
 refine enter (N:=53) Try.func14 rfl rfl [(0,(.agg #[(.int .i64 p0.kind),rX,aQ,(.int .i64 p0.conflicts)])),(1,(.agg #[(.int .i64 p1.kind),rY,pX,(.int .i64 p1.conflicts)]))] rfl (bP ⟨rfl,rfl,trivial⟩) fun a hE=>?_
 unfold kN at hm
 refine aH (aB ?_)
 refine qV (wk0 rfl) rfl rfl hE hp rfl (v:=(.agg #[(.int .i64 p0.kind),rX,aQ,(.int .i64 p0.conflicts)])) rfl ?_
 intro a w b1 hE hp
 have hp:=r1 hp
 refine qV (wk0 rfl) rfl rfl hE hp rfl (v:=(.agg #[(.int .i64 p1.kind),rY,pX,(.int .i64 p1.conflicts)])) rfl ?_
 intro a w b2 hE hp
 have hp:=r2 hp
 refine S hE 1 rfl fun a hE=>aC (aH ?_)
 refine aH (aB ?_)
 refine V hE hp rfl (xf hE rM rfl rfl) fun a hE=>V hE hp rfl (xl hE bG 1 rfl rfl rfl rfl) fun a hE=>V hE hp rfl (xf hE rM rfl rfl) fun a hE=>V hE hp rfl (xl hE bG 0 rfl rfl rfl rfl) fun a hE=>S hE 2 rfl fun a hE=>?_
 refine kR [_,_,_,_,_,_] (fun a w=>Env 53 [(17,(.bool ((!decide (p0.kind=p1.kind))||(!decide (p0.conflicts=p1.conflicts))))),(2,(.pointer (some ⟨b1,0,none⟩))),(3,(.pointer (some ⟨b2,0,none⟩)))] a∧Hp Z ρ (Pt b2 (.cells #[(.int .i64 p1.kind),rY,pX,(.int .i64 p1.conflicts)] 29 (0,0))::Pt b1 (.cells #[(.int .i64 p0.kind),rX,aQ,(.int .i64 p0.conflicts)] 29 (0,0))::L) w) ?_ ?_
 ·rcases Bool.eq_false_or_eq_true (!decide (p0.kind=p1.kind)) with hc1|hc1
  ·
   refine Gk hE hc1 rfl fun a hE=>Gk hE hc1 rfl fun a hE=>Gk hE hc1 rfl fun a hE=>Gk hE hc1 rfl fun a hE=>Gk hE hc1 rfl fun a hE=>pk1 hE hc1 rfl rfl rfl rfl fun a hE=>?_
   have hE:=hE.eqv (v':=(.bool ((!decide (p0.kind=p1.kind))||(!decide (p0.conflicts=p1.conflicts))))) (by rw[hc1];rfl)
   exact aC ⟨hE.cut ⟨rfl,rfl,rfl,trivial⟩,hp⟩
  refine G hE hp hc1 rfl (xf hE uV rfl rfl) fun a hE=>G hE hp hc1 rfl (xl hE bG 1 rfl rfl rfl rfl) fun a hE=>G hE hp hc1 rfl (xf hE uV rfl rfl) fun a hE=>G hE hp hc1 rfl (xl hE bG 0 rfl rfl rfl rfl) fun a hE=>Gs hE hc1 rfl rfl fun a hE=>pk0 hE hc1 rfl rfl rfl rfl fun a hE=>?_
  have hE:=hE.eqv (v':=(.bool ((!decide (p0.kind=p1.kind))||(!decide (p0.conflicts=p1.conflicts))))) (by rw[hc1];rfl)
  exact aC ⟨hE.cut ⟨rfl,rfl,rfl,trivial⟩,hp⟩
 rintro a w ⟨hE,hp⟩
 refine S hE 1 rfl fun a hE=>?_
 refine kR [_,_,_,_,_,_,_,_] (fun a w=>Env 53 [(26,(.bool (((!decide (p0.kind=p1.kind))||(!decide (p0.conflicts=p1.conflicts)))||(!decide ((p0.model.length:Int)=(p1.model.length:Int)))))),(2,(.pointer (some ⟨b1,0,none⟩))),(3,(.pointer (some ⟨b2,0,none⟩)))] a∧Hp Z ρ (Pt b2 (.cells #[(.int .i64 p1.kind),rY,pX,(.int .i64 p1.conflicts)] 29 (0,0))::Pt b1 (.cells #[(.int .i64 p0.kind),rX,aQ,(.int .i64 p0.conflicts)] 29 (0,0))::L) w) ?_ ?_
 ·rcases Bool.eq_false_or_eq_true ((!decide (p0.kind=p1.kind))||(!decide (p0.conflicts=p1.conflicts))) with hc2|hc2
  ·
   refine Gk hE hc2 rfl fun a hE=>Gk hE hc2 rfl fun a hE=>Gk hE hc2 rfl fun a hE=>Gk hE hc2 rfl fun a hE=>Gk hE hc2 rfl fun a hE=>Gk hE hc2 rfl fun a hE=>Gk hE hc2 rfl fun a hE=>pk1 hE hc2 rfl rfl rfl rfl fun a hE=>?_
   have hE:=hE.eqv (v':=(.bool (((!decide (p0.kind=p1.kind))||(!decide (p0.conflicts=p1.conflicts)))||(!decide ((p0.model.length:Int)=(p1.model.length:Int)))))) (by rw[hc2];rfl)
   exact aC ⟨hE.cut ⟨rfl,rfl,rfl,trivial⟩,hp⟩
  refine G hE hp hc2 rfl (xf hE rO rfl rfl) fun a hE=>G hE hp hc2 rfl (xl hE bI 1 rfl rfl rfl rfl) fun a hE=>G hE hp hc2 rfl (dF rfl hE rfl (bU.len hp0_model aY)) fun a hE=>G hE hp hc2 rfl (xf hE rO rfl rfl) fun a hE=>G hE hp hc2 rfl (xl hE bI 0 rfl rfl rfl rfl) fun a hE=>G hE hp hc2 rfl (dF rfl hE rfl (bU.len hp1_model aY)) fun a hE=>Gs hE hc2 rfl rfl fun a hE=>pk0 hE hc2 rfl rfl rfl rfl fun a hE=>?_
  have hE:=hE.eqv (v':=(.bool (((!decide (p0.kind=p1.kind))||(!decide (p0.conflicts=p1.conflicts)))||(!decide ((p0.model.length:Int)=(p1.model.length:Int)))))) (by rw[hc2];rfl)
  exact aC ⟨hE.cut ⟨rfl,rfl,rfl,trivial⟩,hp⟩
 rintro a w ⟨hE,hp⟩
 refine S hE 1 rfl fun a hE=>?_
 obtain⟨m1,hg1,hm⟩:=bnd hm
 refine kR [_,_,_,_,_,_,_] (fun a w=>Env 53 [(34,(.bool m1)),(2,(.pointer (some ⟨b1,0,none⟩))),(3,(.pointer (some ⟨b2,0,none⟩)))] a∧Hp Z ρ (Pt b2 (.cells #[(.int .i64 p1.kind),rY,pX,(.int .i64 p1.conflicts)] 29 (0,0))::Pt b1 (.cells #[(.int .i64 p0.kind),rX,aQ,(.int .i64 p0.conflicts)] 29 (0,0))::L) w) ?_ ?_
 ·rcases Bool.eq_false_or_eq_true (((!decide (p0.kind=p1.kind))||(!decide (p0.conflicts=p1.conflicts)))||(!decide ((p0.model.length:Int)=(p1.model.length:Int)))) with hc3|hc3
  ·
   replace hg1:=(it hc3).symm.trans hg1
   refine Gk hE hc3 rfl fun a hE=>Gk hE hc3 rfl fun a hE=>Gk hE hc3 rfl fun a hE=>Gk hE hc3 rfl fun a hE=>Gk hE hc3 rfl fun a hE=>Gk hE hc3 rfl fun a hE=>pk1 hE hc3 rfl rfl rfl rfl fun a hE=>?_
   obtain rfl:=Option.some.inj hg1
   exact aC ⟨hE.cut ⟨rfl,rfl,rfl,trivial⟩,hp⟩
  replace hg1:=(ie hc3).symm.trans hg1
  refine G hE hp hc3 rfl (xf hE fldty29_2 rfl rfl) fun a hE=>G hE hp hc3 rfl (xl hE nG 1 rfl rfl rfl rfl) fun a hE=>G hE hp hc3 rfl (xf hE fldty29_2 rfl rfl) fun a hE=>G hE hp hc3 rfl (xl hE nG 0 rfl rfl rfl rfl) fun a hE=>?_
  obtain⟨x1,ex1,hg1⟩:=bnd hg1
  refine s_call (wk1 hE rfl rfl rfl hc3) rfl rfl hE rfl [aQ,pX] ⟨rfl,rfl,trivial⟩ ent33 (zA p0.proof aQ hp0_proof p1.proof pX hp1_proof hp x1 ex1) Ret.ret ?_
  intro v a w hR hE
  obtain⟨rfl,hp⟩:=Ret.of hR
  have hp:=r2 hp
  refine Gs hE hc3 rfl rfl fun a hE=>pk0 hE hc3 rfl rfl rfl rfl fun a hE=>?_
  obtain rfl:=Option.some.inj hg1
  exact aC ⟨hE.cut ⟨rfl,rfl,rfl,trivial⟩,hp⟩
 rintro a w ⟨hE,hp⟩
 refine aC ?_
 refine dO hE rfl (fun hc4=>?_) (fun hc4=>?_)
 ·replace hm:=(it hc4).symm.trans hm
  refine aH (aB ?_)
  refine S hE 1 rfl fun a hE=>aC (dE ?_)
  obtain rfl:=Option.some.inj hm
  exact iR hE rfl rfl ⟨_,rfl,rfl,(((hp.get 1 rfl).drop).drop)⟩
 replace hm:=(ie hc4).symm.trans hm
 refine bT (aH ?_)
 refine aH (aB ?_)
 refine S hE 1 rfl fun a hE=>aC ?_
 obtain⟨b3,hc5,hm⟩:=bnd hm
 refine dN (fun a w=>∃s:Unit,b3= .brk s∧(Env 53 [] a∧Hp Z ρ (Pt b2 (.cells #[(.int .i64 p1.kind),rY,pX,(.int .i64 p1.conflicts)] 29 (0,0))::Pt b1 (.cells #[(.int .i64 p0.kind),rX,aQ,(.int .i64 p0.conflicts)] 29 (0,0))::L) w)) ?_ ?_
 ·refine fQ hc5 (fun s a w=>Env 53 [(2,(.pointer (some ⟨b1,0,none⟩))),(3,(.pointer (some ⟨b2,0,none⟩))),(5,(.int .i64 s))] a∧Hp Z ρ (Pt b2 (.cells #[(.int .i64 p1.kind),rY,pX,(.int .i64 p1.conflicts)] 29 (0,0))::Pt b1 (.cells #[(.int .i64 p0.kind),rX,aQ,(.int .i64 p0.conflicts)] 29 (0,0))::L) w) ?_ ?_
  ·exact⟨hE.cut ⟨rfl,rfl,rfl,trivial⟩,hp⟩
  rintro bC st a w ⟨hE,hp⟩ hl1
  unfold mJ at hl1
  refine aH (aH ?_)
  refine aB (S hE 1 rfl fun a hE=>?_)
  refine V hE hp rfl (xf hE rO rfl rfl) fun a hE=>V hE hp rfl (xl hE bI 1 rfl rfl rfl rfl) fun a hE=>V hE hp rfl (dF rfl hE rfl (bU.len hp0_model aY)) fun a hE=>S hE 1 rfl fun a hE=>aC ?_
  refine dO hE rfl (fun hc6=>?_) (fun hc6=>?_)
  ·replace hl1:=(it hc6).symm.trans hl1
   refine bT (aH ?_)
   refine dL (aH ?_)
   refine lJ (by kernel_rfl) (by kernel_rfl) hp ?_
   refine Vq hE rfl (xf hE rO rfl rfl) fun a hE=>Vq hE rfl (xl hE bI 1 rfl rfl rfl rfl) fun a hE=>Sq hE 1 rfl fun a hE=>?_
   obtain⟨x2,ex2,hl1⟩:=bnd hl1
   obtain⟨b4,b4o,b4c,b4r,b4k,b4f⟩:=bU.at hp0_model aY ex2
   obtain rfl:b4c=Enc.enc x2:=b4k
   have b4f:AtP ρ b4 b4o [(.int .i64 x2)]:=b4f
   refine Vq hE rfl (aV rfl hE rfl rfl b4r) fun a hE=>Vq hE rfl (aZ rfl hE rfl (fun w hw=>bH bG (b4f.c 0 rfl w hw))) fun a hE=>Vq hE rfl (xf hE rO rfl rfl) fun a hE=>Vq hE rfl (xl hE bI 0 rfl rfl rfl rfl) fun a hE=>Sq hE 1 rfl fun a hE=>?_
   obtain⟨x3,ex3,hl1⟩:=bnd hl1
   obtain⟨b5,b5o,b5c,b5r,b5k,b5f⟩:=bU.at hp1_model aY ex3
   obtain rfl:b5c=Enc.enc x3:=b5k
   have b5f:AtP ρ b5 b5o [(.int .i64 x3)]:=b5f
   refine Vq hE rfl (aV rfl hE rfl rfl b5r) fun a hE=>Vq hE rfl (aZ rfl hE rfl (fun w hw=>bH bG (b5f.c 0 rfl w hw))) fun a hE=>Sq hE 1 rfl fun a hE=>?_
   refine nY fun w hp=>?_
   have hp:=r2 hp
   refine dO hE rfl (fun hc7=>?_) (fun hc7=>?_)
   ·replace hl1:=(it hc7).symm.trans hl1
    refine aH (aB ?_)
    refine S hE 1 rfl fun a hE=>aC (dE ?_)
    refine⟨_,(Option.some.inj hl1).symm,fun hb=>?_⟩
    subst hb
    obtain rfl:=Option.some.inj hm
    exact iR hE rfl rfl ⟨_,rfl,rfl,(((hp.get 1 rfl).drop).drop)⟩
   replace hl1:=(ie hc7).symm.trans hl1
   refine bT (aB ?_)
   refine S hE 1 rfl fun a hE=>?_
   obtain⟨x4,ex4,hl1⟩:=bnd hl1
   refine V hE hp rfl (dV rfl hE rfl rfl (bF ex4)) fun a hE=>S hE 1 rfl fun a hE=>aC ?_
   exact⟨_,(Option.some.inj hl1).symm,hE.cut ⟨rfl,rfl,rfl,trivial⟩,hp⟩
  replace hl1:=(ie hc6).symm.trans hl1
  refine eX ?_
  refine⟨_,(Option.some.inj hl1).symm,fun hbb=>?_⟩
  exact⟨_,hbb.symm,hE.cut trivial,hp⟩
 rintro a w ⟨b3s,rfl,hE,hp⟩
 dsimp only at hm
 refine aH (aB ?_)
 refine S hE 1 rfl fun a hE=>aC (dE ?_)
 obtain rfl:=Option.some.inj hm
 exact iR hE rfl rfl ⟨_,rfl,rfl,(((hp.get 1 rfl).drop).drop)⟩
end Go.Proofs.Ytpkhmndpeipfmaa

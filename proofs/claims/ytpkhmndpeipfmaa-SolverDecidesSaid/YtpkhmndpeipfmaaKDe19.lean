/- The code goes as its model: assessor/assessorref28.Fits, assessor/assessorref28.With, assessor/assessorref28.Contains, assessor/assessorref28.All, assessor/asse -/
import Derived.Test.YtpkhmndpeipfmaaKDeT
import Derived.Test.YtpkhmndpeipfmaaKDe6
import Derived.Test.YtpkhmndpeipfmaaKDe18
set_option linter.unusedVariables false
set_option linter.unusedSimpArgs false
namespace Go.Proofs.Ytpkhmndpeipfmaa
open Go.RowKit
set_option maxRecDepth 100000 in
set_option maxHeartbeats 4000000 in
theorem O3 {Z:World} {ρ:PH} {L:List bW} {w:World} (p0:Formula) (aG:Value) (bI:bT ρ aG p0.clauses) (p1:(List Int)) (vp1:Value) (hp1:bT ρ vp1 p1) (p2:Int) (hp:Hp Z ρ (L) w) (r:Bool) (hm:kX p0 p1 p2=some r):
  Calls Try.prog 13 #[(.agg #[(.int .i64 p0.vars),aG]),vp1,(.int .i64 p2)] w (Ret fun v w'=>v=(.bool r)∧Hp Z ρ (L) w'):=by
 refine enter (N:=34) Try.func13 rfl rfl [(0,(.agg #[(.int .i64 p0.vars),aG])),(1,vp1),(2,(.int .i64 p2))] rfl (bM ⟨rfl,rfl,rfl,trivial⟩) fun a hE=>?_
 unfold kX at hm
 refine aH (aB ?_)
 refine rC (wk0 rfl) rfl rfl hE hp rfl (v:=(.agg #[(.int .i64 p0.vars),aG])) rfl ?_
 intro a w b1 hE hp
 have hp:=r1 hp
 refine S hE 1 rfl fun a hE=>aC (aH ?_)
 refine aH (aB ?_)
 refine V hE hp rfl (bC rfl hE rfl (fun w hw=>iK (cs:=[(.int .i64 p0.vars),aG]) iQ (Hp.cN 0 rfl 0 _ (bZ rfl) w hw))) fun a hE=>?_
 obtain⟨x1,ex1,hm⟩:=bnd hm
 refine s_call (wk0 rfl) rfl rfl hE rfl [(.agg #[(.int .i64 p0.vars),aG])] ⟨rfl,trivial⟩ ent31 (uS p0 aG bI hp x1 ex1) Ret.ret ?_
 intro v a w hR hE
 obtain⟨rfl,hp⟩:=Ret.of hR
 have hp:=r1 hp
 refine S hE 2 rfl fun a hE=>?_
 refine kT [_,_,_] (fun a w=>Env 34 [(14,(.bool ((!x1)||(decide (p2<0))))),(1,vp1),(2,(.int .i64 p2)),(3,(.pointer (some ⟨b1,0,none⟩)))] a∧Hp Z ρ (Pt b1 (.cells #[(.int .i64 p0.vars),aG] 24 (0,0))::L) w) ?_ ?_
 ·rcases Bool.eq_false_or_eq_true (!x1) with hc1|hc1
  ·
   refine Gk hE hc1 rfl fun a hE=>Gk hE hc1 rfl fun a hE=>pk1 hE hc1 rfl rfl rfl rfl fun a hE=>?_
   have hE:=hE.eqv (v':=(.bool ((!x1)||(decide (p2<0))))) (by rw[hc1];rfl)
   exact aC ⟨hE.cut ⟨rfl,rfl,rfl,rfl,trivial⟩,hp⟩
  refine Gs hE hc1 rfl rfl fun a hE=>Gs hE hc1 rfl rfl fun a hE=>pk0 hE hc1 rfl rfl rfl rfl fun a hE=>?_
  have hE:=hE.eqv (v':=(.bool ((!x1)||(decide (p2<0))))) (by rw[hc1];rfl)
  exact aC ⟨hE.cut ⟨rfl,rfl,rfl,rfl,trivial⟩,hp⟩
 rintro a w ⟨hE,hp⟩
 refine S hE 1 rfl fun a hE=>?_
 refine kT [_,_,_] (fun a w=>Env 34 [(18,(.bool (((!x1)||(decide (p2<0)))||(decide (65536<p2))))),(1,vp1),(3,(.pointer (some ⟨b1,0,none⟩)))] a∧Hp Z ρ (Pt b1 (.cells #[(.int .i64 p0.vars),aG] 24 (0,0))::L) w) ?_ ?_
 ·rcases Bool.eq_false_or_eq_true ((!x1)||(decide (p2<0))) with hc2|hc2
  ·
   refine Gk hE hc2 rfl fun a hE=>Gk hE hc2 rfl fun a hE=>pk1 hE hc2 rfl rfl rfl rfl fun a hE=>?_
   have hE:=hE.eqv (v':=(.bool (((!x1)||(decide (p2<0)))||(decide (65536<p2))))) (by rw[hc2];rfl)
   exact aC ⟨hE.cut ⟨rfl,rfl,rfl,trivial⟩,hp⟩
  refine Gs hE hc2 rfl rfl fun a hE=>Gs hE hc2 rfl rfl fun a hE=>pk0 hE hc2 rfl rfl rfl rfl fun a hE=>?_
  have hE:=hE.eqv (v':=(.bool (((!x1)||(decide (p2<0)))||(decide (65536<p2))))) (by rw[hc2];rfl)
  exact aC ⟨hE.cut ⟨rfl,rfl,rfl,trivial⟩,hp⟩
 rintro a w ⟨hE,hp⟩
 refine aC ?_
 refine dO hE rfl (fun hc3=>?_) (fun hc3=>?_)
 ·replace hm:=(it hc3).symm.trans hm
  refine aH (aB ?_)
  refine S hE 1 rfl fun a hE=>aC (dE ?_)
  obtain rfl:=Option.some.inj hm
  exact iM hE rfl rfl ⟨_,rfl,rfl,(hp.drop)⟩
 replace hm:=(ie hc3).symm.trans hm
 refine bQ (aH ?_)
 refine aH (aB ?_)
 refine S hE 1 rfl fun a hE=>aC ?_
 obtain⟨b2,hc4,hm⟩:=bnd hm
 refine dL (fun a w=>∃s:Unit,b2= .brk s∧(Env 34 [] a∧Hp Z ρ (Pt b1 (.cells #[(.int .i64 p0.vars),aG] 24 (0,0))::L) w)) ?_ ?_
 ·refine fK hc4 (fun s a w=>Env 34 [(1,vp1),(3,(.pointer (some ⟨b1,0,none⟩))),(7,(.int .i64 s))] a∧Hp Z ρ (Pt b1 (.cells #[(.int .i64 p0.vars),aG] 24 (0,0))::L) w) ?_ ?_
  ·exact⟨hE.cut ⟨rfl,rfl,rfl,trivial⟩,hp⟩
  rintro aY st a w ⟨hE,hp⟩ hl1
  unfold mW at hl1
  refine aH (aH ?_)
  refine aB (S hE 2 rfl fun a hE=>?_)
  refine V hE hp rfl (dK rfl hE rfl (bT.len hp1 aZ)) fun a hE=>S hE 1 rfl fun a hE=>aC ?_
  have hE:=hE.cut (E':=[(1,vp1),(3,(.pointer (some ⟨b1,0,none⟩))),(7,(.int .i64 aY)),(22,(.bool (decide (aY<(p1.length:Int)))))]) ⟨rfl,rfl,rfl,rfl,trivial⟩
  refine dO hE rfl (fun hc5=>?_) (fun hc5=>?_)
  ·replace hl1:=(it hc5).symm.trans hl1
   refine bQ (aH ?_)
   refine dH (aH ?_)
   refine nO (by kernel_rfl) (by kernel_rfl) hp ?_
   refine Sq hE 3 rfl fun a hE=>?_
   obtain⟨x2,ex2,hl1⟩:=bnd hl1
   refine Vq hE rfl (dJ rfl hE rfl rfl (bD ex2)) fun a hE=>?_
   obtain⟨x3,ex3,hl1⟩:=bnd hl1
   obtain⟨v1,v1r,f1⟩:=bT.part hp1 aZ (some (.i64,aY)) (some (.i64,x2)) rfl rfl ex3
   refine Vq hE rfl (uU rfl hE rfl (some (.i64,aY)) (some (.i64,x2)) (by exact rfl) (by exact rfl) v1r) fun a hE=>Vq hE rfl (xf hE kV rfl rfl) fun a hE=>Vq hE rfl (xl hE bG 0 rfl rfl rfl rfl) fun a hE=>?_
   obtain⟨x4,ex4,hl1⟩:=bnd hl1
   refine vJ (wk0 rfl) rfl rfl hE rfl [v1,(.int .i64 p0.vars)] ⟨rfl,rfl,trivial⟩ ent32 (v:=(.bool x4)) (fun w hw=>Calls.mono (sN x3 v1 f1 p0.vars hw x4 ex4) fun e w' ⟨v,he,hv,hh⟩=>⟨by rw[he,hv],hh⟩) ?_
   intro a hE
   refine Sq hE 1 rfl fun a hE=>?_
   refine pR fun w hp=>?_
   have hp:=r1 hp
   refine dO hE rfl (fun hc6=>?_) (fun hc6=>?_)
   ·replace hl1:=(it hc6).symm.trans hl1
    refine aH (aB ?_)
    refine S hE 1 rfl fun a hE=>aC (dE ?_)
    refine⟨_,(Option.some.inj hl1).symm,fun hb=>?_⟩
    subst hb
    obtain rfl:=Option.some.inj hm
    exact iM hE rfl rfl ⟨_,rfl,rfl,(hp.drop)⟩
   replace hl1:=(ie hc6).symm.trans hl1
   refine bQ (aB ?_)
   refine S hE 1 rfl fun a hE=>?_
   obtain⟨x5,ex5,hl1⟩:=bnd hl1
   refine V hE hp rfl (dJ rfl hE rfl rfl (bD ex5)) fun a hE=>S hE 1 rfl fun a hE=>aC ?_
   exact⟨_,(Option.some.inj hl1).symm,hE.cut ⟨rfl,rfl,rfl,trivial⟩,hp⟩
  replace hl1:=(ie hc5).symm.trans hl1
  refine eP ?_
  refine⟨_,(Option.some.inj hl1).symm,fun hbb=>?_⟩
  exact⟨_,hbb.symm,hE.cut trivial,hp⟩
 rintro a w ⟨b2s,rfl,hE,hp⟩
 dsimp only at hm
 refine aH (aB ?_)
 refine S hE 1 rfl fun a hE=>aC (dE ?_)
 obtain rfl:=Option.some.inj hm
 exact iM hE rfl rfl ⟨_,rfl,rfl,(hp.drop)⟩
set_option maxRecDepth 100000 in
set_option maxHeartbeats 4000000 in
theorem O5 {Z:World} {ρ:PH} {L:List bW} {w:World} (p0:Formula) (aG:Value) (bI:bT ρ aG p0.clauses) (p1:(List Int)) (vp1:Value) (hp1:bT ρ vp1 p1) (hp:Hp Z ρ (L) w) (r:Formula) (hm:jI p0 p1=some r):
  Calls Try.prog 26 #[(.agg #[(.int .i64 p0.vars),aG]),vp1] w (Ret fun v w'=>∃(ρ':PH) (wE:Value),ρ.le ρ'∧v=(.agg #[(.int .i64 r.vars),wE])∧bT ρ' wE r.clauses∧Hp Z ρ' (L) w'):=by
 refine enter (N:=20) Try.func26 rfl rfl [(0,(.agg #[(.int .i64 p0.vars),aG])),(1,vp1)] rfl (bM ⟨rfl,rfl,trivial⟩) fun a hE=>?_
 unfold jI at hm
 refine aH (aB ?_)
 refine rC (wk0 rfl) rfl rfl hE hp rfl (v:=(.agg #[(.int .i64 p0.vars),aG])) rfl ?_
 intro a w b1 hE hp
 have hp:=r1 hp
 refine rD (wk0 rfl) rfl rfl hE hp rfl [(.int .i64 0),(.slice none 0 0)] (fun w=>by simp[Instr.alloc,go_sem]<;>rfl) ?_
 intro a w b2 hE hp
 have hp:=r2 hp
 refine aC (aH ?_)
 refine aH (aB ?_)
 refine S hE 1 rfl fun a hE=>aC ?_
 obtain⟨b3,hc1,hm⟩:=bnd hm
 refine dL (fun a w=>∃(ρ1:PH) (yL:Value),ρ.le ρ1∧bT ρ1 yL b3.2∧Env 20 [(2,(.pointer (some ⟨b1,0,none⟩))),(4,(.pointer (some ⟨b2,0,none⟩)))] a∧Hp Z ρ1 (Pt b2 (.cells #[(.int .i64 0),(.slice none 0 0)] 24 (0,0))::Pt b1 (.cells #[(.int .i64 b3.1),yL] 24 (0,0))::L) w) ?_ ?_
 ·refine fK hc1 (fun s a w=>∃(ρ1:PH) (yL:Value),ρ.le ρ1∧bT ρ1 yL s.2.2∧Env 20 [(1,vp1),(2,(.pointer (some ⟨b1,0,none⟩))),(4,(.pointer (some ⟨b2,0,none⟩))),(5,(.int .i64 s.1))] a∧Hp Z ρ1 (Pt b2 (.cells #[(.int .i64 0),(.slice none 0 0)] 24 (0,0))::Pt b1 (.cells #[(.int .i64 s.2.1),yL] 24 (0,0))::L) w) ?_ ?_
  ·exact⟨ρ,_,(PH.le.rf _),bI,hE.cut ⟨rfl,rfl,rfl,rfl,trivial⟩,hp⟩
  rintro⟨aY,bU,dF⟩ st a w ⟨ρ1,yL,hlg1,hc1_1,hE,hp⟩ hl1
  dsimp only at hE hp hlg1 hc1_1 hl1
  unfold kQ at hl1
  refine aH (aH ?_)
  refine aB (S hE 2 rfl fun a hE=>?_)
  refine V hE hp rfl (dK rfl hE rfl (bT.len (bT.mono hp1 hlg1) aZ)) fun a hE=>S hE 1 rfl fun a hE=>aC ?_
  refine dO hE rfl (fun hc2=>?_) (fun hc2=>?_)
  ·replace hl1:=(it hc2).symm.trans hl1
   refine bQ (aH ?_)
   refine dH ?_
   obtain⟨x1,ex1,hl1⟩:=bnd hl1
   obtain⟨x2,ex2,hl1⟩:=bnd hl1
   have hp:=hp.drew
   refine kD ([([],At0 Z ρ1),([7],At1 Z ρ1 (Pt b1 (.cells #[(.int .i64 bU),yL] 24 (0,0))))]:Facts) (fun a w=>∃ρy1:PH,∃yv1:Value,ρ1.le ρy1∧bT ρy1 yv1 x2.clauses∧Env 20 [(1,vp1),(2,(.pointer (some ⟨b1,0,none⟩))),(4,(.pointer (some ⟨b2,0,none⟩))),(5,(.int .i64 aY))] a∧Hp Z ρy1 (Pt b2 (.cells #[(.int .i64 0),(.slice none 0 0)] 24 (0,0))::Pt b1 (.cells #[(.int .i64 x2.vars),yv1] 24 (0,0))::L) w) (by kernel_rfl) ⟨fun _=>⟨_,hp⟩,fun _=>⟨_,(hp.get 1 rfl)⟩,trivial⟩ (fun hS=>?_) ?_
   ·
    generalize w.drew=w at hS hp⊢
    refine T 0 1 hE hS rfl rfl rfl (by kernel_rfl) (fun _=>bC rfl hE rfl (fun w hw=>iK (cs:=[(.int .i64 bU),yL]) iQ (Hp.cN 0 rfl 0 _ (bZ rfl) w hw))) fun a hE hS=>Ts [1,2] hE hS rfl rfl (by kernel_rfl) fun a hE hS=>?_
    obtain⟨b6,b6o,b6c,b6r,b6k,b6f⟩:=bT.at (bT.mono hp1 hlg1) aZ ex1
    obtain rfl:b6c=Enc.enc x1:=b6k
    have b6f:AtP ρ1 b6 b6o [(.int .i64 x1)]:=b6f
    refine T0 3 hE hS rfl rfl rfl (by kernel_rfl) (fun _=>aV rfl hE rfl rfl b6r) fun a hE hS=>T0 4 hE hS rfl rfl rfl (by kernel_rfl) (fun _=>bC rfl hE rfl (fun w hw=>bH bG (b6f.c 0 rfl w hw))) fun a hE hS=>?_
    refine W1 5 (by kernel_rfl) rfl ?_
    refine iW (wk0 rfl) rfl rfl hE hp rfl [(0,(.int .i64 x1))] ⟨⟨rfl,rfl⟩,trivial⟩ [(.int .i64 x1)] 3 (fun w=>by simp[Instr.buildSlice,Instr.fill,Value.cells,go_sem]) ?_
    intro a w b7 hE hp
    have hp:=r3 hp
    refine aC (aI ⟨gp0 hp,gp 2 hp rfl,trivial⟩ fun hS=>?_)
    refine W1 6 (by kernel_rfl) rfl ?_
    have hp:=(hp.get 0 rfl).imp (nZ (l:=(([x1]:List Int):List Int)) (n:=1) rfl (by decide) rfl)
    have hp:=r3 hp
    obtain⟨k2,k2a,k2d,hp⟩:=(hp.get 0 rfl).lend
    have f2:bT (ρ1.un k2) (.slice (some ⟨b7,0,none⟩) 1 1) ([x1]:List Int):=aA.ro k2d k2a
    have hp:=r2 hp
    refine s_call (wk0 rfl) rfl rfl hE rfl [(.agg #[(.int .i64 bU),yL]),(.slice (some ⟨b7,0,none⟩) 1 1)] ⟨rfl,rfl,trivial⟩ ent23 (O0 (Formula.mk bU dF) yL (bT.mono hc1_1 (PH.le_un _ k2)) ([x1]:List Int) (.slice (some ⟨b7,0,none⟩) 1 1) f2 hp x2 ex2) Ret.ret ?_
    intro v a w hR hE
    obtain⟨ρ3,vr2_clauses,hle2,rfl,hr2_clauses,hp⟩:=Ret.of hR
    have hp:=r2 hp
    refine aC (aI ⟨fun _=>⟨_,((hp.less hle2).less (PH.le_un _ k2))⟩,fun _=>⟨_,(((hp.get 1 rfl).less hle2).less (PH.le_un _ k2))⟩,trivial⟩ fun hS=>?_)
    refine W1 7 (by kernel_rfl) rfl ?_
    refine dR (wk0 rfl) rfl hE hp rfl rfl rfl 1 rfl iQ.size_ rfl (bY ⟨rfl,(bT.one hr2_clauses),trivial⟩) [(.int .i64 x2.vars),vr2_clauses] rfl ?_
    intro w hp
    have hp:=r2 hp
    refine aC (aI ⟨fun _=>⟨_,((hp.less hle2).less (PH.le_un _ k2))⟩,dead (by kernel_rfl),trivial⟩ fun hS=>?_)
    exact eF (by kernel_rfl) ⟨ρ3,_,(PH.le.tr (PH.le_un _ k2) hle2),hr2_clauses,hE.cut ⟨rfl,rfl,rfl,rfl,trivial⟩,hp⟩
   rintro a w ⟨ρy1,yv1,hley1,yh1,hE,hp⟩
   refine aB (S hE 1 rfl fun a hE=>?_)
   obtain⟨x3,ex3,hl1⟩:=bnd hl1
   refine V hE hp rfl (dJ rfl hE rfl rfl (bD ex3)) fun a hE=>S hE 1 rfl fun a hE=>aC ?_
   exact⟨_,(Option.some.inj hl1).symm,ρy1,_,(PH.le.tr hlg1 hley1),yh1,hE.cut ⟨rfl,rfl,rfl,rfl,trivial⟩,hp⟩
  replace hl1:=(ie hc2).symm.trans hl1
  refine eP ?_
  refine⟨_,(Option.some.inj hl1).symm,fun hbb=>?_⟩
  subst hbb
  exact⟨ρ1,_,hlg1,hc1_1,hE.cut ⟨rfl,rfl,trivial⟩,hp⟩
 rintro a w ⟨ρ1,yL,hlg1,hc1_1,hE,hp⟩
 refine aH (aB ?_)
 refine V hE hp rfl (bC rfl hE rfl (fun w hw=>iK (cs:=[(.int .i64 b3.1),yL]) iQ (Hp.cN 1 rfl 0 _ (bZ rfl) w hw))) fun a hE=>?_
 refine dR (wk0 rfl) rfl hE hp rfl rfl rfl 0 rfl iQ.size_ rfl (bY ⟨rfl,(bT.one hc1_1),trivial⟩) [(.int .i64 b3.1),yL] rfl ?_
 intro w hp
 have hp:=r2 hp
 refine aC (dE ?_)
 obtain rfl:=Option.some.inj hm
 exact retc1 hE rfl rfl (rZ (cs:=[(.int .i64 b3.1),yL]) iQ (Hp.cN 0 rfl 0 _ (bZ rfl) _ hp)) ⟨_,rfl,_,_,hlg1,rfl,hc1_1,(((hp.get 1 rfl).drop).drop)⟩
set_option maxRecDepth 100000 in
set_option maxHeartbeats 4000000 in
theorem mV {Z:World} {ρ:PH} {L:List bW} {w:World} (p0:(List Int)) (vp0:Value) (hp0:bT ρ vp0 p0) (p1:Int) (hp:Hp Z ρ (L) w) (r:Bool) (hm:fO p0 p1=some r):
  Calls Try.prog 40 #[vp0,(.int .i64 p1)] w (Ret fun v w'=>v=(.bool r)∧Hp Z ρ (L) w'):=by
 refine enter (N:=13) Try.func40 rfl rfl [(0,vp0),(1,(.int .i64 p1))] rfl (bM ⟨rfl,rfl,trivial⟩) fun a hE=>?_
 unfold fO at hm
 refine aH (aB ?_)
 refine S hE 1 rfl fun a hE=>aC (aH ?_)
 refine aB (S hE 2 rfl fun a hE=>?_)
 obtain⟨x1,ex1,hm⟩:=bnd hm
 refine s_call (wk0 rfl) rfl rfl hE rfl [(.int .i64 p1)] ⟨rfl,trivial⟩ ent25 (mQ p1 hp x1 ex1) Ret.ret ?_
 intro v a w hR hE
 obtain⟨rfl,hp⟩:=Ret.of hR
 have hp:=r0 hp
 obtain⟨x2,ex2,hm⟩:=bnd hm
 refine V hE hp rfl (sJ rfl hE rfl rfl (bD ex2)) fun a hE=>?_
 obtain⟨x3,ex3,hm⟩:=bnd hm
 obtain⟨b1,b1o,b1c,b1r,b1k,b1f⟩:=bT.at hp0 aZ ex3
 obtain rfl:b1c=Enc.enc x3:=b1k
 have b1f:AtP ρ b1 b1o [(.int .i64 x3)]:=b1f
 refine V hE hp rfl (aV rfl hE rfl rfl b1r) fun a hE=>V hE hp rfl (bC rfl hE rfl (fun w hw=>bH bG (b1f.c 0 rfl w hw))) fun a hE=>S hE 3 rfl fun a hE=>aC (dE ?_)
 obtain rfl:=Option.some.inj hm
 exact iM hE rfl rfl ⟨_,rfl,rfl,hp⟩
set_option maxRecDepth 100000 in
set_option maxHeartbeats 4000000 in
theorem Z4 {Z:World} {ρ:PH} {L:List bW} {w:World} (p0:(List Int)) (vp0:Value) (hp0:bT ρ vp0 p0) (p1:(List Int)) (vp1:Value) (hp1:bT ρ vp1 p1) (hp:Hp Z ρ (L) w) (r:Bool) (hm:lJ p0 p1=some r):
  Calls Try.prog 35 #[vp0,vp1] w (Ret fun v w'=>v=(.bool r)∧Hp Z ρ (L) w'):=by
 refine enter (N:=19) Try.func35 rfl rfl [(0,vp0),(1,vp1)] rfl (bM ⟨rfl,rfl,trivial⟩) fun a hE=>?_
 unfold lJ at hm
 refine aH (aB ?_)
 refine S hE 1 rfl fun a hE=>aC (aH ?_)
 refine aH (aB ?_)
 refine S hE 1 rfl fun a hE=>aC ?_
 obtain⟨b1,hc1,hm⟩:=bnd hm
 refine dL (fun a w=>∃s:Unit,b1= .brk s∧(Env 19 [] a∧Hp Z ρ (L) w)) ?_ ?_
 ·refine fK hc1 (fun s a w=>Env 19 [(0,vp0),(1,vp1),(5,(.int .i64 s))] a∧Hp Z ρ (L) w) ?_ ?_
  ·exact⟨hE.cut ⟨rfl,rfl,rfl,trivial⟩,hp⟩
  rintro aY st a w ⟨hE,hp⟩ hl1
  unfold nP at hl1
  refine aH (aH ?_)
  refine aB (S hE 2 rfl fun a hE=>?_)
  refine V hE hp rfl (dK rfl hE rfl (bT.len hp1 aZ)) fun a hE=>S hE 1 rfl fun a hE=>aC ?_
  refine dO hE rfl (fun hc2=>?_) (fun hc2=>?_)
  ·replace hl1:=(it hc2).symm.trans hl1
   refine bQ (aH ?_)
   refine dH (aH ?_)
   refine aB (S hE 3 rfl fun a hE=>?_)
   obtain⟨x1,ex1,hl1⟩:=bnd hl1
   obtain⟨b2,b2o,b2c,b2r,b2k,b2f⟩:=bT.at hp1 aZ ex1
   obtain rfl:b2c=Enc.enc x1:=b2k
   have b2f:AtP ρ b2 b2o [(.int .i64 x1)]:=b2f
   refine V hE hp rfl (aV rfl hE rfl rfl b2r) fun a hE=>V hE hp rfl (bC rfl hE rfl (fun w hw=>bH bG (b2f.c 0 rfl w hw))) fun a hE=>?_
   obtain⟨x2,ex2,hl1⟩:=bnd hl1
   refine s_call (wk0 rfl) rfl rfl hE rfl [vp0,(.int .i64 x1)] ⟨rfl,rfl,trivial⟩ ent40 (mV p0 vp0 hp0 x1 hp x2 ex2) Ret.ret ?_
   intro v a w hR hE
   obtain⟨rfl,hp⟩:=Ret.of hR
   have hp:=r0 hp
   refine S hE 1 rfl fun a hE=>aC ?_
   have hE:=hE.cut (E':=[(0,vp0),(1,vp1),(5,(.int .i64 aY)),(18,(.bool (!x2)))]) ⟨rfl,rfl,rfl,rfl,trivial⟩
   refine dO hE rfl (fun hc3=>?_) (fun hc3=>?_)
   ·replace hl1:=(it hc3).symm.trans hl1
    refine aH (aB ?_)
    refine S hE 1 rfl fun a hE=>aC (dE ?_)
    refine⟨_,(Option.some.inj hl1).symm,fun hb=>?_⟩
    subst hb
    obtain rfl:=Option.some.inj hm
    exact iM hE rfl rfl ⟨_,rfl,rfl,hp⟩
   replace hl1:=(ie hc3).symm.trans hl1
   refine bQ (aB ?_)
   refine S hE 1 rfl fun a hE=>?_
   obtain⟨x3,ex3,hl1⟩:=bnd hl1
   refine V hE hp rfl (dJ rfl hE rfl rfl (bD ex3)) fun a hE=>S hE 1 rfl fun a hE=>aC ?_
   exact⟨_,(Option.some.inj hl1).symm,hE.cut ⟨rfl,rfl,rfl,trivial⟩,hp⟩
  replace hl1:=(ie hc2).symm.trans hl1
  refine eP ?_
  refine⟨_,(Option.some.inj hl1).symm,fun hbb=>?_⟩
  exact⟨_,hbb.symm,hE.cut trivial,hp⟩
 rintro a w ⟨b1s,rfl,hE,hp⟩
 dsimp only at hm
 refine aH (aB ?_)
 refine S hE 1 rfl fun a hE=>aC (dE ?_)
 obtain rfl:=Option.some.inj hm
 exact iM hE rfl rfl ⟨_,rfl,rfl,hp⟩
set_option maxRecDepth 100000 in
set_option maxHeartbeats 4000000 in
theorem O4 {Z:World} {ρ:PH} {L:List bW} {w:World} (p0:(List Int)) (vp0:Value) (hp0:bT ρ vp0 p0) (p1:(List Int)) (vp1:Value) (hp1:bT ρ vp1 p1) (p2:(List Int)) (vp2:Value) (hp2:bT ρ vp2 p2) (hp:Hp Z ρ (L) w) (r:Bool) (hm:nD p0 p1 p2=some r):
  Calls Try.prog 18 #[vp0,vp1,vp2] w (Ret fun v w'=>v=(.bool r)∧Hp Z ρ (L) w'):=by
 refine enter (N:=33) Try.func18 rfl rfl [(0,vp0),(1,vp1),(2,vp2)] rfl (bM ⟨rfl,rfl,rfl,trivial⟩) fun a hE=>?_
 unfold nD at hm
 refine aH (aB ?_)
 refine S hE 1 rfl fun a hE=>aC (aH ?_)
 refine aH (aB ?_)
 refine S hE 1 rfl fun a hE=>aC ?_
 obtain⟨b1,hc1,hm⟩:=bnd hm
 refine dL (fun a w=>∃s:Unit,b1= .brk s∧(Env 33 [] a∧Hp Z ρ (L) w)) ?_ ?_
 ·refine fK hc1 (fun s a w=>Env 33 [(0,vp0),(1,vp1),(2,vp2),(7,(.int .i64 s))] a∧Hp Z ρ (L) w) ?_ ?_
  ·exact⟨hE.cut ⟨rfl,rfl,rfl,rfl,trivial⟩,hp⟩
  rintro aY st a w ⟨hE,hp⟩ hl1
  unfold kP at hl1
  refine aH (aH ?_)
  refine aB (S hE 2 rfl fun a hE=>?_)
  refine V hE hp rfl (dK rfl hE rfl (bT.len hp2 aZ)) fun a hE=>S hE 1 rfl fun a hE=>aC ?_
  refine dO hE rfl (fun hc2=>?_) (fun hc2=>?_)
  ·replace hl1:=(it hc2).symm.trans hl1
   refine bQ (aH ?_)
   refine dH (aH ?_)
   refine nO (by kernel_rfl) (by kernel_rfl) hp ?_
   refine Sq hE 3 rfl fun a hE=>?_
   obtain⟨x1,ex1,hl1⟩:=bnd hl1
   obtain⟨b2,b2o,b2c,b2r,b2k,b2f⟩:=bT.at hp2 aZ ex1
   obtain rfl:b2c=Enc.enc x1:=b2k
   have b2f:AtP ρ b2 b2o [(.int .i64 x1)]:=b2f
   refine Vq hE rfl (aV rfl hE rfl rfl b2r) fun a hE=>Vq hE rfl (bC rfl hE rfl (fun w hw=>bH bG (b2f.c 0 rfl w hw))) fun a hE=>?_
   obtain⟨x2,ex2,hl1⟩:=bnd hl1
   refine vJ (wk0 rfl) rfl rfl hE rfl [vp0,(.int .i64 x1)] ⟨rfl,rfl,trivial⟩ ent40 (v:=(.bool x2)) (fun w hw=>Calls.mono (mV p0 vp0 hp0 x1 hw x2 ex2) fun e w' ⟨v,he,hv,hh⟩=>⟨by rw[he,hv],hh⟩) ?_
   intro a hE
   refine Sq hE 3 rfl fun a hE=>?_
   obtain⟨x3,ex3,hl1⟩:=bnd hl1
   obtain⟨b3,b3o,b3c,b3r,b3k,b3f⟩:=bT.at hp2 aZ ex3
   obtain rfl:b3c=Enc.enc x3:=b3k
   have b3f:AtP ρ b3 b3o [(.int .i64 x3)]:=b3f
   refine Vq hE rfl (aV rfl hE rfl rfl b3r) fun a hE=>Vq hE rfl (bC rfl hE rfl (fun w hw=>bH bG (b3f.c 0 rfl w hw))) fun a hE=>?_
   obtain⟨x4,ex4,hl1⟩:=bnd hl1
   refine vJ (wk0 rfl) rfl rfl hE rfl [vp1,(.int .i64 x3)] ⟨rfl,rfl,trivial⟩ ent40 (v:=(.bool x4)) (fun w hw=>Calls.mono (mV p1 vp1 hp1 x3 hw x4 ex4) fun e w' ⟨v,he,hv,hh⟩=>⟨by rw[he,hv],hh⟩) ?_
   intro a hE
   refine Vq hE rfl (v:=(.bool (!(x2==x4)))) (ex_bneq bty4 rfl hE rfl rfl) fun a hE=>?_
   refine pR fun w hp=>?_
   have hp:=r0 hp
   refine dO hE rfl (fun hc3=>?_) (fun hc3=>?_)
   ·replace hl1:=(it hc3).symm.trans hl1
    refine aH (aB ?_)
    refine S hE 3 rfl fun a hE=>?_
    obtain⟨x5,ex5,hl1⟩:=bnd hl1
    obtain⟨b4,b4o,b4c,b4r,b4k,b4f⟩:=bT.at hp2 aZ ex5
    obtain rfl:b4c=Enc.enc x5:=b4k
    have b4f:AtP ρ b4 b4o [(.int .i64 x5)]:=b4f
    refine V hE hp rfl (aV rfl hE rfl rfl b4r) fun a hE=>V hE hp rfl (bC rfl hE rfl (fun w hw=>bH bG (b4f.c 0 rfl w hw))) fun a hE=>?_
    obtain⟨x6,ex6,hl1⟩:=bnd hl1
    refine s_call (wk0 rfl) rfl rfl hE rfl [vp1,(.int .i64 x5)] ⟨rfl,rfl,trivial⟩ ent40 (mV p1 vp1 hp1 x5 hp x6 ex6) Ret.ret ?_
    intro v a w hR hE
    obtain⟨rfl,hp⟩:=Ret.of hR
    have hp:=r0 hp
    refine S hE 1 rfl fun a hE=>aC ?_
    have hE:=hE.cut (E':=[(6,(.bool x6))]) ⟨rfl,trivial⟩
    refine dE ?_
    refine⟨_,(Option.some.inj hl1).symm,fun hb=>?_⟩
    subst hb
    obtain rfl:=Option.some.inj hm
    exact iM hE rfl rfl ⟨_,rfl,rfl,hp⟩
   replace hl1:=(ie hc3).symm.trans hl1
   refine bQ (aB ?_)
   refine S hE 1 rfl fun a hE=>?_
   obtain⟨x7,ex7,hl1⟩:=bnd hl1
   refine V hE hp rfl (dJ rfl hE rfl rfl (bD ex7)) fun a hE=>S hE 1 rfl fun a hE=>aC ?_
   exact⟨_,(Option.some.inj hl1).symm,hE.cut ⟨rfl,rfl,rfl,rfl,trivial⟩,hp⟩
  replace hl1:=(ie hc2).symm.trans hl1
  refine eP ?_
  refine⟨_,(Option.some.inj hl1).symm,fun hbb=>?_⟩
  exact⟨_,hbb.symm,hE.cut trivial,hp⟩
 rintro a w ⟨b1s,rfl,hE,hp⟩
 dsimp only at hm
 refine aH (aB ?_)
 refine S hE 1 rfl fun a hE=>aC (dE ?_)
 obtain rfl:=Option.some.inj hm
 exact iM hE rfl rfl ⟨_,rfl,rfl,hp⟩
set_option maxRecDepth 100000 in
set_option maxHeartbeats 4000000 in
theorem O1 {Z:World} {ρ:PH} {L:List bW} {w:World} (p0:Formula) (aG:Value) (bI:bT ρ aG p0.clauses) (p1:(List Int)) (vp1:Value) (hp1:bT ρ vp1 p1) (p2:(List Int)) (vp2:Value) (hp2:bT ρ vp2 p2) (hp:Hp Z ρ (L) w) (r:((List Int)×Bool)) (hm:nC p0 p1 p2=some r):
  Calls Try.prog 16 #[(.agg #[(.int .i64 p0.vars),aG]),vp1,vp2] w (Ret fun v w'=>∃(vr1:Value),v= .tuple #[vr1,(.bool r.2)]∧Hp Z ρ (aA 3 vr1 r.1::L) w'):=by
 refine enter (N:=45) Try.func16 rfl rfl [(0,(.agg #[(.int .i64 p0.vars),aG])),(1,vp1),(2,vp2)] rfl (bM ⟨rfl,rfl,rfl,trivial⟩) fun a hE=>?_
 unfold nC at hm
 refine aH (aB ?_)
 refine rC (wk0 rfl) rfl rfl hE hp rfl (v:=(.agg #[(.int .i64 p0.vars),aG])) rfl ?_
 intro a w b1 hE hp
 have hp:=r1 hp
 refine S hE 2 rfl fun a hE=>aC (aH ?_)
 refine aB ?_
 refine iW (wk0 rfl) rfl rfl hE hp rfl [] trivial [] 3 (fun w=>by simp[Instr.buildSlice,Instr.fill,Value.cells,go_sem]) ?_
 intro a w b2 hE hp
 have hp:=r2 hp
 refine S hE 2 rfl fun a hE=>aC (aH ?_)
 refine aH (aB ?_)
 refine S hE 1 rfl fun a hE=>aC ?_
 have hp:=(hp.get 0 rfl).imp (nZ (l:=(([]:List Int):List Int)) (n:=0) rfl (by decide) rfl)
 have hp:=r2 hp
 obtain⟨b3,hc1,hm⟩:=bnd hm
 refine dL (fun a w=>∃(w3:Value),Env 45 [(8,w3),(9,(.bool b3.1))] a∧Hp Z ρ (aA 3 w3 b3.2::Pt b1 (.cells #[(.int .i64 p0.vars),aG] 24 (0,0))::L) w) ?_ ?_
 ·refine fK hc1 (fun s a w=>∃(w3:Value),Env 45 [(1,vp1),(2,vp2),(3,(.pointer (some ⟨b1,0,none⟩))),(8,w3),(9,(.bool s.1)),(10,(.int .i64 s.2.1))] a∧Hp Z ρ (aA 3 w3 s.2.2::Pt b1 (.cells #[(.int .i64 p0.vars),aG] 24 (0,0))::L) w) ?_ ?_
  ·exact⟨_,hE.cut ⟨rfl,rfl,rfl,rfl,rfl,rfl,trivial⟩,hp⟩
  rintro⟨aY,bU,dF⟩ st a w ⟨w3,hE,hp⟩ hl1
  dsimp only at hE hp hl1
  unfold kN at hl1
  refine aH (aH ?_)
  refine aB (S hE 1 rfl fun a hE=>?_)
  refine V hE hp rfl (xf hE kV rfl rfl) fun a hE=>V hE hp rfl (xl hE bG 1 rfl rfl rfl rfl) fun a hE=>?_
  obtain⟨x1,ex1,hl1⟩:=bnd hl1
  refine V hE hp rfl (v:=(.int .i64 x1)) (ex_shl rfl hE rfl rfl ex1) fun a hE=>S hE 1 rfl fun a hE=>aC ?_
  refine dO hE rfl (fun hc2=>?_) (fun hc2=>?_)
  ·replace hl1:=(it hc2).symm.trans hl1
   refine bQ (aH ?_)
   refine dH (aH ?_)
   refine aB (V hE hp rfl (xf hE kV rfl rfl) fun a hE=>?_)
   refine V hE hp rfl (xl hE bG 1 rfl rfl rfl rfl) fun a hE=>S hE 1 rfl fun a hE=>?_
   obtain⟨x2,ex2,hl1⟩:=bnd hl1
   refine s_call (wk0 rfl) rfl rfl hE rfl [(.int .i64 p0.vars),(.int .i64 bU)] ⟨rfl,rfl,trivial⟩ ent37 (L6 p0.vars bU hp x2 ex2) Ret.ret ?_
   intro vr1 a w hR hE
   obtain⟨u,rfl,hp⟩:=Ret.of hR
   have hp:=r3 hp
   refine S hE 1 rfl fun a hE=>aC ?_
   have hE:=hE.cut (E':=[(1,vp1),(2,vp2),(3,(.pointer (some ⟨b1,0,none⟩))),(8,w3),(9,(.bool aY)),(10,(.int .i64 bU)),(11,vr1)]) ⟨rfl,rfl,rfl,rfl,rfl,rfl,rfl,trivial⟩
   refine aH (aB ?_)
   refine V hE hp rfl (bC rfl hE rfl (fun w hw=>iK (cs:=[(.int .i64 p0.vars),aG]) iQ (Hp.cN 2 rfl 0 _ (bZ rfl) w hw))) fun a hE=>S hE 1 rfl fun a hE=>?_
   obtain⟨k1,k1a,k1d,k1h⟩:=(hp.get 0 rfl).lend
   obtain⟨x3,ex3,hl1⟩:=bnd hl1
   refine s_call (wk0 rfl) rfl rfl hE rfl [(.agg #[(.int .i64 p0.vars),aG]),vr1] ⟨rfl,rfl,trivial⟩ ent34 (J8 p0 aG (bT.mono bI (PH.le_un _ _)) x2 vr1 (aA.ro k1d k1a) k1h x3 ex3) Ret.ret ?_
   intro v a w hR hE
   obtain⟨rfl,hp⟩:=Ret.of hR
   have hp:=Hp.back k1a k1d hp
   have hp:=r3 hp
   refine S hE 1 rfl fun a hE=>?_
   obtain⟨m1,hg1,hl1⟩:=bnd hl1
   refine kT [_,_,_,_] (fun a w=>Env 45 [(31,(.bool m1)),(1,vp1),(2,vp2),(3,(.pointer (some ⟨b1,0,none⟩))),(8,w3),(9,(.bool aY)),(10,(.int .i64 bU)),(11,vr1)] a∧Hp Z ρ (aA 3 vr1 x2::aA 3 w3 dF::Pt b1 (.cells #[(.int .i64 p0.vars),aG] 24 (0,0))::L) w) ?_ ?_
   ·rcases Bool.eq_false_or_eq_true x3 with hc3|hc3
    ·
     replace hg1:=(it hc3).symm.trans hg1
     refine Gs hE hc3 rfl rfl fun a hE=>Gs hE hc3 rfl rfl fun a hE=>?_
     obtain⟨k2,k2a,k2d,k2h⟩:=(hp.get 0 rfl).lend
     obtain⟨x4,ex4,hg1⟩:=bnd hg1
     refine s_call (wk1 hE rfl rfl rfl hc3) rfl rfl hE rfl [vr1,vp1] ⟨rfl,rfl,trivial⟩ ent35 (Z4 x2 vr1 (aA.ro k2d k2a) p1 vp1 (bT.mono hp1 (PH.le_un _ _)) k2h x4 ex4) Ret.ret ?_
     intro v a w hR hE
     obtain⟨rfl,hp⟩:=Ret.of hR
     have hp:=Hp.back k2a k2d hp
     have hp:=r3 hp
     refine pk1 hE hc3 rfl rfl rfl rfl fun a hE=>?_
     obtain rfl:=Option.some.inj hg1
     exact aC ⟨hE.cut ⟨rfl,rfl,rfl,rfl,rfl,rfl,rfl,rfl,trivial⟩,hp⟩
    replace hg1:=(ie hc3).symm.trans hg1
    refine Gk hE hc3 rfl fun a hE=>Gk hE hc3 rfl fun a hE=>Gk hE hc3 rfl fun a hE=>pk0 hE hc3 rfl rfl rfl rfl fun a hE=>?_
    obtain rfl:=Option.some.inj hg1
    exact aC ⟨hE.cut ⟨rfl,rfl,rfl,rfl,rfl,rfl,rfl,rfl,trivial⟩,hp⟩
   rintro a w ⟨hE,hp⟩
   refine S hE 1 rfl fun a hE=>?_
   obtain⟨m2,hg2,hl1⟩:=bnd hl1
   refine kT [_,_,_,_,_,_,_,_,_] (fun a w=>Env 45 [(41,(.bool m2)),(1,vp1),(2,vp2),(3,(.pointer (some ⟨b1,0,none⟩))),(8,w3),(9,(.bool aY)),(10,(.int .i64 bU)),(11,vr1)] a∧Hp Z ρ (aA 3 vr1 x2::aA 3 w3 dF::Pt b1 (.cells #[(.int .i64 p0.vars),aG] 24 (0,0))::L) w) ?_ ?_
   ·rcases Bool.eq_false_or_eq_true m1 with hc4|hc4
    ·
     replace hg2:=(it hc4).symm.trans hg2
     refine Gs hE hc4 rfl rfl fun a hE=>Gs hE hc4 rfl rfl fun a hE=>Gs hE hc4 rfl rfl fun a hE=>?_
     obtain⟨m3,hg3,hg2⟩:=bnd hg2
     refine kT [_,_,_,_,_] (fun a w=>Env 45 [(40,(.bool m3)),(1,vp1),(2,vp2),(3,(.pointer (some ⟨b1,0,none⟩))),(8,w3),(9,(.bool aY)),(10,(.int .i64 bU)),(11,vr1),(32,(.bool m1)),(33,(.bool aY)),(34,(.bool (!aY))),(35,(.bool (!aY)))] a∧Hp Z ρ (aA 3 vr1 x2::aA 3 w3 dF::Pt b1 (.cells #[(.int .i64 p0.vars),aG] 24 (0,0))::L) w) ?_ ?_
     ·rcases Bool.eq_false_or_eq_true (!aY) with hc5|hc5
      ·
       replace hg3:=(it hc5).symm.trans hg3
       refine Gk hE hc5 rfl fun a hE=>Gk hE hc5 rfl fun a hE=>Gk hE hc5 rfl fun a hE=>Gk hE hc5 rfl fun a hE=>G hE hp hc4 rfl (nT rfl hE rfl hc5 rfl) fun a hE=>?_
       obtain rfl:=Option.some.inj hg3
       exact aC ⟨hE.cut ⟨rfl,rfl,rfl,rfl,rfl,rfl,rfl,rfl,rfl,rfl,rfl,rfl,trivial⟩,hp⟩
      replace hg3:=(ie hc5).symm.trans hg3
      refine Gs hE hc5 rfl rfl fun a hE=>Gs hE hc5 rfl rfl fun a hE=>Gs hE hc5 rfl rfl fun a hE=>?_
      obtain⟨k3,k3a,k3d,k3h⟩:=(hp.get 0 rfl).lend
      obtain⟨k4,k4a,k4d,k4h⟩:=(k3h.get 0 rfl).lend
      obtain⟨x5,ex5,hg3⟩:=bnd hg3
      refine s_call (wk1 hE rfl rfl rfl hc5) rfl rfl hE rfl [vr1,w3,vp2] ⟨rfl,rfl,rfl,trivial⟩ ent18 (O4 x2 vr1 (bT.mono (aA.ro k3d k3a) (PH.le_un _ _)) dF w3 (aA.ro k4d k4a) p2 vp2 (bT.mono (bT.mono hp2 (PH.le_un _ _)) (PH.le_un _ _)) k4h x5 ex5) Ret.ret ?_
      intro v a w hR hE
      obtain⟨rfl,hp⟩:=Ret.of hR
      have hp:=Hp.back k4a k4d hp
      have hp:=Hp.back k3a k3d hp
      have hp:=r3 hp
      refine G hE hp hc4 rfl (dD rfl hE rfl hc5 rfl) fun a hE=>?_
      obtain rfl:=Option.some.inj hg3
      exact aC ⟨hE.cut ⟨rfl,rfl,rfl,rfl,rfl,rfl,rfl,rfl,rfl,rfl,rfl,rfl,trivial⟩,hp⟩
     rintro a w ⟨hE,hp⟩
     refine pk1 hE hc4 rfl rfl rfl rfl fun a hE=>?_
     obtain rfl:=Option.some.inj hg2
     exact aC ⟨hE.cut ⟨rfl,rfl,rfl,rfl,rfl,rfl,rfl,rfl,trivial⟩,hp⟩
    replace hg2:=(ie hc4).symm.trans hg2
    refine Gk hE hc4 rfl fun a hE=>Gk hE hc4 rfl fun a hE=>Gk hE hc4 rfl fun a hE=>?_
    refine s_skip (wk3 hE rfl rfl rfl) rfl rfl hE ?_
    intro a hE
    refine s_skip (wk3 hE rfl rfl rfl) rfl rfl hE ?_
    intro a hE
    refine s_skip (wk3 hE rfl rfl rfl) rfl rfl hE ?_
    intro a hE
    refine s_skip (wk3 hE rfl rfl rfl) rfl rfl hE ?_
    intro a hE
    refine Gk hE hc4 rfl fun a hE=>pk0 hE hc4 rfl rfl rfl rfl fun a hE=>?_
    obtain rfl:=Option.some.inj hg2
    exact aC ⟨hE.cut ⟨rfl,rfl,rfl,rfl,rfl,rfl,rfl,rfl,trivial⟩,hp⟩
   rintro a w ⟨hE,hp⟩
   refine aC ?_
   refine dO hE rfl (fun hc6=>?_) (fun hc6=>?_)
   ·replace hl1:=(it hc6).symm.trans hl1
    refine aB (S hE 3 rfl fun a hE=>?_)
    refine aC (aB ?_)
    refine S hE 1 rfl fun a hE=>?_
    obtain⟨x6,ex6,hl1⟩:=bnd hl1
    refine V hE hp rfl (dJ rfl hE rfl rfl (bD ex6)) fun a hE=>S hE 1 rfl fun a hE=>aC ?_
    have hp:=(hp.get 1 rfl).drop
    have hp:=r2 hp
    exact⟨_,(Option.some.inj hl1).symm,_,hE.cut ⟨rfl,rfl,rfl,rfl,rfl,rfl,trivial⟩,hp⟩
   replace hl1:=(ie hc6).symm.trans hl1
   refine bQ (aB ?_)
   refine S hE 1 rfl fun a hE=>?_
   obtain⟨x7,ex7,hl1⟩:=bnd hl1
   refine V hE hp rfl (dJ rfl hE rfl rfl (bD ex7)) fun a hE=>S hE 1 rfl fun a hE=>aC ?_
   exact⟨_,(Option.some.inj hl1).symm,_,hE.cut ⟨rfl,rfl,rfl,rfl,rfl,rfl,trivial⟩,(hp.drop)⟩
  replace hl1:=(ie hc2).symm.trans hl1
  refine eP ?_
  refine⟨_,(Option.some.inj hl1).symm,fun hbb=>?_⟩
  subst hbb
  exact⟨_,hE.cut ⟨rfl,rfl,trivial⟩,hp⟩
 rintro a w ⟨w3,hE,hp⟩
 refine aH (aB ?_)
 refine S hE 4 rfl fun a hE=>aC (dE ?_)
 obtain rfl:=Option.some.inj hm
 exact ret2 hE rfl rfl rfl ⟨_,rfl,_,rfl,((hp.get 1 rfl).drop)⟩
end Go.Proofs.Ytpkhmndpeipfmaa

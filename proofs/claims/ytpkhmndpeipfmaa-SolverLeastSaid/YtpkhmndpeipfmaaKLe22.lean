/- The code goes as its model: assessor/assessorlaw28.SolverLeast. (Printed by wip/sp/gen.py.) -/
import Derived.Test.YtpkhmndpeipfmaaKLeT
import Derived.Test.YtpkhmndpeipfmaaKLe6
import Derived.Test.YtpkhmndpeipfmaaKLe21
import Derived.Test.YtpkhmndpeipfmaaKLe3
import Derived.Test.YtpkhmndpeipfmaaKLe2
import Derived.Test.YtpkhmndpeipfmaaKLe4
import Derived.Lib.ItoaNum
set_option linter.unusedVariables false
set_option linter.unusedSimpArgs false
set_option maxRecDepth 100000
set_option maxHeartbeats 4000000
namespace Go.Proofs.Ytpkhmndpeipfmaa
open Go.RowKit
theorem c_assessorlaw28_SolverLeast {Z:World} {ρ:PH} {L:List bZ} {w:World} (p0:Formula) (aF:Value) (bH:bJ ρ aF p0.clauses) (p1:(List Int)) (vp1:Value) (hp1:bJ ρ vp1 p1) (p2:Int) (hp:Hp Z ρ (L) w) (r:Bool) (hm:mV p0 p1 p2=some r):
  Calls Try.prog 5 #[(.agg #[(Iv p0.vars),aF]),vp1,(Iv p2)] w (Ret fun v w'=>v=(.bool r)∧Hp Z ρ (L) w'):=by
 refine enter (N:=124) Try.func5 rfl rfl [(0,(.agg #[(Iv p0.vars),aF])),(1,vp1),(2,(Iv p2))] rfl (bT ⟨rfl,rfl,rfl,trivial⟩) fun a hE=>?_
 unfold mV at hm
 refine aG (aB ?_)
 refine qH (wk0 rfl) rfl rfl hE hp rfl (v:=(.agg #[(Iv p0.vars),aF])) rfl ?_
 intro a w b1 hE hp
 have hp:=r1 hp
 refine S hE 1 rfl fun a hE=>aC (aG ?_)
 refine aG (aB ?_)
 obtain⟨x1,ex1,hm⟩:=bnd hm
 refine Cl hE rfl rfl ent10 (X7 hp x1 ex1) trivial fun v a w hR hE=>?_
 obtain⟨rfl,hp⟩:=hR
 have hp:=r1 hp
 refine S hE 1 rfl fun a hE=>aC ?_
 refine dK hE rfl (fun hc1=>?_) (fun hc1=>?_)
 ·replace hm:=(it hc1).symm.trans hm
  refine aG (aB ?_)
  refine S hE 1 rfl fun a hE=>aC (dC ?_)
  obtain rfl:=oj hm
  exact gK hE rfl rfl ⟨_,rfl,rfl,(hp.drop)⟩
 replace hm:=(ie hc1).symm.trans hm
 refine bQ (aG ?_)
 refine aG (aB ?_)
 refine V hE hp rfl (aX rfl hE rfl (fun w hw=>eY (cs:=[(Iv p0.vars),aF]) fP (Hp.cN 0 rfl 0 _ (bW rfl) w hw))) fun a hE=>?_
 obtain⟨x2,ex2,hm⟩:=bnd hm
 refine Cl hE rfl rfl ent11 (X8 p0 aF bH 8 40 hp x2 ex2) ⟨rfl,rfl,rfl,trivial⟩ fun v a w hR hE=>?_
 obtain⟨rfl,hp⟩:=hR
 have hp:=r1 hp
 refine S hE 2 rfl fun a hE=>?_
 refine iD [_,_,_,_] (fun a w=>Env 124 [(22,(.bool ((!x2)||(decide (20<(p1.length:Int)))))),(1,vp1),(2,(Iv p2)),(3,(Pv b1 0))] a∧Hp Z ρ (Pt b1 (.cells #[(Iv p0.vars),aF] 24 (0,0))::L) w) ?_ ?_
 ·rcases Bool.eq_false_or_eq_true (!x2) with hc2|hc2
  ·
   refine Gk hE hc2 rfl fun a hE=>Gk hE hc2 rfl fun a hE=>Gk hE hc2 rfl fun a hE=>pk1 hE hc2 rfl rfl rfl rfl fun a hE=>?_
   have hE:=hE.eqv (v':=(.bool ((!x2)||(decide (20<(p1.length:Int)))))) (by rw[hc2];rfl)
   exact aC ⟨hE.cut ⟨rfl,rfl,rfl,rfl,trivial⟩,hp⟩
  refine Gs hE hc2 rfl rfl fun a hE=>G hE hp hc2 rfl (dD rfl hE rfl (bJ.len hp1 aY)) fun a hE=>Gs hE hc2 rfl rfl fun a hE=>pk0 hE hc2 rfl rfl rfl rfl fun a hE=>?_
  have hE:=hE.eqv (v':=(.bool ((!x2)||(decide (20<(p1.length:Int)))))) (by rw[hc2];rfl)
  exact aC ⟨hE.cut ⟨rfl,rfl,rfl,rfl,trivial⟩,hp⟩
 rintro a w ⟨hE,hp⟩
 refine aC ?_
 refine dK hE rfl (fun hc3=>?_) (fun hc3=>?_)
 ·replace hm:=(it hc3).symm.trans hm
  refine aG (aB ?_)
  refine S hE 1 rfl fun a hE=>aC (dC ?_)
  obtain rfl:=oj hm
  exact gK hE rfl rfl ⟨_,rfl,rfl,(hp.drop)⟩
 replace hm:=(ie hc3).symm.trans hm
 refine bQ (aG ?_)
 refine aB (V hE hp rfl (aX rfl hE rfl (fun w hw=>eY (cs:=[(Iv p0.vars),aF]) fP (Hp.cN 0 rfl 0 _ (bW rfl) w hw))) fun a hE=>?_)
 refine S hE 1 rfl fun a hE=>?_
 obtain⟨x3,ex3,hm⟩:=bnd hm
 refine Cl hE rfl rfl ent17 (zU p0 aF bH p1 vp1 hp1 65536 hp x3 ex3) ⟨rfl,rfl,rfl,trivial⟩ fun v a w hR hE=>?_
 obtain⟨dM,dP,nJ,rfl,hp⟩:=hR
 have hp:=r3 hp
 refine S hE 3 rfl fun a hE=>?_
 refine sQ (wk0 rfl) rfl rfl hE hp rfl [(Iv 0),N0,N0,(Iv 0)] (fun w=>by simp[Instr.alloc,go_sem]<;>rfl) ?_
 intro a w b2 hE hp
 have hp:=r4 hp
 refine dW (wk0 rfl) rfl hE hp rfl rfl rfl 0 rfl eH.size_ rfl (cO ⟨rfl,(aA.one hp 1 rfl),(bV.one hp 2 rfl),rfl,trivial⟩) [(Iv x3.1.kind),dM,dP,(Iv x3.1.conflicts)] rfl ?_
 intro w hp
 have hp:=r4 hp
 refine S hE 1 rfl fun a hE=>aC (aG ?_)
 refine aB (V hE hp rfl (aX rfl hE rfl (fun w hw=>eY (cs:=[(Iv p0.vars),aF]) fP (Hp.cN 3 rfl 0 _ (bW rfl) w hw))) fun a hE=>?_)
 refine S hE 2 rfl fun a hE=>?_
 obtain⟨x4,ex4,hm⟩:=bnd hm
 refine Cl hE rfl rfl ent17 (zU p0 aF bH p1 vp1 hp1 p2 hp x4 ex4) ⟨rfl,rfl,rfl,trivial⟩ fun v a w hR hE=>?_
 obtain⟨fC,fF,pW,rfl,hp⟩:=hR
 have hp:=r6 hp
 refine S hE 3 rfl fun a hE=>?_
 refine sQ (wk0 rfl) rfl rfl hE hp rfl [(Iv 0),N0,N0,(Iv 0)] (fun w=>by simp[Instr.alloc,go_sem]<;>rfl) ?_
 intro a w b3 hE hp
 have hp:=r7 hp
 refine dW (wk0 rfl) rfl hE hp rfl rfl rfl 0 rfl eH.size_ rfl (cO ⟨rfl,(aA.one hp 1 rfl),(bV.one hp 2 rfl),rfl,trivial⟩) [(Iv x4.1.kind),fC,fF,(Iv x4.1.conflicts)] rfl ?_
 intro w hp
 have hp:=r7 hp
 refine S hE 1 rfl fun a hE=>aC (aG ?_)
 refine aG (aB ?_)
 refine V hE hp rfl (aX rfl hE rfl (fun w hw=>eY (cs:=[(Iv p0.vars),aF]) fP (Hp.cN 6 rfl 0 _ (bW rfl) w hw))) fun a hE=>S hE 1 rfl fun a hE=>?_
 obtain⟨x5,ex5,hm⟩:=bnd hm
 refine Cl hE rfl rfl ent13 (xW p0 aF bH p1 vp1 hp1 0 hp x5 ex5) ⟨rfl,rfl,rfl,trivial⟩ fun v a w hR hE=>?_
 obtain⟨rfl,hp⟩:=hR
 have hp:=r7 hp
 refine S hE 1 rfl fun a hE=>aC ?_
 have hE:=hE.cut (E':=[(1,vp1),(2,(Iv p2)),(3,(Pv b1 0)),(7,(Pv b2 0)),(8,(Iv x3.2)),(9,(Pv b3 0)),(10,(Iv x4.2)),(39,(.bool (!x5)))]) ⟨rfl,rfl,rfl,rfl,rfl,rfl,rfl,rfl,trivial⟩
 refine dK hE rfl (fun hc4=>?_) (fun hc4=>?_)
 ·replace hm:=(it hc4).symm.trans hm
  refine aG (aB ?_)
  refine S hE 3 rfl fun a hE=>?_
  refine iD [_,_,_] (fun a w=>Env 124 [(45,(.bool ((decide (x3.2=1))&&(decide (x4.2=1))))),(7,(Pv b2 0))] a∧Hp Z ρ (Pt b3 (.cells #[(Iv x4.1.kind),fC,fF,(Iv x4.1.conflicts)] 29 (0,0))::aA 3 fC x4.1.model::bV 25 3 fF pW (x4.1.proof:(List (List Int)))::Pt b2 (.cells #[(Iv x3.1.kind),dM,dP,(Iv x3.1.conflicts)] 29 (0,0))::aA 3 dM x3.1.model::bV 25 3 dP nJ (x3.1.proof:(List (List Int)))::Pt b1 (.cells #[(Iv p0.vars),aF] 24 (0,0))::L) w) ?_ ?_
  ·rcases Bool.eq_false_or_eq_true (decide (x3.2=1)) with hc5|hc5
   ·
    refine Gs hE hc5 rfl rfl fun a hE=>Gs hE hc5 rfl rfl fun a hE=>pk1 hE hc5 rfl rfl rfl rfl fun a hE=>?_
    have hE:=hE.eqv (v':=(.bool ((decide (x3.2=1))&&(decide (x4.2=1))))) (by rw[hc5];rfl)
    exact aC ⟨hE.cut ⟨rfl,rfl,trivial⟩,hp⟩
   refine Gk hE hc5 rfl fun a hE=>Gk hE hc5 rfl fun a hE=>pk0 hE hc5 rfl rfl rfl rfl fun a hE=>?_
   have hE:=hE.eqv (v':=(.bool ((decide (x3.2=1))&&(decide (x4.2=1))))) (by rw[hc5];rfl)
   exact aC ⟨hE.cut ⟨rfl,rfl,trivial⟩,hp⟩
  rintro a w ⟨hE,hp⟩
  refine S hE 1 rfl fun a hE=>?_
  obtain⟨m1,hg1,hm⟩:=bnd hm
  refine iD [_,_,_,_] (fun a w=>Env 124 [(50,(.bool m1))] a∧Hp Z ρ (Pt b3 (.cells #[(Iv x4.1.kind),fC,fF,(Iv x4.1.conflicts)] 29 (0,0))::aA 3 fC x4.1.model::bV 25 3 fF pW (x4.1.proof:(List (List Int)))::Pt b2 (.cells #[(Iv x3.1.kind),dM,dP,(Iv x3.1.conflicts)] 29 (0,0))::aA 3 dM x3.1.model::bV 25 3 dP nJ (x3.1.proof:(List (List Int)))::Pt b1 (.cells #[(Iv p0.vars),aF] 24 (0,0))::L) w) ?_ ?_
  ·rcases Bool.eq_false_or_eq_true ((decide (x3.2=1))&&(decide (x4.2=1))) with hc6|hc6
   ·
    replace hg1:=(it hc6).symm.trans hg1
    refine G hE hp hc6 rfl (aX rfl hE rfl (fun w hw=>eY (cs:=[(Iv x3.1.kind),dM,dP,(Iv x3.1.conflicts)]) eH (Hp.cN 3 rfl 0 _ (bW rfl) w hw))) fun a hE=>G hE hp hc6 rfl (v:=(.agg #[(Iv 0),N0,N0,(Iv 0)])) (qY rfl hE [] (by exact trivial) (fun w=>by simp[Instr.build,Instr.fill,Value.cells,go_sem])) fun a hE=>?_
    obtain⟨k1,k1a,k1d,k1h⟩:=(hp.get 4 rfl).lend
    obtain⟨k2,k2a,k2d,k2h⟩:=(k1h.get 4 rfl).lend
    obtain⟨x6,ex6,hg1⟩:=bnd hg1
    refine Cg hE hc6 rfl rfl ent14 (tN x3.1 dM (bJ.mono (aA.ro k1d k1a) (PH.le_un _ _)) dP (bV.ro k2d k2a) (Answer.mk 0 ([]) ([]) 0) N0 (bJ.nil _) N0 (bJ.nil _) k2h x6 ex6) ⟨rfl,rfl,trivial⟩ fun v a w hR hE=>?_
    obtain⟨rfl,hp⟩:=hR
    have hp:=Hp.back k2a k2d hp
    have hp:=Hp.back k1a k1d hp
    have hp:=r7 hp
    refine pk1 hE hc6 rfl rfl rfl rfl fun a hE=>?_
    obtain rfl:=oj hg1
    exact aC ⟨hE.cut ⟨rfl,trivial⟩,(((((((hp.get 6 rfl).get 2 rfl).get 2 rfl).get 6 rfl).get 6 rfl).get 6 rfl).get 6 rfl)⟩
   replace hg1:=(ie hc6).symm.trans hg1
   refine Gk hE hc6 rfl fun a hE=>Gk hE hc6 rfl fun a hE=>Gk hE hc6 rfl fun a hE=>pk0 hE hc6 rfl rfl rfl rfl fun a hE=>?_
   obtain rfl:=oj hg1
   exact aC ⟨hE.cut ⟨rfl,trivial⟩,hp⟩
  rintro a w ⟨hE,hp⟩
  refine S hE 1 rfl fun a hE=>aC (dC ?_)
  obtain rfl:=oj hm
  exact gK hE rfl rfl ⟨_,rfl,rfl,(((((((((((((hp.get 6 rfl).drop).get 5 rfl).drop).get 4 rfl).drop).get 3 rfl).drop).get 2 rfl).drop).get 1 rfl).drop).drop)⟩
 replace hm:=(ie hc4).symm.trans hm
 refine bQ (aG ?_)
 refine aB (V hE hp rfl (aX rfl hE rfl (fun w hw=>eY (cs:=[(Iv p0.vars),aF]) fP (Hp.cN 6 rfl 0 _ (bW rfl) w hw))) fun a hE=>?_)
 refine S hE 1 rfl fun a hE=>?_
 obtain⟨x7,ex7,hm⟩:=bnd hm
 refine Cl hE rfl rfl ent16 (Y6 p0 aF bH [] N0 (bJ.nil _) p1 vp1 hp1 hp x7 ex7) ⟨rfl,rfl,rfl,trivial⟩ fun v a w hR hE=>?_
 obtain⟨vr9,rfl,hp⟩:=hR
 have hp:=r8 hp
 refine S hE 5 rfl fun a hE=>aC (aG ?_)
 refine aG (aB ?_)
 refine S hE 3 rfl fun a hE=>?_
 obtain⟨m2,hg2,hm⟩:=bnd hm
 refine iD [_,_,_,_,_] (fun a w=>Env 124 [(64,(.bool m2)),(1,vp1),(2,(Iv p2)),(3,(Pv b1 0)),(7,(Pv b2 0)),(9,(Pv b3 0)),(10,(Iv x4.2)),(11,vr9),(12,(.bool x7.2))] a∧Hp Z ρ (aA 3 vr9 x7.1::Pt b3 (.cells #[(Iv x4.1.kind),fC,fF,(Iv x4.1.conflicts)] 29 (0,0))::aA 3 fC x4.1.model::bV 25 3 fF pW (x4.1.proof:(List (List Int)))::Pt b2 (.cells #[(Iv x3.1.kind),dM,dP,(Iv x3.1.conflicts)] 29 (0,0))::aA 3 dM x3.1.model::bV 25 3 dP nJ (x3.1.proof:(List (List Int)))::Pt b1 (.cells #[(Iv p0.vars),aF] 24 (0,0))::L) w) ?_ ?_
 ·rcases Bool.eq_false_or_eq_true (!decide (x3.2=0)) with hc7|hc7
  ·
   replace hg2:=(it hc7).symm.trans hg2
   refine Gk hE hc7 rfl fun a hE=>Gk hE hc7 rfl fun a hE=>Gk hE hc7 rfl fun a hE=>Gk hE hc7 rfl fun a hE=>pk1 hE hc7 rfl rfl rfl rfl fun a hE=>?_
   obtain rfl:=oj hg2
   exact aC ⟨hE.cut ⟨rfl,rfl,rfl,rfl,rfl,rfl,rfl,rfl,rfl,trivial⟩,hp⟩
  replace hg2:=(ie hc7).symm.trans hg2
  refine G hE hp hc7 rfl (aX rfl hE rfl (fun w hw=>eY (cs:=[(Iv p0.vars),aF]) fP (Hp.cN 7 rfl 0 _ (bW rfl) w hw))) fun a hE=>G hE hp hc7 rfl (aX rfl hE rfl (fun w hw=>eY (cs:=[(Iv x3.1.kind),dM,dP,(Iv x3.1.conflicts)]) eH (Hp.cN 4 rfl 0 _ (bW rfl) w hw))) fun a hE=>?_
  obtain⟨k3,k3a,k3d,k3h⟩:=(hp.get 5 rfl).lend
  obtain⟨k4,k4a,k4d,k4h⟩:=(k3h.get 5 rfl).lend
  obtain⟨x8,ex8,hg2⟩:=bnd hg2
  refine Cg hE hc7 rfl rfl ent15 (wU p0 aF (bJ.mono (bJ.mono bH (PH.le_un _ _)) (PH.le_un _ _)) [] N0 (bJ.nil _) 65536 x3.1 dM (bJ.mono (aA.ro k3d k3a) (PH.le_un _ _)) dP (bV.ro k4d k4a) k4h x8 ex8) ⟨rfl,rfl,rfl,rfl,trivial⟩ fun v a w hR hE=>?_
  obtain⟨rfl,hp⟩:=hR
  have hp:=Hp.back k4a k4d hp
  have hp:=Hp.back k3a k3d hp
  have hp:=r8 hp
  refine Gs hE hc7 rfl rfl fun a hE=>pk0 hE hc7 rfl rfl rfl rfl fun a hE=>?_
  obtain rfl:=oj hg2
  exact aC ⟨hE.cut ⟨rfl,rfl,rfl,rfl,rfl,rfl,rfl,rfl,rfl,trivial⟩,((((((((hp.get 7 rfl).get 2 rfl).get 2 rfl).get 7 rfl).get 7 rfl).get 7 rfl).get 7 rfl).get 7 rfl)⟩
 rintro a w ⟨hE,hp⟩
 refine S hE 1 rfl fun a hE=>?_
 refine iD [_,_,_,_,_,_] (fun a w=>Env 124 [(71,(.bool (m2||(!((decide (x3.1.kind=0))==x7.2))))),(1,vp1),(2,(Iv p2)),(3,(Pv b1 0)),(7,(Pv b2 0)),(9,(Pv b3 0)),(10,(Iv x4.2)),(11,vr9),(12,(.bool x7.2))] a∧Hp Z ρ (aA 3 vr9 x7.1::Pt b3 (.cells #[(Iv x4.1.kind),fC,fF,(Iv x4.1.conflicts)] 29 (0,0))::aA 3 fC x4.1.model::bV 25 3 fF pW (x4.1.proof:(List (List Int)))::Pt b2 (.cells #[(Iv x3.1.kind),dM,dP,(Iv x3.1.conflicts)] 29 (0,0))::aA 3 dM x3.1.model::bV 25 3 dP nJ (x3.1.proof:(List (List Int)))::Pt b1 (.cells #[(Iv p0.vars),aF] 24 (0,0))::L) w) ?_ ?_
 ·rcases Bool.eq_false_or_eq_true m2 with hc8|hc8
  ·
   refine Gk hE hc8 rfl fun a hE=>Gk hE hc8 rfl fun a hE=>Gk hE hc8 rfl fun a hE=>Gk hE hc8 rfl fun a hE=>Gk hE hc8 rfl fun a hE=>pk1 hE hc8 rfl rfl rfl rfl fun a hE=>?_
   have hE:=hE.eqv (v':=(.bool (m2||(!((decide (x3.1.kind=0))==x7.2))))) (by rw[hc8];rfl)
   exact aC ⟨hE.cut ⟨rfl,rfl,rfl,rfl,rfl,rfl,rfl,rfl,rfl,trivial⟩,hp⟩
  refine G hE hp hc8 rfl (xf hE qO rfl rfl) fun a hE=>G hE hp hc8 rfl (xl hE bG 4 rfl rfl rfl rfl) fun a hE=>Gs hE hc8 rfl rfl fun a hE=>Gs hE hc8 rfl rfl fun a hE=>G hE hp hc8 rfl (v:=(.bool (!((decide (x3.1.kind=0))==x7.2)))) (ex_bneq bty4 rfl hE rfl rfl) fun a hE=>pk0 hE hc8 rfl rfl rfl rfl fun a hE=>?_
  have hE:=hE.eqv (v':=(.bool (m2||(!((decide (x3.1.kind=0))==x7.2))))) (by rw[hc8];rfl)
  exact aC ⟨hE.cut ⟨rfl,rfl,rfl,rfl,rfl,rfl,rfl,rfl,rfl,trivial⟩,hp⟩
 rintro a w ⟨hE,hp⟩
 refine S hE 1 rfl fun a hE=>?_
 refine iD [_,_,_,_,_,_] (fun a w=>Env 124 [(78,(.bool ((m2||(!((decide (x3.1.kind=0))==x7.2)))||((decide (x3.1.kind=1))==x7.2)))),(1,vp1),(2,(Iv p2)),(3,(Pv b1 0)),(7,(Pv b2 0)),(9,(Pv b3 0)),(10,(Iv x4.2)),(11,vr9),(12,(.bool x7.2))] a∧Hp Z ρ (aA 3 vr9 x7.1::Pt b3 (.cells #[(Iv x4.1.kind),fC,fF,(Iv x4.1.conflicts)] 29 (0,0))::aA 3 fC x4.1.model::bV 25 3 fF pW (x4.1.proof:(List (List Int)))::Pt b2 (.cells #[(Iv x3.1.kind),dM,dP,(Iv x3.1.conflicts)] 29 (0,0))::aA 3 dM x3.1.model::bV 25 3 dP nJ (x3.1.proof:(List (List Int)))::Pt b1 (.cells #[(Iv p0.vars),aF] 24 (0,0))::L) w) ?_ ?_
 ·rcases Bool.eq_false_or_eq_true (m2||(!((decide (x3.1.kind=0))==x7.2))) with hc9|hc9
  ·
   refine Gk hE hc9 rfl fun a hE=>Gk hE hc9 rfl fun a hE=>Gk hE hc9 rfl fun a hE=>Gk hE hc9 rfl fun a hE=>Gk hE hc9 rfl fun a hE=>pk1 hE hc9 rfl rfl rfl rfl fun a hE=>?_
   have hE:=hE.eqv (v':=(.bool ((m2||(!((decide (x3.1.kind=0))==x7.2)))||((decide (x3.1.kind=1))==x7.2)))) (by rw[hc9];rfl)
   exact aC ⟨hE.cut ⟨rfl,rfl,rfl,rfl,rfl,rfl,rfl,rfl,rfl,trivial⟩,hp⟩
  refine G hE hp hc9 rfl (xf hE qO rfl rfl) fun a hE=>G hE hp hc9 rfl (xl hE bG 4 rfl rfl rfl rfl) fun a hE=>Gs hE hc9 rfl rfl fun a hE=>Gs hE hc9 rfl rfl fun a hE=>G hE hp hc9 rfl (v:=(.bool ((decide (x3.1.kind=1))==x7.2))) (ex_beql bty4 rfl hE rfl rfl) fun a hE=>pk0 hE hc9 rfl rfl rfl rfl fun a hE=>?_
  have hE:=hE.eqv (v':=(.bool ((m2||(!((decide (x3.1.kind=0))==x7.2)))||((decide (x3.1.kind=1))==x7.2)))) (by rw[hc9];rfl)
  exact aC ⟨hE.cut ⟨rfl,rfl,rfl,rfl,rfl,rfl,rfl,rfl,rfl,trivial⟩,hp⟩
 rintro a w ⟨hE,hp⟩
 refine aC ?_
 refine dK hE rfl (fun hc10=>?_) (fun hc10=>?_)
 ·replace hm:=(it hc10).symm.trans hm
  refine aG (aB ?_)
  refine S hE 1 rfl fun a hE=>aC (dC ?_)
  obtain rfl:=oj hm
  exact gK hE rfl rfl ⟨_,rfl,rfl,(((((((((((((((hp.get 7 rfl).drop).get 6 rfl).drop).get 5 rfl).drop).get 4 rfl).drop).get 3 rfl).drop).get 2 rfl).drop).get 1 rfl).drop).drop)⟩
 replace hm:=(ie hc10).symm.trans hm
 refine bQ (aG ?_)
 refine aG (aB ?_)
 refine S hE 2 rfl fun a hE=>?_
 obtain⟨m3,hg3,hm⟩:=bnd hm
 refine iD [_,_,_,_,_,_,_,_,_,_,_,_,_] (fun a w=>Env 124 [(93,(.bool m3)),(1,vp1),(2,(Iv p2)),(3,(Pv b1 0)),(7,(Pv b2 0)),(9,(Pv b3 0)),(10,(Iv x4.2))] a∧Hp Z ρ (aA 3 vr9 x7.1::Pt b3 (.cells #[(Iv x4.1.kind),fC,fF,(Iv x4.1.conflicts)] 29 (0,0))::aA 3 fC x4.1.model::bV 25 3 fF pW (x4.1.proof:(List (List Int)))::Pt b2 (.cells #[(Iv x3.1.kind),dM,dP,(Iv x3.1.conflicts)] 29 (0,0))::aA 3 dM x3.1.model::bV 25 3 dP nJ (x3.1.proof:(List (List Int)))::Pt b1 (.cells #[(Iv p0.vars),aF] 24 (0,0))::L) w) ?_ ?_
 ·rcases Bool.eq_false_or_eq_true x7.2 with hc11|hc11
  ·
   replace hg3:=(it hc11).symm.trans hg3
   refine Gs hE hc11 rfl rfl fun a hE=>G hE hp hc11 rfl (xf hE oH rfl rfl) fun a hE=>G hE hp hc11 rfl (xl hE bK 4 rfl rfl rfl rfl) fun a hE=>Gs hE hc11 rfl rfl fun a hE=>?_
   obtain⟨k5,k5a,k5d,k5h⟩:=(hp.get 0 rfl).lend
   obtain⟨k6,k6a,k6d,k6h⟩:=(k5h.get 4 rfl).lend
   obtain⟨x9,ex9,hg3⟩:=bnd hg3
   refine Cg hE hc11 rfl rfl ent18 (tK x7.1 vr9 (bJ.mono (aA.ro k5d k5a) (PH.le_un _ _)) x3.1.model dM (aA.ro k6d k6a) p1 vp1 (bJ.mono (bJ.mono hp1 (PH.le_un _ _)) (PH.le_un _ _)) k6h x9 ex9) ⟨rfl,rfl,rfl,trivial⟩ fun v a w hR hE=>?_
   obtain⟨rfl,hp⟩:=hR
   have hp:=Hp.back k6a k6d hp
   have hp:=Hp.back k5a k5d hp
   have hp:=r8 hp
   refine Gs hE hc11 rfl rfl fun a hE=>?_
   obtain⟨m4,hg4,hg3⟩:=bnd hg3
   refine iD [_,_,_,_,_,_] (fun a w=>Env 124 [(92,(.bool m4)),(1,vp1),(2,(Iv p2)),(3,(Pv b1 0)),(7,(Pv b2 0)),(9,(Pv b3 0)),(10,(Iv x4.2)),(80,(.bool x7.2))] a∧Hp Z ρ (aA 3 vr9 x7.1::aA 3 dM x3.1.model::Pt b3 (.cells #[(Iv x4.1.kind),fC,fF,(Iv x4.1.conflicts)] 29 (0,0))::aA 3 fC x4.1.model::bV 25 3 fF pW (x4.1.proof:(List (List Int)))::Pt b2 (.cells #[(Iv x3.1.kind),dM,dP,(Iv x3.1.conflicts)] 29 (0,0))::bV 25 3 dP nJ (x3.1.proof:(List (List Int)))::Pt b1 (.cells #[(Iv p0.vars),aF] 24 (0,0))::L) w) ?_ ?_
   ·rcases Bool.eq_false_or_eq_true x9 with hc12|hc12
    ·
     replace hg4:=(it hc12).symm.trans hg4
     refine Gk hE hc12 rfl fun a hE=>Gk hE hc12 rfl fun a hE=>Gk hE hc12 rfl fun a hE=>Gk hE hc12 rfl fun a hE=>Gk hE hc12 rfl fun a hE=>G hE hp hc11 rfl (mD rfl hE rfl hc12 rfl) fun a hE=>?_
     obtain rfl:=oj hg4
     exact aC ⟨hE.cut ⟨rfl,rfl,rfl,rfl,rfl,rfl,rfl,rfl,trivial⟩,hp⟩
    replace hg4:=(ie hc12).symm.trans hg4
    refine G hE hp hc12 rfl (xf hE oH rfl rfl) fun a hE=>G hE hp hc12 rfl (xl hE bK 5 rfl rfl rfl rfl) fun a hE=>Gs hE hc12 rfl rfl fun a hE=>Gs hE hc12 rfl rfl fun a hE=>?_
    obtain⟨k7,k7a,k7d,k7h⟩:=(hp.get 1 rfl).lend
    obtain⟨k8,k8a,k8d,k8h⟩:=(k7h.get 0 rfl).lend
    obtain⟨x10,ex10,hg4⟩:=bnd hg4
    refine Cg hE hc12 rfl rfl ent18 (tK x3.1.model dM (bJ.mono (aA.ro k7d k7a) (PH.le_un _ _)) x7.1 vr9 (aA.ro k8d k8a) p1 vp1 (bJ.mono (bJ.mono hp1 (PH.le_un _ _)) (PH.le_un _ _)) k8h x10 ex10) ⟨rfl,rfl,rfl,trivial⟩ fun v a w hR hE=>?_
    obtain⟨rfl,hp⟩:=hR
    have hp:=Hp.back k8a k8d hp
    have hp:=Hp.back k7a k7d hp
    have hp:=r8 hp
    refine G hE hp hc11 rfl (dF rfl hE rfl hc12 rfl) fun a hE=>?_
    obtain rfl:=oj hg4
    exact aC ⟨hE.cut ⟨rfl,rfl,rfl,rfl,rfl,rfl,rfl,rfl,trivial⟩,((((((((hp.get 7 rfl).get 7 rfl).get 7 rfl).get 7 rfl).get 7 rfl).get 7 rfl).get 6 rfl).get 7 rfl)⟩
   rintro a w ⟨hE,hp⟩
   refine pk1 hE hc11 rfl rfl rfl rfl fun a hE=>?_
   obtain rfl:=oj hg3
   exact aC ⟨hE.cut ⟨rfl,rfl,rfl,rfl,rfl,rfl,rfl,trivial⟩,((((((((hp.get 7 rfl).get 7 rfl).get 3 rfl).get 7 rfl).get 7 rfl).get 7 rfl).get 7 rfl).get 7 rfl)⟩
  replace hg3:=(ie hc11).symm.trans hg3
  refine Gk hE hc11 rfl fun a hE=>Gk hE hc11 rfl fun a hE=>Gk hE hc11 rfl fun a hE=>Gk hE hc11 rfl fun a hE=>Gk hE hc11 rfl fun a hE=>Gk hE hc11 rfl fun a hE=>?_
  refine xH (wk3 hE rfl rfl rfl) rfl rfl hE ?_
  intro a hE
  refine xH (wk3 hE rfl rfl rfl) rfl rfl hE ?_
  intro a hE
  refine xH (wk3 hE rfl rfl rfl) rfl rfl hE ?_
  intro a hE
  refine xH (wk3 hE rfl rfl rfl) rfl rfl hE ?_
  intro a hE
  refine xH (wk3 hE rfl rfl rfl) rfl rfl hE ?_
  intro a hE
  refine Gk hE hc11 rfl fun a hE=>pk0 hE hc11 rfl rfl rfl rfl fun a hE=>?_
  obtain rfl:=oj hg3
  exact aC ⟨hE.cut ⟨rfl,rfl,rfl,rfl,rfl,rfl,rfl,trivial⟩,hp⟩
 rintro a w ⟨hE,hp⟩
 refine aC ?_
 refine dK hE rfl (fun hc13=>?_) (fun hc13=>?_)
 ·replace hm:=(it hc13).symm.trans hm
  refine aG (aB ?_)
  refine S hE 1 rfl fun a hE=>aC (dC ?_)
  obtain rfl:=oj hm
  exact gK hE rfl rfl ⟨_,rfl,rfl,(((((((((((((((hp.get 7 rfl).drop).get 6 rfl).drop).get 5 rfl).drop).get 4 rfl).drop).get 3 rfl).drop).get 2 rfl).drop).get 1 rfl).drop).drop)⟩
 replace hm:=(ie hc13).symm.trans hm
 refine bQ (aG ?_)
 refine aG (aB ?_)
 refine V hE hp rfl (aX rfl hE rfl (fun w hw=>eY (cs:=[(Iv p0.vars),aF]) fP (Hp.cN 7 rfl 0 _ (bW rfl) w hw))) fun a hE=>S hE 2 rfl fun a hE=>?_
 obtain⟨x11,ex11,hm⟩:=bnd hm
 refine Cl hE rfl rfl ent13 (xW p0 aF bH p1 vp1 hp1 p2 hp x11 ex11) ⟨rfl,rfl,rfl,trivial⟩ fun v a w hR hE=>?_
 obtain⟨rfl,hp⟩:=hR
 have hp:=r8 hp
 refine S hE 1 rfl fun a hE=>aC ?_
 refine dK hE rfl (fun hc14=>?_) (fun hc14=>?_)
 ·replace hm:=(it hc14).symm.trans hm
  refine aG (aB ?_)
  refine S hE 3 rfl fun a hE=>?_
  obtain⟨m5,hg5,hm⟩:=bnd hm
  refine iD [_,_,_,_] (fun a w=>Env 124 [(105,(.bool m5))] a∧Hp Z ρ (aA 3 vr9 x7.1::Pt b3 (.cells #[(Iv x4.1.kind),fC,fF,(Iv x4.1.conflicts)] 29 (0,0))::aA 3 fC x4.1.model::bV 25 3 fF pW (x4.1.proof:(List (List Int)))::Pt b2 (.cells #[(Iv x3.1.kind),dM,dP,(Iv x3.1.conflicts)] 29 (0,0))::aA 3 dM x3.1.model::bV 25 3 dP nJ (x3.1.proof:(List (List Int)))::Pt b1 (.cells #[(Iv p0.vars),aF] 24 (0,0))::L) w) ?_ ?_
  ·rcases Bool.eq_false_or_eq_true (decide (x4.2=1)) with hc15|hc15
   ·
    replace hg5:=(it hc15).symm.trans hg5
    refine G hE hp hc15 rfl (aX rfl hE rfl (fun w hw=>eY (cs:=[(Iv x4.1.kind),fC,fF,(Iv x4.1.conflicts)]) eH (Hp.cN 1 rfl 0 _ (bW rfl) w hw))) fun a hE=>G hE hp hc15 rfl (v:=(.agg #[(Iv 0),N0,N0,(Iv 0)])) (qY rfl hE [] (by exact trivial) (fun w=>by simp[Instr.build,Instr.fill,Value.cells,go_sem])) fun a hE=>?_
    obtain⟨k9,k9a,k9d,k9h⟩:=(hp.get 2 rfl).lend
    obtain⟨k10,k10a,k10d,k10h⟩:=(k9h.get 2 rfl).lend
    obtain⟨x12,ex12,hg5⟩:=bnd hg5
    refine Cg hE hc15 rfl rfl ent14 (tN x4.1 fC (bJ.mono (aA.ro k9d k9a) (PH.le_un _ _)) fF (bV.ro k10d k10a) (Answer.mk 0 ([]) ([]) 0) N0 (bJ.nil _) N0 (bJ.nil _) k10h x12 ex12) ⟨rfl,rfl,trivial⟩ fun v a w hR hE=>?_
    obtain⟨rfl,hp⟩:=hR
    have hp:=Hp.back k10a k10d hp
    have hp:=Hp.back k9a k9d hp
    have hp:=r8 hp
    refine pk1 hE hc15 rfl rfl rfl rfl fun a hE=>?_
    obtain rfl:=oj hg5
    exact aC ⟨hE.cut ⟨rfl,trivial⟩,((((((((hp.get 7 rfl).get 7 rfl).get 7 rfl).get 7 rfl).get 5 rfl).get 5 rfl).get 7 rfl).get 7 rfl)⟩
   replace hg5:=(ie hc15).symm.trans hg5
   refine Gk hE hc15 rfl fun a hE=>Gk hE hc15 rfl fun a hE=>Gk hE hc15 rfl fun a hE=>pk0 hE hc15 rfl rfl rfl rfl fun a hE=>?_
   obtain rfl:=oj hg5
   exact aC ⟨hE.cut ⟨rfl,trivial⟩,hp⟩
  rintro a w ⟨hE,hp⟩
  refine S hE 1 rfl fun a hE=>aC (dC ?_)
  obtain rfl:=oj hm
  exact gK hE rfl rfl ⟨_,rfl,rfl,(((((((((((((((hp.get 7 rfl).drop).get 6 rfl).drop).get 5 rfl).drop).get 4 rfl).drop).get 3 rfl).drop).get 2 rfl).drop).get 1 rfl).drop).drop)⟩
 replace hm:=(ie hc14).symm.trans hm
 refine bQ (aG ?_)
 refine aB (S hE 3 rfl fun a hE=>?_)
 obtain⟨m6,hg6,hm⟩:=bnd hm
 refine iD [_,_,_,_,_] (fun a w=>Env 124 [(113,(.bool m6)),(7,(Pv b2 0)),(9,(Pv b3 0))] a∧Hp Z ρ (aA 3 vr9 x7.1::Pt b3 (.cells #[(Iv x4.1.kind),fC,fF,(Iv x4.1.conflicts)] 29 (0,0))::aA 3 fC x4.1.model::bV 25 3 fF pW (x4.1.proof:(List (List Int)))::Pt b2 (.cells #[(Iv x3.1.kind),dM,dP,(Iv x3.1.conflicts)] 29 (0,0))::aA 3 dM x3.1.model::bV 25 3 dP nJ (x3.1.proof:(List (List Int)))::Pt b1 (.cells #[(Iv p0.vars),aF] 24 (0,0))::L) w) ?_ ?_
 ·rcases Bool.eq_false_or_eq_true (decide (x4.2=0)) with hc16|hc16
  ·
   replace hg6:=(it hc16).symm.trans hg6
   refine G hE hp hc16 rfl (aX rfl hE rfl (fun w hw=>eY (cs:=[(Iv p0.vars),aF]) fP (Hp.cN 7 rfl 0 _ (bW rfl) w hw))) fun a hE=>Gs hE hc16 rfl rfl fun a hE=>G hE hp hc16 rfl (aX rfl hE rfl (fun w hw=>eY (cs:=[(Iv x4.1.kind),fC,fF,(Iv x4.1.conflicts)]) eH (Hp.cN 1 rfl 0 _ (bW rfl) w hw))) fun a hE=>?_
   obtain⟨k11,k11a,k11d,k11h⟩:=(hp.get 2 rfl).lend
   obtain⟨k12,k12a,k12d,k12h⟩:=(k11h.get 2 rfl).lend
   obtain⟨x13,ex13,hg6⟩:=bnd hg6
   refine Cg hE hc16 rfl rfl ent15 (wU p0 aF (bJ.mono (bJ.mono bH (PH.le_un _ _)) (PH.le_un _ _)) [] N0 (bJ.nil _) p2 x4.1 fC (bJ.mono (aA.ro k11d k11a) (PH.le_un _ _)) fF (bV.ro k12d k12a) k12h x13 ex13) ⟨rfl,rfl,rfl,rfl,trivial⟩ fun v a w hR hE=>?_
   obtain⟨rfl,hp⟩:=hR
   have hp:=Hp.back k12a k12d hp
   have hp:=Hp.back k11a k11d hp
   have hp:=r8 hp
   refine pk1 hE hc16 rfl rfl rfl rfl fun a hE=>?_
   obtain rfl:=oj hg6
   exact aC ⟨hE.cut ⟨rfl,rfl,rfl,trivial⟩,((((((((hp.get 7 rfl).get 7 rfl).get 7 rfl).get 7 rfl).get 5 rfl).get 5 rfl).get 7 rfl).get 7 rfl)⟩
  replace hg6:=(ie hc16).symm.trans hg6
  refine Gk hE hc16 rfl fun a hE=>Gk hE hc16 rfl fun a hE=>Gk hE hc16 rfl fun a hE=>Gk hE hc16 rfl fun a hE=>pk0 hE hc16 rfl rfl rfl rfl fun a hE=>?_
  obtain rfl:=oj hg6
  exact aC ⟨hE.cut ⟨rfl,rfl,rfl,trivial⟩,hp⟩
 rintro a w ⟨hE,hp⟩
 refine S hE 1 rfl fun a hE=>?_
 obtain⟨m7,hg7,hm⟩:=bnd hm
 refine iD [_,_,_,_,_,_,_,_,_] (fun a w=>Env 124 [(123,(.bool m7))] a∧Hp Z ρ (aA 3 vr9 x7.1::Pt b3 (.cells #[(Iv x4.1.kind),fC,fF,(Iv x4.1.conflicts)] 29 (0,0))::aA 3 fC x4.1.model::bV 25 3 fF pW (x4.1.proof:(List (List Int)))::Pt b2 (.cells #[(Iv x3.1.kind),dM,dP,(Iv x3.1.conflicts)] 29 (0,0))::aA 3 dM x3.1.model::bV 25 3 dP nJ (x3.1.proof:(List (List Int)))::Pt b1 (.cells #[(Iv p0.vars),aF] 24 (0,0))::L) w) ?_ ?_
 ·rcases Bool.eq_false_or_eq_true m6 with hc17|hc17
  ·
   replace hg7:=(it hc17).symm.trans hg7
   refine G hE hp hc17 rfl (xf hE qO rfl rfl) fun a hE=>G hE hp hc17 rfl (xl hE bG 1 rfl rfl rfl rfl) fun a hE=>Gs hE hc17 rfl rfl fun a hE=>Gs hE hc17 rfl rfl fun a hE=>?_
   obtain⟨m8,hg8,hg7⟩:=bnd hg7
   refine iD [_,_,_,_] (fun a w=>Env 124 [(122,(.bool m8)),(114,(.bool m6))] a∧Hp Z ρ (aA 3 vr9 x7.1::Pt b3 (.cells #[(Iv x4.1.kind),fC,fF,(Iv x4.1.conflicts)] 29 (0,0))::aA 3 fC x4.1.model::bV 25 3 fF pW (x4.1.proof:(List (List Int)))::Pt b2 (.cells #[(Iv x3.1.kind),dM,dP,(Iv x3.1.conflicts)] 29 (0,0))::aA 3 dM x3.1.model::bV 25 3 dP nJ (x3.1.proof:(List (List Int)))::Pt b1 (.cells #[(Iv p0.vars),aF] 24 (0,0))::L) w) ?_ ?_
   ·rcases Bool.eq_false_or_eq_true (decide (x4.1.kind=2)) with hc18|hc18
    ·
     replace hg8:=(it hc18).symm.trans hg8
     refine Gk hE hc18 rfl fun a hE=>Gk hE hc18 rfl fun a hE=>Gk hE hc18 rfl fun a hE=>G hE hp hc17 rfl (mD rfl hE rfl hc18 rfl) fun a hE=>?_
     obtain rfl:=oj hg8
     exact aC ⟨hE.cut ⟨rfl,rfl,trivial⟩,hp⟩
    replace hg8:=(ie hc18).symm.trans hg8
    refine G hE hp hc18 rfl (aX rfl hE rfl (fun w hw=>eY (cs:=[(Iv x3.1.kind),dM,dP,(Iv x3.1.conflicts)]) eH (Hp.cN 4 rfl 0 _ (bW rfl) w hw))) fun a hE=>G hE hp hc18 rfl (aX rfl hE rfl (fun w hw=>eY (cs:=[(Iv x4.1.kind),fC,fF,(Iv x4.1.conflicts)]) eH (Hp.cN 1 rfl 0 _ (bW rfl) w hw))) fun a hE=>?_
    obtain⟨k13,k13a,k13d,k13h⟩:=(hp.get 5 rfl).lend
    obtain⟨k14,k14a,k14d,k14h⟩:=(k13h.get 5 rfl).lend
    obtain⟨k15,k15a,k15d,k15h⟩:=(k14h.get 2 rfl).lend
    obtain⟨k16,k16a,k16d,k16h⟩:=(k15h.get 2 rfl).lend
    obtain⟨x14,ex14,hg8⟩:=bnd hg8
    refine Cg hE hc18 rfl rfl ent14 (tN x3.1 dM (bJ.mono (bJ.mono (bJ.mono (aA.ro k13d k13a) (PH.le_un _ _)) (PH.le_un _ _)) (PH.le_un _ _)) dP (bJ.mono (bJ.mono (bV.ro k14d k14a) (PH.le_un _ _)) (PH.le_un _ _)) x4.1 fC (bJ.mono (aA.ro k15d k15a) (PH.le_un _ _)) fF (bV.ro k16d k16a) k16h x14 ex14) ⟨rfl,rfl,trivial⟩ fun v a w hR hE=>?_
    obtain⟨rfl,hp⟩:=hR
    have hp:=Hp.back k16a k16d hp
    have hp:=Hp.back k15a k15d hp
    have hp:=Hp.back k14a k14d hp
    have hp:=Hp.back k13a k13d hp
    have hp:=r8 hp
    refine G hE hp hc17 rfl (dF rfl hE rfl hc18 rfl) fun a hE=>?_
    obtain rfl:=oj hg8
    exact aC ⟨hE.cut ⟨rfl,rfl,trivial⟩,((((((((hp.get 7 rfl).get 2 rfl).get 2 rfl).get 7 rfl).get 5 rfl).get 5 rfl).get 7 rfl).get 7 rfl)⟩
   rintro a w ⟨hE,hp⟩
   refine pk1 hE hc17 rfl rfl rfl rfl fun a hE=>?_
   obtain rfl:=oj hg7
   exact aC ⟨hE.cut ⟨rfl,trivial⟩,hp⟩
  replace hg7:=(ie hc17).symm.trans hg7
  refine Gk hE hc17 rfl fun a hE=>Gk hE hc17 rfl fun a hE=>Gk hE hc17 rfl fun a hE=>Gk hE hc17 rfl fun a hE=>?_
  refine xH (wk3 hE rfl rfl rfl) rfl rfl hE ?_
  intro a hE
  refine xH (wk3 hE rfl rfl rfl) rfl rfl hE ?_
  intro a hE
  refine xH (wk3 hE rfl rfl rfl) rfl rfl hE ?_
  intro a hE
  refine Gk hE hc17 rfl fun a hE=>pk0 hE hc17 rfl rfl rfl rfl fun a hE=>?_
  obtain rfl:=oj hg7
  exact aC ⟨hE.cut ⟨rfl,trivial⟩,hp⟩
 rintro a w ⟨hE,hp⟩
 refine S hE 1 rfl fun a hE=>aC (dC ?_)
 obtain rfl:=oj hm
 exact gK hE rfl rfl ⟨_,rfl,rfl,(((((((((((((((hp.get 7 rfl).drop).get 6 rfl).drop).get 5 rfl).drop).get 4 rfl).drop).get 3 rfl).drop).get 2 rfl).drop).get 1 rfl).drop).drop)⟩
open Vl (vl)
section
variable {β:Type}
end
def MapU {β:Type} [Vl β] (b:Nat) (l:List (Int×β)):bZ:=fun h=>∃l',rO b l' h∧l'.Perm l
section
variable {Rn:Option Nat} {P:Program} {ops:Array Oper} {Q:Exit→Act→World→Prop} {rest:List Oper} {o:Oper} {a:Act} {w:World} {Df:List Deferred} {N:Nat} {E:Ent} {d:Nat} {Z:World} {ρ:PH} {L:List bZ}
variable {β:Type} [Vl β] {b:Nat} {l:List (Int×β)}
theorem MapU.of (h:Hp Z ρ (rO b l::L) w):Hp Z ρ (MapU b l::L) w:=h.imp fun _ k=>⟨l,k,List.Perm.refl _⟩
theorem MapU.shut {l':List (Int×β)} (h:Hp Z ρ (rO b l'::L) w) (hp:l'.Perm l):Hp Z ρ (MapU b l::L) w:=h.imp fun _ k=>⟨l',k,hp⟩
theorem MapU.open_ (h:Hp Z ρ (MapU b l::L) w):∃l',Hp Z ρ (rO b l'::L) w∧l'.Perm l∧(l'.map (·.1)).Nodup:=by
 obtain⟨l',h1⟩:=Hp.ex (A:=fun l' k=>rO b l' k∧l'.Perm l) h
 obtain⟨h2,hp⟩:=Hp.fact (A:=rO b l') h1
 obtain⟨es,clock,_,e⟩:=h2.map
 exact⟨l',h2,hp,e.keys⟩
end
theorem loop_at {σ β:Type} {body:σ→Option (Step σ β)} {b:β} (S:Nat→σ):∀(n:Nat),(∀k,k<n→body (S k)=some (.next (S (k+1))))→body (S n)=some (.done b)→dE body (S 0)=some b
 |0,_,h=>eQ h
 |n+1,h1,h2=>by
  rw[iC (h1 0 (by omega))]
  exact loop_at (fun k=>S (k+1)) n (fun k hk=>h1 (k+1) (by omega)) h2
theorem loop_from {σ β:Type} {body:σ→Option (Step σ β)} {b:β} {s:σ} (S:Nat→σ) (n:Nat) (h0:s=S 0) (h1:∀k,k<n→body (S k)=some (.next (S (k+1)))) (h2:body (S n)=some (.done b)):dE body s=some b:=by
 rw[h0];exact loop_at S n h1 h2
theorem iV {n:Int} (h: -9223372036854775808≤n∧n≤9223372036854775807):inK .i64 n=some n:=inK_ok n h.1 h.2
theorem bY {α:Type} {l:List α} {k:Nat} {a:α} (h:l[k]?=some a):idx l (k:Int)=some a:=by
 unfold idx;rw[if_pos (by omega)];simpa using h
theorem kQ {α:Type} {l:List α} {i:Int} {a:α} (h0:0≤i) (h:l[i.toNat]?=some a):idx l i=some a:=by
 unfold idx;rw[if_pos h0,h]
theorem bM {α:Type} {l:List α} {k:Nat} (h:k<l.length):∃a,l[k]?=some a:=⟨_,List.getElem?_eq_getElem h⟩
theorem qA {α:Type} {l m:List α} (h:l.length+m.length≤4294967296):app l m=some (l++m):=by unfold app;rw[if_pos h]
theorem yM {α:Type} {l:List α} {i j:Int} (h0:0≤i) (h1:i≤j) (h2:j≤l.length):sub l i j=some ((l.take j.toNat).drop i.toNat):=by unfold sub;rw[if_pos ⟨h0,h1,h2⟩]
theorem remK_pos {m n:Int} (hm:0≤m) (hn:0<n):remK m n=some (m % n):=by
 unfold remK
 rw[if_pos (by omega),Int.tmod_eq_emod_of_nonneg hm]
theorem quoK_pos {m n:Int} (hm:0≤m) (hn:0<n) (h:m≤9223372036854775807):quoK .i64 m n=some (m / n):=by
 unfold quoK
 have h1:m.tdiv n=m / n:=Int.tdiv_eq_ediv_of_nonneg hm
 have h2:0≤m / n:=Int.ediv_nonneg hm (by omega)
 have h3:m / n≤m:=Int.ediv_le_self n hm
 rw[h1,if_pos ⟨by omega,by rw[IntKind.wrap_i64];omega⟩]
theorem mkc_ok {α:Type} {n c:Int} {z:α} (h:0≤n∧n≤c∧c≤4294967296):mkc n c z=some (List.replicate n.toNat z):=by unfold mkc;rw[if_pos h]
theorem I64.r {n:Int} (h:(Lit.int .i64 n).wf=true): -9223372036854775808≤n∧n≤9223372036854775807:=by
 simp[Lit.wf,IntKind.min,IntKind.max,IntKind.signed,IntKind.bits] at h
 exact⟨by omega,by omega⟩
theorem U8.r {n:Int} (h:(Lit.int .u8 n).wf=true):0≤n∧n≤255:=by
 simp[Lit.wf,IntKind.min,IntKind.max,IntKind.signed,IntKind.bits] at h
 omega
theorem first_or {α:Type} (p:α→Bool):∀(l:List α),(∃k a,l[k]?=some a∧p a=true∧(∀j b,j<k→l[j]?=some b→p b=false)∧l.any p=true∧l.findIdx p=k)∨((∀a∈l,p a=false)∧l.any p=false∧l.findIdx p=l.length)
 | []=>Or.inr ⟨by simp,rfl,rfl⟩
 |x::l=>by
  cases hx:p x with
  |true=>exact Or.inl ⟨0,x,rfl,hx,fun j b hj=>by omega,by simp[hx],by simp[List.findIdx_cons,hx]⟩
  |false=>
   rcases first_or p l with⟨k,a,h1,h2,h3,h4,h5⟩|⟨h1,h2,h3⟩
   ·refine Or.inl ⟨k+1,a,by simpa using h1,h2,fun j b hj hb=>?_,by simp[hx,h4],by simp[List.findIdx_cons,hx,h5]⟩
    cases j with
    |zero=>simp at hb;subst hb;exact hx
    |succ j=>exact h3 j b (by omega) (by simpa using hb)
   refine Or.inr ⟨fun a ha=>?_,by simp[hx,h2],by simp[List.findIdx_cons,hx,h3]⟩
   rcases List.mem_cons.1 ha with rfl|ha
   ·exact hx
   exact h1 a ha
theorem scan_loop {α β:Type} {body:Int→Option (Step Int β)} (l:List α) (p:α→Bool) (hit:Nat→α→β) (miss:β)
  (h1:∀(k:Nat) a,l[k]?=some a→body k=some (if p a=true then .done (hit k a) else .next ((k+1:Nat):Int))) (h2:body (l.length:Int)=some (.done miss)):
  (∃k a,l[k]?=some a∧p a=true∧(∀j b,j<k→l[j]?=some b→p b=false)∧l.any p=true∧l.findIdx p=k∧dE body 0=some (hit k a))∨((∀a∈l,p a=false)∧l.any p=false∧l.findIdx p=l.length∧dE body 0=some miss):=by
 rcases first_or p l with⟨k,a,a1,a2,a3,a4,a5⟩|⟨a1,a2,a3⟩
 ·refine Or.inl ⟨k,a,a1,a2,a3,a4,a5,loop_from (fun j=>(j:Int)) k rfl (fun j hj=>?_) ?_⟩
  ·obtain⟨b,hb⟩:=bM (show j<l.length by have:=(List.getElem?_eq_some_iff.1 a1).1;omega)
   rw[h1 j b hb,a3 j b hj hb];rfl
  rw[h1 k a a1,a2];rfl
 refine Or.inr ⟨a1,a2,a3,loop_from (fun j=>(j:Int)) l.length rfl (fun j hj=>?_) h2⟩
 obtain⟨b,hb⟩:=bM hj
 rw[h1 j b hb,a1 b (List.mem_of_getElem? hb)];rfl
theorem any_loop {α β:Type} {body:Int→Option (Step Int β)} (l:List α) (p:α→Bool) (hit miss:β)
  (h1:∀(k:Nat) a,l[k]?=some a→body k=some (if p a=true then .done hit else .next ((k+1:Nat):Int))) (h2:body (l.length:Int)=some (.done miss)):dE body 0=some (if l.any p=true then hit else miss):=by
 rcases scan_loop l p (fun _ _=>hit) miss h1 h2 with⟨k,a,_,_,_,h,_,e⟩|⟨_,h,_,e⟩
 ·rw[e,h];rfl
 rw[e,h];rfl
theorem same_loop {α β:Type} [DecidableEq α] {body:Int→Option (Step Int β)} {a b:List α} (hl:a.length=b.length) (hit miss:β)
  (h1:∀(k:Nat) x y,a[k]?=some x→b[k]?=some y→body k=some (if x=y then .next ((k+1:Nat):Int) else .done hit)) (h2:body (a.length:Int)=some (.done miss)):dE body 0=some (if a=b then miss else hit):=by
 have hzl:(a.zip b).length=a.length:=by rw[List.length_zip];omega
 have hz:(a.zip b).any (fun p=>decide (p.1≠p.2))=decide (a≠b):=by
  clear h1 h2 hzl
  induction a generalizing b with
  |nil=>cases b with
   |nil=>simp
   |cons y b=>simp at hl
  |cons x a ih=>cases b with
   |nil=>simp at hl
   |cons y b=>
    simp only[List.length_cons,Nat.add_right_cancel_iff] at hl
    simp only[List.zip_cons_cons,List.any_cons,ih hl,ne_eq,List.cons.injEq]
    by_cases hx:x=y<;>by_cases hb:a=b<;>simp[hx,hb]
 have:=any_loop (body:=body) (a.zip b) (fun p=>decide (p.1≠p.2)) hit miss (fun k p hp=>by
  obtain⟨x,y⟩:=p
  have hk:=(List.getElem?_eq_some_iff.1 hp).1
  rw[hzl] at hk
  obtain⟨x',hx⟩:=bM hk
  obtain⟨y',hy⟩:=bM (show k<b.length by omega)
  rw[List.getElem?_zip_eq_some] at hp
  rw[h1 k x y hp.1 hp.2]
  by_cases h:x=y<;>simp[h]) (by rw[hzl];exact h2)
 rw[this,hz]
 by_cases h:a=b<;>simp[h]
theorem zT {α β γ:Type} {body:Int→Option (Step Int β)} {f:β→Option γ} {r:Option γ} (l:List α) (p:α→Bool) (hit miss:β)
  (h1:∀(k:Nat) a,l[k]?=some a→body k=some (if p a=true then .done hit else .next ((k+1:Nat):Int))) (h2:body (l.length:Int)=some (.done miss)) (hf:f (if l.any p=true then hit else miss)=r):(dE body 0).bind f=r:=by
 rw[any_loop l p hit miss h1 h2];exact hf
theorem aC6 {α β γ:Type} [DecidableEq α] {body:Int→Option (Step Int β)} {f:β→Option γ} {r:Option γ} {a b:List α} (hl:a.length=b.length) (hit miss:β)
  (h1:∀(k:Nat) x y,a[k]?=some x→b[k]?=some y→body k=some (if x=y then .next ((k+1:Nat):Int) else .done hit)) (h2:body (a.length:Int)=some (.done miss)) (hf:f (if a=b then miss else hit)=r):(dE body 0).bind f=r:=by
 rw[same_loop hl hit miss h1 h2];exact hf
theorem wI {α:Type} {l:List α} {k:Nat} {a:α} (h:l[k]?=some a):l.drop k=a::l.drop (k+1):=by
 obtain⟨h1,h2⟩:=List.getElem?_eq_some_iff.1 h
 rw[←h2];exact List.drop_eq_getElem_cons h1
theorem dN {α:Type} {l:List α} {k:Nat} {a:α} (h:l[k]?=some a):l.take (k+1)=l.take k++[a]:=by
 obtain⟨h1,h2⟩:=List.getElem?_eq_some_iff.1 h
 rw[←h2];exact List.take_succ_eq_append_getElem h1
theorem rising_ext {α:Type} {r:α→α→Prop} (irr:∀a,¬r a a) (tr:∀a b c,r a b→r b c→r a c):∀{l m:List α},l.Pairwise r→m.Pairwise r→(∀x,x∈l↔x∈m)→l=m
 | [],[],_,_,_=>rfl
 | [],b::m,_,_,h=>by have:=(h b).2 (List.mem_cons_self ..);simp at this
 |a::l,[],_,_,h=>by have:=(h a).1 (List.mem_cons_self ..);simp at this
 |a::l,b::m,hl,hm,h=>by
  obtain⟨l1,l2⟩:=List.pairwise_cons.1 hl
  obtain⟨m1,m2⟩:=List.pairwise_cons.1 hm
  have e:a=b:=by
   rcases List.mem_cons.1 ((h a).1 (List.mem_cons_self ..)) with e|h1
   ·exact e
   rcases List.mem_cons.1 ((h b).2 (List.mem_cons_self ..)) with e|h2
   ·exact e.symm
   exact absurd (tr _ _ _ (m1 a h1) (l1 b h2)) (irr b)
  subst e
  congr 1
  refine rising_ext irr tr l2 m2 fun x=>?_
  constructor
  ·intro hx
   rcases List.mem_cons.1 ((h x).1 (List.mem_cons_of_mem _ hx)) with e|h1
   ·subst e;exact absurd (l1 x hx) (irr x)
   exact h1
  intro hx
  rcases List.mem_cons.1 ((h x).2 (List.mem_cons_of_mem _ hx)) with e|h1
  ·subst e;exact absurd (m1 x hx) (irr x)
  exact h1
theorem mget_mput {κ β:Type} [DecidableEq κ] (l:List (κ×β)) (k x:κ) (v:β):oL (wO l k v) x=if x=k then some v else oL l x:=by
 induction l with
 |nil=>by_cases h:k=x<;>simp[wO,oL,h,eq_comm]
 |cons p l ih=>
  unfold wO
  by_cases h:p.1=k
  ·rw[if_pos h]
   by_cases hx:x=k
   ·subst hx;simp[oL]
   have h1:¬k=x:=fun e=>hx e.symm
   have h2:¬p.1=x:=fun e=>hx (e.symm.trans h)
   simp[oL,List.find?_cons,hx,h1,h2]
  rw[if_neg h]
  by_cases hx:p.1=x
  ·have h3:¬x=k:=fun e=>h (hx.trans e)
   simp[oL,List.find?_cons,hx,h3]
  unfold oL at ih⊢
  rw[List.find?_cons_of_neg (by simpa using hx),List.find?_cons_of_neg (by simpa using hx)]
  exact ih
def yG {α τ β:Type} (f:α→τ→Step τ β) (g:τ→β):List α→τ→β
 | [],t=>g t
 |a::l,t=>match f a t with
  | .next t'=>yG f g l t'
  | .done b=>b
theorem loopL {α τ S β:Type} {body:S→Option (Step S β)} {s0:S} (l:List α) (E:Nat→τ→S) (f:α→τ→Step τ β) (g:τ→β) (I:Nat→τ→Prop) {t0:τ} (hs0:s0=E 0 t0) (h0:I 0 t0)
  (hs:∀k a t,l[k]?=some a→I k t→body (E k t)=some (match f a t with| .next t'=> .next (E (k+1) t')| .done b=> .done b)∧(∀t',f a t= .next t'→I (k+1) t'))
  (he:∀t,I l.length t→body (E l.length t)=some (.done (g t))):dE body s0=some (yG f g l t0):=by
 have key:∀(m k:Nat) (t:τ),k+m=l.length→I k t→dE body (E k t)=some (yG f g (l.drop k) t):=by
  intro m
  induction m with
  |zero=>
   intro k t hk hi
   have hk:k=l.length:=by omega
   subst hk
   rw[eQ (he t hi),List.drop_length];rfl
  |succ m ih=>
   intro k t hk hi
   obtain⟨a,ha⟩:=bM (show k<l.length by omega)
   obtain⟨h1,h2⟩:=hs k a t ha hi
   rw[wI ha]
   unfold yG
   cases hf:f a t with
   |next t'=>
    rw[hf] at h1
    rw[iC h1]
    exact ih (k+1) t' (by omega) (h2 t' hf)
   |done b=>
    rw[hf] at h1
    exact eQ h1
 rw[hs0]
 simpa using key l.length 0 t0 (by omega) h0
theorem uA {τ S β:Type} {body:S→Option (Step S β)} {s0:S} (n:Nat) (E:Nat→τ→S) (I:Nat→τ→Prop) (Post:β→Prop) {t0:τ} (hs0:s0=E 0 t0) (h0:I 0 t0)
  (hs:∀k t,k<n→I k t→(∃t',body (E k t)=some (.next (E (k+1) t'))∧I (k+1) t')∨(∃b,body (E k t)=some (.done b)∧Post b))
  (he:∀t,I n t→∃b,body (E n t)=some (.done b)∧Post b):∃b,dE body s0=some b∧Post b:=by
 have key:∀(m k:Nat) (t:τ),k+m=n→I k t→∃b,dE body (E k t)=some b∧Post b:=by
  intro m
  induction m with
  |zero=>
   intro k t hk hi
   obtain rfl:k=n:=by omega
   obtain⟨b,h1,h2⟩:=he t hi
   exact⟨b,eQ h1,h2⟩
  |succ m ih=>
   intro k t hk hi
   rcases hs k t (by omega) hi with⟨t',h1,h2⟩|⟨b,h1,h2⟩
   ·obtain⟨b,h3,h4⟩:=ih (k+1) t' (by omega) h2
    exact⟨b,by rw[iC h1];exact h3,h4⟩
   exact⟨b,eQ h1,h2⟩
 rw[hs0]
 exact key n 0 t0 (by omega) h0
theorem bsm {α β:Type} (a:α) (f:α→Option β):(some a).bind f=f a:=Eq.trans (congrArg (fun x=>Option.bind x f) (Eq.refl (some a))) rfl
theorem dB {α:Type} {l:List α} {k:Nat} {a:α} (h:l[k]?=some a):k<l.length:=(List.getElem?_eq_some_iff.1 h).1
theorem bP {α:Type} {l:List α} {k:Nat} {a:α} (h:l[k]?=some a):a∈l:=List.mem_of_getElem? h
theorem iH {k:Nat} {n:Nat} (h:k<n) (hn:n≤9223372036854775807):inK .i64 ((k:Int)+1)=some ((k+1:Nat):Int):=by
 rw[iV ⟨by omega,by omega⟩];rfl
theorem oZ {n m:Int} (e:n=m) (h: -9223372036854775808≤m∧m≤9223372036854775807):inK .i64 n=some m:=by rw[e];exact iV h
theorem ltB {k n:Nat} (h:k<n):(decide ((k:Int)<(n:Int)))=true:=by simpa using h
theorem qZ {n:Nat}:¬(decide ((n:Int)<(n:Int)))=true:=by simp
theorem jY (l:Int):0≤vr l:=by unfold vr;omega
theorem lZ (l:Int):vr (-l)=vr l:=by unfold vr;omega
theorem O3 (l:Int):l=vr l∨l= -vr l:=by unfold vr;omega
theorem qJ {l:Int}:vr l=0↔l=0:=by unfold vr;omega
theorem vr_eq {l m:Int}:vr l=vr m↔l=m∨l= -m:=by unfold vr;omega
theorem nM {l v:Int}:vr l≤v↔ -v≤l∧l≤v:=by unfold vr;omega
def clF (v:Int):Int→List Int→Bool
 |_,[]=>true
 |last,l::r=>decide (-v≤l)&&decide (l≤v)&&decide (last<vr l)&&clF v (vr l) r
end Go.Proofs.Ytpkhmndpeipfmaa

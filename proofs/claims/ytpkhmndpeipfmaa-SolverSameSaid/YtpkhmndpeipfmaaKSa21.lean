/- The code goes as its model: assessor/assessorlaw28.SolverSame. (Printed by wip/sp/gen.py.) -/
import Derived.Test.YtpkhmndpeipfmaaKSaT
import Derived.Test.YtpkhmndpeipfmaaKSa6
import Derived.Test.YtpkhmndpeipfmaaKSa20
import Derived.Test.YtpkhmndpeipfmaaKSa3
import Derived.Test.YtpkhmndpeipfmaaKSa2
import Derived.Test.YtpkhmndpeipfmaaKSa4
import Derived.Lib.ItoaNum
import Derived.Test.YtpkhmndpeipfmaaKSa5
set_option linter.unusedVariables false
set_option linter.unusedSimpArgs false
namespace Go.Proofs.Ytpkhmndpeipfmaa
open Go.RowKit
set_option maxRecDepth 100000 in
set_option maxHeartbeats 4000000 in
theorem c_assessorlaw28_SolverSame {Z:World} {ρ:PH} {L:List bW} {w:World} (p0:Formula) (aG:Value) (bK:bU ρ aG p0.clauses) (p1:(List Int)) (vp1:Value) (hp1:bU ρ vp1 p1) (p2:Int) (p3:Int) (hp:Hp Z ρ (L) w) (r:Bool) (hm:kX p0 p1 p2 p3=some r):
  Calls Try.prog 6 #[(.agg #[(.int .i64 p0.vars),aG]),vp1,(.int .u16 p2),(.int .u16 p3)] w (Ret fun v w'=>v=(.bool r)∧Hp Z ρ (L) w'):=by
 refine enter (N:=94) Try.func6 rfl rfl [(0,(.agg #[(.int .i64 p0.vars),aG])),(1,vp1),(2,(.int .u16 p2)),(3,(.int .u16 p3))] rfl (bP ⟨rfl,rfl,rfl,rfl,trivial⟩) fun a hE=>?_
 unfold kX at hm
 refine aH (aB ?_)
 refine qV (wk0 rfl) rfl rfl hE hp rfl (v:=(.agg #[(.int .i64 p0.vars),aG])) rfl ?_
 intro a w b1 hE hp
 have hp:=r1 hp
 refine S hE 1 rfl fun a hE=>aC (aH ?_)
 refine aH (aB ?_)
 obtain⟨x1,ex1,hm⟩:=bnd hm
 refine s_call (wk0 rfl) rfl rfl hE rfl [] trivial ent10 (J3 hp x1 ex1) Ret.ret ?_
 intro v a w hR hE
 obtain⟨rfl,hp⟩:=Ret.of hR
 have hp:=r1 hp
 refine S hE 1 rfl fun a hE=>aC ?_
 refine dO hE rfl (fun hc1=>?_) (fun hc1=>?_)
 ·replace hm:=(it hc1).symm.trans hm
  refine aH (aB ?_)
  refine S hE 1 rfl fun a hE=>aC (dE ?_)
  obtain rfl:=Option.some.inj hm
  exact iR hE rfl rfl ⟨_,rfl,rfl,(hp.drop)⟩
 replace hm:=(ie hc1).symm.trans hm
 refine bT (aH ?_)
 refine aH (aB ?_)
 refine V hE hp rfl (aZ rfl hE rfl (fun w hw=>gQ (cs:=[(.int .i64 p0.vars),aG]) iU (Hp.cN 0 rfl 0 _ (bY rfl) w hw))) fun a hE=>?_
 obtain⟨x2,ex2,hm⟩:=bnd hm
 refine s_call (wk0 rfl) rfl rfl hE rfl [(.agg #[(.int .i64 p0.vars),aG]),(.int .i64 30),(.int .i64 60)] ⟨rfl,rfl,rfl,trivial⟩ ent11 (J4 p0 aG bK 30 60 hp x2 ex2) Ret.ret ?_
 intro v a w hR hE
 obtain⟨rfl,hp⟩:=Ret.of hR
 have hp:=r1 hp
 refine S hE 2 rfl fun a hE=>?_
 obtain⟨m1,hg1,hm⟩:=bnd hm
 refine kR [_,_,_,_,_] (fun a w=>Env 94 [(27,(.bool m1)),(1,vp1),(2,(.int .u16 p2)),(3,(.int .u16 p3)),(4,(.pointer (some ⟨b1,0,none⟩)))] a∧Hp Z ρ (Pt b1 (.cells #[(.int .i64 p0.vars),aG] 24 (0,0))::L) w) ?_ ?_
 ·rcases Bool.eq_false_or_eq_true (!x2) with hc2|hc2
  ·
   replace hg1:=(it hc2).symm.trans hg1
   refine Gk hE hc2 rfl fun a hE=>Gk hE hc2 rfl fun a hE=>Gk hE hc2 rfl fun a hE=>Gk hE hc2 rfl fun a hE=>pk1 hE hc2 rfl rfl rfl rfl fun a hE=>?_
   obtain rfl:=Option.some.inj hg1
   exact aC ⟨hE.cut ⟨rfl,rfl,rfl,rfl,rfl,trivial⟩,hp⟩
  replace hg1:=(ie hc2).symm.trans hg1
  refine G hE hp hc2 rfl (aZ rfl hE rfl (fun w hw=>gQ (cs:=[(.int .i64 p0.vars),aG]) iU (Hp.cN 0 rfl 0 _ (bY rfl) w hw))) fun a hE=>Gs hE hc2 rfl rfl fun a hE=>?_
  obtain⟨x3,ex3,hg1⟩:=bnd hg1
  refine s_call (wk1 hE rfl rfl rfl hc2) rfl rfl hE rfl [(.agg #[(.int .i64 p0.vars),aG]),vp1,(.int .i64 0)] ⟨rfl,rfl,rfl,trivial⟩ ent13 (N7 p0 aG bK p1 vp1 hp1 0 hp x3 ex3) Ret.ret ?_
  intro v a w hR hE
  obtain⟨rfl,hp⟩:=Ret.of hR
  have hp:=r1 hp
  refine Gs hE hc2 rfl rfl fun a hE=>pk0 hE hc2 rfl rfl rfl rfl fun a hE=>?_
  obtain rfl:=Option.some.inj hg1
  exact aC ⟨hE.cut ⟨rfl,rfl,rfl,rfl,rfl,trivial⟩,hp⟩
 rintro a w ⟨hE,hp⟩
 refine S hE 1 rfl fun a hE=>?_
 refine kR [_,_,_,_] (fun a w=>Env 94 [(32,(.bool (m1||(decide (10<(p1.length:Int)))))),(1,vp1),(2,(.int .u16 p2)),(3,(.int .u16 p3)),(4,(.pointer (some ⟨b1,0,none⟩)))] a∧Hp Z ρ (Pt b1 (.cells #[(.int .i64 p0.vars),aG] 24 (0,0))::L) w) ?_ ?_
 ·rcases Bool.eq_false_or_eq_true m1 with hc3|hc3
  ·
   refine Gk hE hc3 rfl fun a hE=>Gk hE hc3 rfl fun a hE=>Gk hE hc3 rfl fun a hE=>pk1 hE hc3 rfl rfl rfl rfl fun a hE=>?_
   have hE:=hE.eqv (v':=(.bool (m1||(decide (10<(p1.length:Int)))))) (by rw[hc3];rfl)
   exact aC ⟨hE.cut ⟨rfl,rfl,rfl,rfl,rfl,trivial⟩,hp⟩
  refine Gs hE hc3 rfl rfl fun a hE=>G hE hp hc3 rfl (dF rfl hE rfl (bU.len hp1 aY)) fun a hE=>Gs hE hc3 rfl rfl fun a hE=>pk0 hE hc3 rfl rfl rfl rfl fun a hE=>?_
  have hE:=hE.eqv (v':=(.bool (m1||(decide (10<(p1.length:Int)))))) (by rw[hc3];rfl)
  exact aC ⟨hE.cut ⟨rfl,rfl,rfl,rfl,rfl,trivial⟩,hp⟩
 rintro a w ⟨hE,hp⟩
 refine aC ?_
 refine dO hE rfl (fun hc4=>?_) (fun hc4=>?_)
 ·replace hm:=(it hc4).symm.trans hm
  refine aH (aB ?_)
  refine S hE 1 rfl fun a hE=>aC (dE ?_)
  obtain rfl:=Option.some.inj hm
  exact iR hE rfl rfl ⟨_,rfl,rfl,(hp.drop)⟩
 replace hm:=(ie hc4).symm.trans hm
 refine bT (aH ?_)
 refine aB (S hE 2 rfl fun a hE=>?_)
 refine V hE hp rfl (v:=(.int .u16 (min p2 p3))) (ex_min rfl hE rfl rfl) fun a hE=>?_
 obtain⟨x4,ex4,hm⟩:=bnd hm
 refine V hE hp rfl (v:=(.int .i64 x4)) (ex_conv rfl hE rfl (fun w _=>by rw[←bF ex4];simp[convert,Conv.intToInt,go_sem])) fun a hE=>S hE 2 rfl fun a hE=>V hE hp rfl (v:=(.int .u16 (max p2 p3))) (ex_max rfl hE rfl rfl) fun a hE=>?_
 obtain⟨x5,ex5,hm⟩:=bnd hm
 refine V hE hp rfl (v:=(.int .i64 x5)) (ex_conv rfl hE rfl (fun w _=>by rw[←bF ex5];simp[convert,Conv.intToInt,go_sem])) fun a hE=>S hE 2 rfl fun a hE=>aC (aH ?_)
 refine aB (V hE hp rfl (aZ rfl hE rfl (fun w hw=>gQ (cs:=[(.int .i64 p0.vars),aG]) iU (Hp.cN 0 rfl 0 _ (bY rfl) w hw))) fun a hE=>?_)
 refine S hE 2 rfl fun a hE=>?_
 obtain⟨x6,ex6,hm⟩:=bnd hm
 refine s_call (wk0 rfl) rfl rfl hE rfl [(.agg #[(.int .i64 p0.vars),aG]),vp1,(.int .i64 x4)] ⟨rfl,rfl,rfl,trivial⟩ ent12 (qW p0 aG bK p1 vp1 hp1 x4 hp x6 ex6) Ret.ret ?_
 intro v a w hR hE
 obtain⟨lZ,mD,D6,rfl,hp⟩:=Ret.of hR
 have hp:=r3 hp
 refine S hE 3 rfl fun a hE=>?_
 refine qE (wk0 rfl) rfl rfl hE hp rfl [(.int .i64 0),(.slice none 0 0),(.slice none 0 0),(.int .i64 0)] (fun w=>by simp[Instr.alloc,go_sem]<;>rfl) ?_
 intro a w b2 hE hp
 have hp:=r4 hp
 refine dM (wk0 rfl) rfl hE hp rfl rfl rfl 0 rfl dY.size_ rfl (bV ⟨rfl,(aA.one hp 1 rfl),(bQ.one hp 2 rfl),rfl,trivial⟩) [(.int .i64 x6.1.kind),lZ,mD,(.int .i64 x6.1.conflicts)] rfl ?_
 intro w hp
 have hp:=r4 hp
 refine S hE 1 rfl fun a hE=>aC ?_
 have hE:=hE.cut (E':=[(1,vp1),(4,(.pointer (some ⟨b1,0,none⟩))),(9,(.int .i64 x4)),(10,(.int .i64 x5)),(11,(.pointer (some ⟨b2,0,none⟩))),(12,(.int .i64 x6.2))]) ⟨rfl,rfl,rfl,rfl,rfl,rfl,trivial⟩
 refine aH (aB ?_)
 refine V hE hp rfl (aZ rfl hE rfl (fun w hw=>gQ (cs:=[(.int .i64 p0.vars),aG]) iU (Hp.cN 3 rfl 0 _ (bY rfl) w hw))) fun a hE=>S hE 2 rfl fun a hE=>?_
 obtain⟨x7,ex7,hm⟩:=bnd hm
 refine s_call (wk0 rfl) rfl rfl hE rfl [(.agg #[(.int .i64 p0.vars),aG]),vp1,(.int .i64 x4)] ⟨rfl,rfl,rfl,trivial⟩ ent12 (qW p0 aG bK p1 vp1 hp1 x4 hp x7 ex7) Ret.ret ?_
 intro v a w hR hE
 obtain⟨oI,kS,rF,rfl,hp⟩:=Ret.of hR
 have hp:=r6 hp
 refine S hE 3 rfl fun a hE=>?_
 refine qE (wk0 rfl) rfl rfl hE hp rfl [(.int .i64 0),(.slice none 0 0),(.slice none 0 0),(.int .i64 0)] (fun w=>by simp[Instr.alloc,go_sem]<;>rfl) ?_
 intro a w b3 hE hp
 have hp:=r7 hp
 refine dM (wk0 rfl) rfl hE hp rfl rfl rfl 0 rfl dY.size_ rfl (bV ⟨rfl,(aA.one hp 1 rfl),(bQ.one hp 2 rfl),rfl,trivial⟩) [(.int .i64 x7.1.kind),oI,kS,(.int .i64 x7.1.conflicts)] rfl ?_
 intro w hp
 have hp:=r7 hp
 refine S hE 1 rfl fun a hE=>aC (aH ?_)
 refine aB (V hE hp rfl (aZ rfl hE rfl (fun w hw=>gQ (cs:=[(.int .i64 p0.vars),aG]) iU (Hp.cN 6 rfl 0 _ (bY rfl) w hw))) fun a hE=>?_)
 refine S hE 2 rfl fun a hE=>?_
 obtain⟨x8,ex8,hm⟩:=bnd hm
 refine s_call (wk0 rfl) rfl rfl hE rfl [(.agg #[(.int .i64 p0.vars),aG]),vp1,(.int .i64 x5)] ⟨rfl,rfl,rfl,trivial⟩ ent12 (qW p0 aG bK p1 vp1 hp1 x5 hp x8 ex8) Ret.ret ?_
 intro v a w hR hE
 obtain⟨nH,nI,xX,rfl,hp⟩:=Ret.of hR
 have hp:=r9 hp
 refine S hE 3 rfl fun a hE=>?_
 refine qE (wk0 rfl) rfl rfl hE hp rfl [(.int .i64 0),(.slice none 0 0),(.slice none 0 0),(.int .i64 0)] (fun w=>by simp[Instr.alloc,go_sem]<;>rfl) ?_
 intro a w b4 hE hp
 have hp:=r10 hp
 refine dM (wk0 rfl) rfl hE hp rfl rfl rfl 0 rfl dY.size_ rfl (bV ⟨rfl,(aA.one hp 1 rfl),(bQ.one hp 2 rfl),rfl,trivial⟩) [(.int .i64 x8.1.kind),nH,nI,(.int .i64 x8.1.conflicts)] rfl ?_
 intro w hp
 have hp:=r10 hp
 refine S hE 1 rfl fun a hE=>aC (aH ?_)
 refine aH (aB ?_)
 refine S hE 3 rfl fun a hE=>?_
 refine kR [_,_,_] (fun a w=>Env 94 [(67,(.bool ((!decide (x6.2=0))||(!decide (x7.2=0))))),(11,(.pointer (some ⟨b2,0,none⟩))),(13,(.pointer (some ⟨b3,0,none⟩))),(15,(.pointer (some ⟨b4,0,none⟩))),(16,(.int .i64 x8.2))] a∧Hp Z ρ (Pt b4 (.cells #[(.int .i64 x8.1.kind),nH,nI,(.int .i64 x8.1.conflicts)] 29 (0,0))::aA 3 nH x8.1.model::bQ 25 3 nI xX (x8.1.proof:(List (List Int)))::Pt b3 (.cells #[(.int .i64 x7.1.kind),oI,kS,(.int .i64 x7.1.conflicts)] 29 (0,0))::aA 3 oI x7.1.model::bQ 25 3 kS rF (x7.1.proof:(List (List Int)))::Pt b2 (.cells #[(.int .i64 x6.1.kind),lZ,mD,(.int .i64 x6.1.conflicts)] 29 (0,0))::aA 3 lZ x6.1.model::bQ 25 3 mD D6 (x6.1.proof:(List (List Int)))::Pt b1 (.cells #[(.int .i64 p0.vars),aG] 24 (0,0))::L) w) ?_ ?_
 ·rcases Bool.eq_false_or_eq_true (!decide (x6.2=0)) with hc5|hc5
  ·
   refine Gk hE hc5 rfl fun a hE=>Gk hE hc5 rfl fun a hE=>pk1 hE hc5 rfl rfl rfl rfl fun a hE=>?_
   have hE:=hE.eqv (v':=(.bool ((!decide (x6.2=0))||(!decide (x7.2=0))))) (by rw[hc5];rfl)
   exact aC ⟨hE.cut ⟨rfl,rfl,rfl,rfl,rfl,trivial⟩,hp⟩
  refine Gs hE hc5 rfl rfl fun a hE=>Gs hE hc5 rfl rfl fun a hE=>pk0 hE hc5 rfl rfl rfl rfl fun a hE=>?_
  have hE:=hE.eqv (v':=(.bool ((!decide (x6.2=0))||(!decide (x7.2=0))))) (by rw[hc5];rfl)
  exact aC ⟨hE.cut ⟨rfl,rfl,rfl,rfl,rfl,trivial⟩,hp⟩
 rintro a w ⟨hE,hp⟩
 refine S hE 1 rfl fun a hE=>?_
 refine kR [_,_,_] (fun a w=>Env 94 [(71,(.bool (((!decide (x6.2=0))||(!decide (x7.2=0)))||(!decide (x8.2=0))))),(11,(.pointer (some ⟨b2,0,none⟩))),(13,(.pointer (some ⟨b3,0,none⟩))),(15,(.pointer (some ⟨b4,0,none⟩)))] a∧Hp Z ρ (Pt b4 (.cells #[(.int .i64 x8.1.kind),nH,nI,(.int .i64 x8.1.conflicts)] 29 (0,0))::aA 3 nH x8.1.model::bQ 25 3 nI xX (x8.1.proof:(List (List Int)))::Pt b3 (.cells #[(.int .i64 x7.1.kind),oI,kS,(.int .i64 x7.1.conflicts)] 29 (0,0))::aA 3 oI x7.1.model::bQ 25 3 kS rF (x7.1.proof:(List (List Int)))::Pt b2 (.cells #[(.int .i64 x6.1.kind),lZ,mD,(.int .i64 x6.1.conflicts)] 29 (0,0))::aA 3 lZ x6.1.model::bQ 25 3 mD D6 (x6.1.proof:(List (List Int)))::Pt b1 (.cells #[(.int .i64 p0.vars),aG] 24 (0,0))::L) w) ?_ ?_
 ·rcases Bool.eq_false_or_eq_true ((!decide (x6.2=0))||(!decide (x7.2=0))) with hc6|hc6
  ·
   refine Gk hE hc6 rfl fun a hE=>Gk hE hc6 rfl fun a hE=>pk1 hE hc6 rfl rfl rfl rfl fun a hE=>?_
   have hE:=hE.eqv (v':=(.bool (((!decide (x6.2=0))||(!decide (x7.2=0)))||(!decide (x8.2=0))))) (by rw[hc6];rfl)
   exact aC ⟨hE.cut ⟨rfl,rfl,rfl,rfl,trivial⟩,hp⟩
  refine Gs hE hc6 rfl rfl fun a hE=>Gs hE hc6 rfl rfl fun a hE=>pk0 hE hc6 rfl rfl rfl rfl fun a hE=>?_
  have hE:=hE.eqv (v':=(.bool (((!decide (x6.2=0))||(!decide (x7.2=0)))||(!decide (x8.2=0))))) (by rw[hc6];rfl)
  exact aC ⟨hE.cut ⟨rfl,rfl,rfl,rfl,trivial⟩,hp⟩
 rintro a w ⟨hE,hp⟩
 refine S hE 1 rfl fun a hE=>?_
 obtain⟨m2,hg2,hm⟩:=bnd hm
 refine kR [_,_,_,_,_] (fun a w=>Env 94 [(77,(.bool m2)),(11,(.pointer (some ⟨b2,0,none⟩))),(15,(.pointer (some ⟨b4,0,none⟩)))] a∧Hp Z ρ (Pt b4 (.cells #[(.int .i64 x8.1.kind),nH,nI,(.int .i64 x8.1.conflicts)] 29 (0,0))::aA 3 nH x8.1.model::bQ 25 3 nI xX (x8.1.proof:(List (List Int)))::Pt b3 (.cells #[(.int .i64 x7.1.kind),oI,kS,(.int .i64 x7.1.conflicts)] 29 (0,0))::aA 3 oI x7.1.model::bQ 25 3 kS rF (x7.1.proof:(List (List Int)))::Pt b2 (.cells #[(.int .i64 x6.1.kind),lZ,mD,(.int .i64 x6.1.conflicts)] 29 (0,0))::aA 3 lZ x6.1.model::bQ 25 3 mD D6 (x6.1.proof:(List (List Int)))::Pt b1 (.cells #[(.int .i64 p0.vars),aG] 24 (0,0))::L) w) ?_ ?_
 ·rcases Bool.eq_false_or_eq_true (((!decide (x6.2=0))||(!decide (x7.2=0)))||(!decide (x8.2=0))) with hc7|hc7
  ·
   replace hg2:=(it hc7).symm.trans hg2
   refine Gk hE hc7 rfl fun a hE=>Gk hE hc7 rfl fun a hE=>Gk hE hc7 rfl fun a hE=>Gk hE hc7 rfl fun a hE=>pk1 hE hc7 rfl rfl rfl rfl fun a hE=>?_
   obtain rfl:=Option.some.inj hg2
   exact aC ⟨hE.cut ⟨rfl,rfl,rfl,trivial⟩,hp⟩
  replace hg2:=(ie hc7).symm.trans hg2
  refine G hE hp hc7 rfl (aZ rfl hE rfl (fun w hw=>gQ (cs:=[(.int .i64 x6.1.kind),lZ,mD,(.int .i64 x6.1.conflicts)]) dY (Hp.cN 6 rfl 0 _ (bY rfl) w hw))) fun a hE=>G hE hp hc7 rfl (aZ rfl hE rfl (fun w hw=>gQ (cs:=[(.int .i64 x7.1.kind),oI,kS,(.int .i64 x7.1.conflicts)]) dY (Hp.cN 3 rfl 0 _ (bY rfl) w hw))) fun a hE=>?_
  obtain⟨k1,k1a,k1d,k1h⟩:=(hp.get 7 rfl).lend
  obtain⟨k2,k2a,k2d,k2h⟩:=(k1h.get 7 rfl).lend
  obtain⟨k3,k3a,k3d,k3h⟩:=(k2h.get 4 rfl).lend
  obtain⟨k4,k4a,k4d,k4h⟩:=(k3h.get 4 rfl).lend
  obtain⟨x9,ex9,hg2⟩:=bnd hg2
  refine s_call (wk1 hE rfl rfl rfl hc7) rfl rfl hE rfl [(.agg #[(.int .i64 x6.1.kind),lZ,mD,(.int .i64 x6.1.conflicts)]),(.agg #[(.int .i64 x7.1.kind),oI,kS,(.int .i64 x7.1.conflicts)])] ⟨rfl,rfl,trivial⟩ ent14 (vS x6.1 lZ (bU.mono (bU.mono (bU.mono (aA.ro k1d k1a) (PH.le_un _ _)) (PH.le_un _ _)) (PH.le_un _ _)) mD (bU.mono (bU.mono (bQ.ro k2d k2a) (PH.le_un _ _)) (PH.le_un _ _)) x7.1 oI (bU.mono (aA.ro k3d k3a) (PH.le_un _ _)) kS (bQ.ro k4d k4a) k4h x9 ex9) Ret.ret ?_
  intro v a w hR hE
  obtain⟨rfl,hp⟩:=Ret.of hR
  have hp:=Hp.back k4a k4d hp
  have hp:=Hp.back k3a k3d hp
  have hp:=Hp.back k2a k2d hp
  have hp:=Hp.back k1a k1d hp
  have hp:=r10 hp
  refine Gs hE hc7 rfl rfl fun a hE=>pk0 hE hc7 rfl rfl rfl rfl fun a hE=>?_
  obtain rfl:=Option.some.inj hg2
  exact aC ⟨hE.cut ⟨rfl,rfl,rfl,trivial⟩,((((((((((hp.get 9 rfl).get 2 rfl).get 2 rfl).get 9 rfl).get 5 rfl).get 5 rfl).get 9 rfl).get 9 rfl).get 9 rfl).get 9 rfl)⟩
 rintro a w ⟨hE,hp⟩
 refine aC ?_
 refine dO hE rfl (fun hc8=>?_) (fun hc8=>?_)
 ·replace hm:=(it hc8).symm.trans hm
  refine aH (aB ?_)
  refine S hE 1 rfl fun a hE=>aC (dE ?_)
  obtain rfl:=Option.some.inj hm
  exact iR hE rfl rfl ⟨_,rfl,rfl,(((((((((((((((((((hp.get 9 rfl).drop).get 8 rfl).drop).get 7 rfl).drop).get 6 rfl).drop).get 5 rfl).drop).get 4 rfl).drop).get 3 rfl).drop).get 2 rfl).drop).get 1 rfl).drop).drop)⟩
 replace hm:=(ie hc8).symm.trans hm
 refine bT (aH ?_)
 refine aH (aB ?_)
 refine V hE hp rfl (xf hE rM rfl rfl) fun a hE=>V hE hp rfl (xl hE bG 6 rfl rfl rfl rfl) fun a hE=>S hE 1 rfl fun a hE=>aC ?_
 refine dO hE rfl (fun hc9=>?_) (fun hc9=>?_)
 ·replace hm:=(it hc9).symm.trans hm
  refine aH (aB ?_)
  refine V hE hp rfl (aZ rfl hE rfl (fun w hw=>gQ (cs:=[(.int .i64 x6.1.kind),lZ,mD,(.int .i64 x6.1.conflicts)]) dY (Hp.cN 6 rfl 0 _ (bY rfl) w hw))) fun a hE=>V hE hp rfl (aZ rfl hE rfl (fun w hw=>gQ (cs:=[(.int .i64 x8.1.kind),nH,nI,(.int .i64 x8.1.conflicts)]) dY (Hp.cN 0 rfl 0 _ (bY rfl) w hw))) fun a hE=>?_
  obtain⟨k5,k5a,k5d,k5h⟩:=(hp.get 7 rfl).lend
  obtain⟨k6,k6a,k6d,k6h⟩:=(k5h.get 7 rfl).lend
  obtain⟨k7,k7a,k7d,k7h⟩:=(k6h.get 1 rfl).lend
  obtain⟨k8,k8a,k8d,k8h⟩:=(k7h.get 1 rfl).lend
  obtain⟨x10,ex10,hm⟩:=bnd hm
  refine s_call (wk0 rfl) rfl rfl hE rfl [(.agg #[(.int .i64 x6.1.kind),lZ,mD,(.int .i64 x6.1.conflicts)]),(.agg #[(.int .i64 x8.1.kind),nH,nI,(.int .i64 x8.1.conflicts)])] ⟨rfl,rfl,trivial⟩ ent14 (vS x6.1 lZ (bU.mono (bU.mono (bU.mono (aA.ro k5d k5a) (PH.le_un _ _)) (PH.le_un _ _)) (PH.le_un _ _)) mD (bU.mono (bU.mono (bQ.ro k6d k6a) (PH.le_un _ _)) (PH.le_un _ _)) x8.1 nH (bU.mono (aA.ro k7d k7a) (PH.le_un _ _)) nI (bQ.ro k8d k8a) k8h x10 ex10) Ret.ret ?_
  intro v a w hR hE
  obtain⟨rfl,hp⟩:=Ret.of hR
  have hp:=Hp.back k8a k8d hp
  have hp:=Hp.back k7a k7d hp
  have hp:=Hp.back k6a k6d hp
  have hp:=Hp.back k5a k5d hp
  have hp:=r10 hp
  refine S hE 1 rfl fun a hE=>aC (dE ?_)
  obtain rfl:=Option.some.inj hm
  exact iR hE rfl rfl ⟨_,rfl,rfl,(((((((((((((((((((hp.get 9 rfl).drop).get 8 rfl).drop).get 7 rfl).drop).get 6 rfl).drop).get 5 rfl).drop).get 4 rfl).drop).get 3 rfl).drop).get 2 rfl).drop).get 1 rfl).drop).drop)⟩
 replace hm:=(ie hc9).symm.trans hm
 refine bT (aH ?_)
 refine aB (V hE hp rfl (xf hE rM rfl rfl) fun a hE=>?_)
 refine V hE hp rfl (xl hE bG 0 rfl rfl rfl rfl) fun a hE=>S hE 2 rfl fun a hE=>?_
 refine kR [_,_,_,_,_,_] (fun a w=>Env 94 [(93,(.bool ((decide (x8.1.kind=2))||(decide (x6.1.conflicts≤x8.1.conflicts)))))] a∧Hp Z ρ (Pt b4 (.cells #[(.int .i64 x8.1.kind),nH,nI,(.int .i64 x8.1.conflicts)] 29 (0,0))::aA 3 nH x8.1.model::bQ 25 3 nI xX (x8.1.proof:(List (List Int)))::Pt b3 (.cells #[(.int .i64 x7.1.kind),oI,kS,(.int .i64 x7.1.conflicts)] 29 (0,0))::aA 3 oI x7.1.model::bQ 25 3 kS rF (x7.1.proof:(List (List Int)))::Pt b2 (.cells #[(.int .i64 x6.1.kind),lZ,mD,(.int .i64 x6.1.conflicts)] 29 (0,0))::aA 3 lZ x6.1.model::bQ 25 3 mD D6 (x6.1.proof:(List (List Int)))::Pt b1 (.cells #[(.int .i64 p0.vars),aG] 24 (0,0))::L) w) ?_ ?_
 ·rcases Bool.eq_false_or_eq_true (decide (x8.1.kind=2)) with hc10|hc10
  ·
   refine Gk hE hc10 rfl fun a hE=>Gk hE hc10 rfl fun a hE=>Gk hE hc10 rfl fun a hE=>Gk hE hc10 rfl fun a hE=>Gk hE hc10 rfl fun a hE=>pk1 hE hc10 rfl rfl rfl rfl fun a hE=>?_
   have hE:=hE.eqv (v':=(.bool ((decide (x8.1.kind=2))||(decide (x6.1.conflicts≤x8.1.conflicts))))) (by rw[hc10];rfl)
   exact aC ⟨hE.cut ⟨rfl,trivial⟩,hp⟩
  refine G hE hp hc10 rfl (xf hE uV rfl rfl) fun a hE=>G hE hp hc10 rfl (xl hE bG 0 rfl rfl rfl rfl) fun a hE=>G hE hp hc10 rfl (xf hE uV rfl rfl) fun a hE=>G hE hp hc10 rfl (xl hE bG 6 rfl rfl rfl rfl) fun a hE=>Gs hE hc10 rfl rfl fun a hE=>pk0 hE hc10 rfl rfl rfl rfl fun a hE=>?_
  have hE:=hE.eqv (v':=(.bool ((decide (x8.1.kind=2))||(decide (x6.1.conflicts≤x8.1.conflicts))))) (by rw[hc10];rfl)
  exact aC ⟨hE.cut ⟨rfl,trivial⟩,hp⟩
 rintro a w ⟨hE,hp⟩
 refine S hE 1 rfl fun a hE=>aC (dE ?_)
 obtain rfl:=Option.some.inj hm
 exact iR hE rfl rfl ⟨_,rfl,rfl,(((((((((((((((((((hp.get 9 rfl).drop).get 8 rfl).drop).get 7 rfl).drop).get 6 rfl).drop).get 5 rfl).drop).get 4 rfl).drop).get 3 rfl).drop).get 2 rfl).drop).get 1 rfl).drop).drop)⟩
open Vl (vl)
section
variable {β:Type}
end
def MapU {β:Type} [Vl β] (b:Nat) (l:List (Int×β)):bW:=fun h=>∃l',pJ b l' h∧l'.Perm l
section
variable {Rn:Option Nat} {P:Program} {ops:Array Oper} {Q:Exit→Act→World→Prop} {rest:List Oper} {o:Oper} {a:Act} {w:World} {Df:List Deferred} {N:Nat} {E:Ent} {d:Nat} {Z:World} {ρ:PH} {L:List bW}
variable {β:Type} [Vl β] {b:Nat} {l:List (Int×β)}
theorem MapU.of (h:Hp Z ρ (pJ b l::L) w):Hp Z ρ (MapU b l::L) w:=h.imp fun _ k=>⟨l,k,List.Perm.refl _⟩
theorem MapU.shut {l':List (Int×β)} (h:Hp Z ρ (pJ b l'::L) w) (hp:l'.Perm l):Hp Z ρ (MapU b l::L) w:=h.imp fun _ k=>⟨l',k,hp⟩
theorem MapU.open_ (h:Hp Z ρ (MapU b l::L) w):∃l',Hp Z ρ (pJ b l'::L) w∧l'.Perm l∧(l'.map (·.1)).Nodup:=by
 obtain⟨l',h1⟩:=Hp.ex (A:=fun l' k=>pJ b l' k∧l'.Perm l) h
 obtain⟨h2,hp⟩:=Hp.fact (A:=pJ b l') h1
 obtain⟨es,clock,_,e⟩:=h2.map
 exact⟨l',h2,hp,e.keys⟩
end
theorem loop_at {σ β:Type} {body:σ→Option (Step σ β)} {b:β} (S:Nat→σ):∀(n:Nat),(∀k,k<n→body (S k)=some (.next (S (k+1))))→body (S n)=some (.done b)→dD body (S 0)=some b
 |0,_,h=>dX h
 |n+1,h1,h2=>by
  rw[fM (h1 0 (by omega))]
  exact loop_at (fun k=>S (k+1)) n (fun k hk=>h1 (k+1) (by omega)) h2
theorem loop_from {σ β:Type} {body:σ→Option (Step σ β)} {b:β} {s:σ} (S:Nat→σ) (n:Nat) (h0:s=S 0) (h1:∀k,k<n→body (S k)=some (.next (S (k+1)))) (h2:body (S n)=some (.done b)):dD body s=some b:=by
 rw[h0];exact loop_at S n h1 h2
theorem iY {n:Int} (h: -9223372036854775808≤n∧n≤9223372036854775807):inK .i64 n=some n:=inK_ok n h.1 h.2
theorem dA {α:Type} {l:List α} {k:Nat} {a:α} (h:l[k]?=some a):idx l (k:Int)=some a:=by
 unfold idx;rw[if_pos (by omega)];simpa using h
theorem jK {α:Type} {l:List α} {i:Int} {a:α} (h0:0≤i) (h:l[i.toNat]?=some a):idx l i=some a:=by
 unfold idx;rw[if_pos h0,h]
theorem bJ {α:Type} {l:List α} {k:Nat} (h:k<l.length):∃a,l[k]?=some a:=⟨_,List.getElem?_eq_getElem h⟩
theorem pK {α:Type} {l m:List α} (h:l.length+m.length≤4294967296):app l m=some (l++m):=by unfold app;rw[if_pos h]
theorem wH {α:Type} {l:List α} {i j:Int} (h0:0≤i) (h1:i≤j) (h2:j≤l.length):sub l i j=some ((l.take j.toNat).drop i.toNat):=by unfold sub;rw[if_pos ⟨h0,h1,h2⟩]
theorem quoK_pos {m n:Int} (hm:0≤m) (hn:0<n) (h:m≤9223372036854775807):quoK .i64 m n=some (m / n):=by
 unfold quoK
 have h1:m.tdiv n=m / n:=Int.tdiv_eq_ediv_of_nonneg hm
 have h2:0≤m / n:=Int.ediv_nonneg hm (by omega)
 have h3:m / n≤m:=Int.ediv_le_self n hm
 rw[h1,if_pos ⟨by omega,by rw[IntKind.wrap_i64];omega⟩]
theorem mkc_ok {α:Type} {n c:Int} {z:α} (h:0≤n∧n≤c∧c≤4294967296):mkc n c z=some (List.replicate n.toNat z):=by unfold mkc;rw[if_pos h]
theorem I64.r {n:Int} (h:(Lit.int .i64 n).wf=true): -9223372036854775808≤n∧n≤9223372036854775807:=by
 simp[Lit.wf,IntKind.min,IntKind.max,IntKind.signed,IntKind.bits] at h
 exact⟨by omega,by omega⟩
theorem U8.r {n:Int} (h:(Lit.int .u8 n).wf=true):0≤n∧n≤255:=by
 simp[Lit.wf,IntKind.min,IntKind.max,IntKind.signed,IntKind.bits] at h
 omega
theorem first_or {α:Type} (p:α→Bool):∀(l:List α),(∃k a,l[k]?=some a∧p a=true∧(∀j b,j<k→l[j]?=some b→p b=false)∧l.any p=true∧l.findIdx p=k)∨((∀a∈l,p a=false)∧l.any p=false∧l.findIdx p=l.length)
 | []=>Or.inr ⟨by simp,rfl,rfl⟩
 |x::l=>by
  cases hx:p x with
  |true=>exact Or.inl ⟨0,x,rfl,hx,fun j b hj=>by omega,by simp[hx],by simp[List.findIdx_cons,hx]⟩
  |false=>
   rcases first_or p l with⟨k,a,h1,h2,h3,h4,h5⟩|⟨h1,h2,h3⟩
   ·refine Or.inl ⟨k+1,a,by simpa using h1,h2,fun j b hj hb=>?_,by simp[hx,h4],by simp[List.findIdx_cons,hx,h5]⟩
    cases j with
    |zero=>simp at hb;subst hb;exact hx
    |succ j=>exact h3 j b (by omega) (by simpa using hb)
   refine Or.inr ⟨fun a ha=>?_,by simp[hx,h2],by simp[List.findIdx_cons,hx,h3]⟩
   rcases List.mem_cons.1 ha with rfl|ha
   ·exact hx
   exact h1 a ha
theorem scan_loop {α β:Type} {body:Int→Option (Step Int β)} (l:List α) (p:α→Bool) (hit:Nat→α→β) (miss:β)
  (h1:∀(k:Nat) a,l[k]?=some a→body k=some (if p a=true then .done (hit k a) else .next ((k+1:Nat):Int))) (h2:body (l.length:Int)=some (.done miss)):
  (∃k a,l[k]?=some a∧p a=true∧(∀j b,j<k→l[j]?=some b→p b=false)∧l.any p=true∧l.findIdx p=k∧dD body 0=some (hit k a))∨((∀a∈l,p a=false)∧l.any p=false∧l.findIdx p=l.length∧dD body 0=some miss):=by
 rcases first_or p l with⟨k,a,a1,a2,a3,a4,a5⟩|⟨a1,a2,a3⟩
 ·refine Or.inl ⟨k,a,a1,a2,a3,a4,a5,loop_from (fun j=>(j:Int)) k rfl (fun j hj=>?_) ?_⟩
  ·obtain⟨b,hb⟩:=bJ (show j<l.length by have:=(List.getElem?_eq_some_iff.1 a1).1;omega)
   rw[h1 j b hb,a3 j b hj hb];rfl
  rw[h1 k a a1,a2];rfl
 refine Or.inr ⟨a1,a2,a3,loop_from (fun j=>(j:Int)) l.length rfl (fun j hj=>?_) h2⟩
 obtain⟨b,hb⟩:=bJ hj
 rw[h1 j b hb,a1 b (List.mem_of_getElem? hb)];rfl
theorem any_loop {α β:Type} {body:Int→Option (Step Int β)} (l:List α) (p:α→Bool) (hit miss:β)
  (h1:∀(k:Nat) a,l[k]?=some a→body k=some (if p a=true then .done hit else .next ((k+1:Nat):Int))) (h2:body (l.length:Int)=some (.done miss)):dD body 0=some (if l.any p=true then hit else miss):=by
 rcases scan_loop l p (fun _ _=>hit) miss h1 h2 with⟨k,a,_,_,_,h,_,e⟩|⟨_,h,_,e⟩
 ·rw[e,h];rfl
 rw[e,h];rfl
theorem same_loop {α β:Type} [DecidableEq α] {body:Int→Option (Step Int β)} {a b:List α} (hl:a.length=b.length) (hit miss:β)
  (h1:∀(k:Nat) x y,a[k]?=some x→b[k]?=some y→body k=some (if x=y then .next ((k+1:Nat):Int) else .done hit)) (h2:body (a.length:Int)=some (.done miss)):dD body 0=some (if a=b then miss else hit):=by
 have hzl:(a.zip b).length=a.length:=by rw[List.length_zip];omega
 have hz:(a.zip b).any (fun p=>decide (p.1≠p.2))=decide (a≠b):=by
  clear h1 h2 hzl
  induction a generalizing b with
  |nil=>cases b with
   |nil=>simp
   |cons y b=>simp at hl
  |cons x a ih=>cases b with
   |nil=>simp at hl
   |cons y b=>
    simp only[List.length_cons,Nat.add_right_cancel_iff] at hl
    simp only[List.zip_cons_cons,List.any_cons,ih hl,ne_eq,List.cons.injEq]
    by_cases hx:x=y<;>by_cases hb:a=b<;>simp[hx,hb]
 have:=any_loop (body:=body) (a.zip b) (fun p=>decide (p.1≠p.2)) hit miss (fun k p hp=>by
  obtain⟨x,y⟩:=p
  have hk:=(List.getElem?_eq_some_iff.1 hp).1
  rw[hzl] at hk
  obtain⟨x',hx⟩:=bJ hk
  obtain⟨y',hy⟩:=bJ (show k<b.length by omega)
  rw[List.getElem?_zip_eq_some] at hp
  rw[h1 k x y hp.1 hp.2]
  by_cases h:x=y<;>simp[h]) (by rw[hzl];exact h2)
 rw[this,hz]
 by_cases h:a=b<;>simp[h]
theorem L8 {α β γ:Type} {body:Int→Option (Step Int β)} {f:β→Option γ} {r:Option γ} (l:List α) (p:α→Bool) (hit miss:β)
  (h1:∀(k:Nat) a,l[k]?=some a→body k=some (if p a=true then .done hit else .next ((k+1:Nat):Int))) (h2:body (l.length:Int)=some (.done miss)) (hf:f (if l.any p=true then hit else miss)=r):(dD body 0).bind f=r:=by
 rw[any_loop l p hit miss h1 h2];exact hf
theorem V3 {α β γ:Type} [DecidableEq α] {body:Int→Option (Step Int β)} {f:β→Option γ} {r:Option γ} {a b:List α} (hl:a.length=b.length) (hit miss:β)
  (h1:∀(k:Nat) x y,a[k]?=some x→b[k]?=some y→body k=some (if x=y then .next ((k+1:Nat):Int) else .done hit)) (h2:body (a.length:Int)=some (.done miss)) (hf:f (if a=b then miss else hit)=r):(dD body 0).bind f=r:=by
 rw[same_loop hl hit miss h1 h2];exact hf
theorem xB {α:Type} {l:List α} {k:Nat} {a:α} (h:l[k]?=some a):l.drop k=a::l.drop (k+1):=by
 obtain⟨h1,h2⟩:=List.getElem?_eq_some_iff.1 h
 rw[←h2];exact List.drop_eq_getElem_cons h1
theorem eY {α:Type} {l:List α} {k:Nat} {a:α} (h:l[k]?=some a):l.take (k+1)=l.take k++[a]:=by
 obtain⟨h1,h2⟩:=List.getElem?_eq_some_iff.1 h
 rw[←h2];exact List.take_succ_eq_append_getElem h1
theorem rising_ext {α:Type} {r:α→α→Prop} (irr:∀a,¬r a a) (tr:∀a b c,r a b→r b c→r a c):∀{l m:List α},l.Pairwise r→m.Pairwise r→(∀x,x∈l↔x∈m)→l=m
 | [],[],_,_,_=>rfl
 | [],b::m,_,_,h=>by have:=(h b).2 (List.mem_cons_self ..);simp at this
 |a::l,[],_,_,h=>by have:=(h a).1 (List.mem_cons_self ..);simp at this
 |a::l,b::m,hl,hm,h=>by
  obtain⟨l1,l2⟩:=List.pairwise_cons.1 hl
  obtain⟨m1,m2⟩:=List.pairwise_cons.1 hm
  have e:a=b:=by
   rcases List.mem_cons.1 ((h a).1 (List.mem_cons_self ..)) with e|h1
   ·exact e
   rcases List.mem_cons.1 ((h b).2 (List.mem_cons_self ..)) with e|h2
   ·exact e.symm
   exact absurd (tr _ _ _ (m1 a h1) (l1 b h2)) (irr b)
  subst e
  congr 1
  refine rising_ext irr tr l2 m2 fun x=>?_
  constructor
  ·intro hx
   rcases List.mem_cons.1 ((h x).1 (List.mem_cons_of_mem _ hx)) with e|h1
   ·subst e;exact absurd (l1 x hx) (irr x)
   exact h1
  intro hx
  rcases List.mem_cons.1 ((h x).2 (List.mem_cons_of_mem _ hx)) with e|h1
  ·subst e;exact absurd (m1 x hx) (irr x)
  exact h1
theorem mget_mput {κ β:Type} [DecidableEq κ] (l:List (κ×β)) (k x:κ) (v:β):lX (uM l k v) x=if x=k then some v else lX l x:=by
 induction l with
 |nil=>by_cases h:k=x<;>simp[uM,lX,h,eq_comm]
 |cons p l ih=>
  unfold uM
  by_cases h:p.1=k
  ·rw[if_pos h]
   by_cases hx:x=k
   ·subst hx;simp[lX]
   have h1:¬k=x:=fun e=>hx e.symm
   have h2:¬p.1=x:=fun e=>hx (e.symm.trans h)
   simp[lX,List.find?_cons,hx,h1,h2]
  rw[if_neg h]
  by_cases hx:p.1=x
  ·have h3:¬x=k:=fun e=>h (hx.trans e)
   simp[lX,List.find?_cons,hx,h3]
  unfold lX at ih⊢
  rw[List.find?_cons_of_neg (by simpa using hx),List.find?_cons_of_neg (by simpa using hx)]
  exact ih
def runL {α τ β:Type} (f:α→τ→Step τ β) (g:τ→β):List α→τ→β
 | [],t=>g t
 |a::l,t=>match f a t with
  | .next t'=>runL f g l t'
  | .done b=>b
theorem loopL {α τ S β:Type} {body:S→Option (Step S β)} {s0:S} (l:List α) (E:Nat→τ→S) (f:α→τ→Step τ β) (g:τ→β) (I:Nat→τ→Prop) {t0:τ} (hs0:s0=E 0 t0) (h0:I 0 t0)
  (hs:∀k a t,l[k]?=some a→I k t→body (E k t)=some (match f a t with| .next t'=> .next (E (k+1) t')| .done b=> .done b)∧(∀t',f a t= .next t'→I (k+1) t'))
  (he:∀t,I l.length t→body (E l.length t)=some (.done (g t))):dD body s0=some (runL f g l t0):=by
 have key:∀(m k:Nat) (t:τ),k+m=l.length→I k t→dD body (E k t)=some (runL f g (l.drop k) t):=by
  intro m
  induction m with
  |zero=>
   intro k t hk hi
   have hk:k=l.length:=by omega
   subst hk
   rw[dX (he t hi),List.drop_length];rfl
  |succ m ih=>
   intro k t hk hi
   obtain⟨a,ha⟩:=bJ (show k<l.length by omega)
   obtain⟨h1,h2⟩:=hs k a t ha hi
   rw[xB ha]
   unfold runL
   cases hf:f a t with
   |next t'=>
    rw[hf] at h1
    rw[fM h1]
    exact ih (k+1) t' (by omega) (h2 t' hf)
   |done b=>
    rw[hf] at h1
    exact dX h1
 rw[hs0]
 simpa using key l.length 0 t0 (by omega) h0
theorem xA {τ S β:Type} {body:S→Option (Step S β)} {s0:S} (n:Nat) (E:Nat→τ→S) (I:Nat→τ→Prop) (Post:β→Prop) {t0:τ} (hs0:s0=E 0 t0) (h0:I 0 t0)
  (hs:∀k t,k<n→I k t→(∃t',body (E k t)=some (.next (E (k+1) t'))∧I (k+1) t')∨(∃b,body (E k t)=some (.done b)∧Post b))
  (he:∀t,I n t→∃b,body (E n t)=some (.done b)∧Post b):∃b,dD body s0=some b∧Post b:=by
 have key:∀(m k:Nat) (t:τ),k+m=n→I k t→∃b,dD body (E k t)=some b∧Post b:=by
  intro m
  induction m with
  |zero=>
   intro k t hk hi
   obtain rfl:k=n:=by omega
   obtain⟨b,h1,h2⟩:=he t hi
   exact⟨b,dX h1,h2⟩
  |succ m ih=>
   intro k t hk hi
   rcases hs k t (by omega) hi with⟨t',h1,h2⟩|⟨b,h1,h2⟩
   ·obtain⟨b,h3,h4⟩:=ih (k+1) t' (by omega) h2
    exact⟨b,by rw[fM h1];exact h3,h4⟩
   exact⟨b,dX h1,h2⟩
 rw[hs0]
 exact key n 0 t0 (by omega) h0
theorem bsm {α β:Type} (a:α) (f:α→Option β):(some a).bind f=f a:=Eq.trans (congrArg (fun x=>Option.bind x f) (Eq.refl (some a))) rfl
theorem dB {α:Type} {l:List α} {k:Nat} {a:α} (h:l[k]?=some a):k<l.length:=(List.getElem?_eq_some_iff.1 h).1
theorem bM {α:Type} {l:List α} {k:Nat} {a:α} (h:l[k]?=some a):a∈l:=List.mem_of_getElem? h
theorem jL {k:Nat} {n:Nat} (h:k<n) (hn:n≤9223372036854775807):inK .i64 ((k:Int)+1)=some ((k+1:Nat):Int):=by
 rw[iY ⟨by omega,by omega⟩];rfl
theorem pO {n m:Int} (e:n=m) (h: -9223372036854775808≤m∧m≤9223372036854775807):inK .i64 n=some m:=by rw[e];exact iY h
theorem ltB {k n:Nat} (h:k<n):(decide ((k:Int)<(n:Int)))=true:=by simpa using h
theorem tN {n:Nat}:¬(decide ((n:Int)<(n:Int)))=true:=by simp
theorem iW (l:Int):0≤vr l:=by unfold vr;omega
theorem kK (l:Int):vr (-l)=vr l:=by unfold vr;omega
theorem zO (l:Int):l=vr l∨l= -vr l:=by unfold vr;omega
theorem nX {l:Int}:vr l=0↔l=0:=by unfold vr;omega
theorem Y8 {l m:Int}:vr l=vr m↔l=m∨l= -m:=by unfold vr;omega
theorem nN {l v:Int}:vr l≤v↔ -v≤l∧l≤v:=by unfold vr;omega
def clF (v:Int):Int→List Int→Bool
 |_,[]=>true
 |last,l::r=>decide (-v≤l)&&decide (l≤v)&&decide (last<vr l)&&clF v (vr l) r
theorem var_ok {l:Int} (h: -9223372036854775807≤l∧l≤9223372036854775807):pU l=some (vr l):=by
 unfold pU;rw[iY (by omega)];rfl
theorem rvar_ok {l:Int} (h: -9223372036854775807≤l∧l≤9223372036854775807):iM l=some (vr l):=by
 unfold iM
 by_cases h0:l<0
 ·rw[if_pos (by simpa using h0),iY (by omega)]
  simp only[bsm];congr 1;unfold vr;omega
 rw[if_neg (by simpa using h0)];congr 1;unfold vr;omega
def stCl (v l last:Int):Step Int (Out Unit Bool):=if((decide (l< -v))||(decide (v<l))||(decide (vr l≤last)))=true then Step.done (Out.ret false) else Step.next (vr l)
theorem cnf_normal {c:List Int} {v:Int} (hv:0≤v∧v≤1099511627776) (hc:c.length≤9223372036854775807):uK c v=some (clF v 0 c):=by
 unfold uK
 have h:=loopL (body:=fun s:Int×Int=>pR c v s.1 s.2) (s0:=((0:Int),(0:Int))) c (fun k t=>(t,(k:Int)))
  (stCl v) (fun _=>Out.brk ()) (fun _ _=>True) (t0:=(0:Int)) rfl trivial ?_ ?_
 ·rw[h]
  simp only[bsm]
  generalize (0:Int)=t
  clear h
  induction c generalizing t with
  |nil=>simp[runL,clF]
  |cons l r ih=>
   have ih:=ih (by simp only[List.length_cons] at hc;omega)
   unfold runL stCl clF
   by_cases hb:((decide (l< -v))||(decide (v<l))||(decide (vr l≤t)))=true
   ·rw[if_pos hb]
    simp only[Bool.or_eq_true,decide_eq_true_eq] at hb
    have:(decide (-v≤l)&&decide (l≤v)&&decide (t<vr l))=false:=by
     simp only[Bool.and_eq_false_iff,decide_eq_false_iff_not];omega
    simp[this]
   rw[if_neg hb]
   simp only[Bool.or_eq_true,decide_eq_true_eq,not_or] at hb
   have:(decide (-v≤l)&&decide (l≤v)&&decide (t<vr l))=true:=by
    simp only[Bool.and_eq_true,decide_eq_true_eq];omega
   rw[this,Bool.true_and]
   exact ih (vr l)
 ·intro k a t hk _
  refine⟨?_,fun _ _=>trivial⟩
  simp only[pR,stCl]
  rw[if_pos (ltB (dB hk)),dA hk]
  simp only[bsm]
  rw[iY (by omega)]
  simp only[bsm,Int.zero_sub]
  by_cases h1:(decide (a< -v)||decide (v<a))=true
  ·simp[h1]
  rw[if_neg h1]
  simp only[Bool.or_eq_true,decide_eq_true_eq,not_or] at h1
  rw[var_ok (by omega)]
  have h1':(decide (a< -v)||decide (v<a))=false:=by simp;omega
  simp only[bsm,h1',Bool.false_or]
  by_cases h2:vr a≤t
  ·simp[h2]
  simp[h2,jL (dB hk) hc]
 intro t _
 simp only[pR]
 rw[if_neg tN]
theorem in1:inK .i64 1=some 1:=iY ⟨by decide,by decide⟩
theorem runL_clF {c:List Int} {v t:Int} (ht:0≤t):(match runL (stCl v) (fun _=>(Out.brk ():Out Unit Bool)) c t with| .brk _=>true| .ret r=>r)=clF v t c:=by
 induction c generalizing t with
 |nil=>simp[runL,clF]
 |cons l r ih=>
  unfold runL stCl clF
  by_cases hb:((decide (l< -v))||(decide (v<l))||(decide (vr l≤t)))=true
  ·rw[if_pos hb]
   simp only[Bool.or_eq_true,decide_eq_true_eq] at hb
   have:(decide (-v≤l)&&decide (l≤v)&&decide (t<vr l))=false:=by
    simp only[Bool.and_eq_false_iff,decide_eq_false_iff_not];omega
   simp[this]
  rw[if_neg hb]
  simp only[Bool.or_eq_true,decide_eq_true_eq,not_or] at hb
  have:(decide (-v≤l)&&decide (l≤v)&&decide (t<vr l))=true:=by
   simp only[Bool.and_eq_true,decide_eq_true_eq];omega
  rw[this,Bool.true_and]
  exact ih (iW l)
theorem aG4 {c:List Int} {v:Int} (hv:0≤v∧v≤1099511627776) (hc:c.length≤9223372036854775807):iL c v=some (clF v 0 c):=by
 unfold iL
 have h:=loopL (body:=fun s:Int=>iJ c v s) (s0:=(0:Int)) c (fun k t=>(k:Int))
  (stCl v) (fun _=>Out.brk ())
  (fun k t=>(k=0∧t=0)∨(0<k∧∃b,c[k-1]?=some b∧t=vr b∧ -v≤b∧b≤v)) (t0:=(0:Int)) rfl (Or.inl ⟨rfl,rfl⟩) ?_ ?_
 ·rw[h]
  simp only[bsm]
  rw[←runL_clF (c:=c) (v:=v) (t:=0) (Int.le_refl 0)]
  generalize runL (stCl v) (fun _=>Out.brk ()) c 0=o
  cases o<;>rfl
 ·intro k a t hk hI
  refine⟨?_,fun t' ht'=>?_⟩
  ·simp only[iJ,stCl]
   rw[if_pos (ltB (dB hk)),dA hk]
   simp only[bsm]
   rw[iY (show -9223372036854775808≤0-v∧0-v≤9223372036854775807 by omega)]
   have ht:0≤t:=by
    rcases hI with⟨_,rfl⟩|⟨_,b,_,rfl,_⟩
    ·omega
    exact iW b
   by_cases h0:a=0
   ·have:vr a≤t:=by rw[nX.2 h0];exact ht
    simp[h0]
    rw[h0] at this;simp[this]
   by_cases h1:a< -v
   ·simp[h0,h1]
   by_cases h2:v<a
   ·simp[h0,h1,h2]
   have h3:(decide (a< -v)||decide (v<a))=false:=by simp;omega
   rcases hI with⟨rfl,rfl⟩|⟨hk0,b,hb,rfl,hb1,hb2⟩
   ·have:¬vr a≤0:=fun h=>h0 (nX.1 (by have:=iW a;omega))
    simp[h0,h1,h2,this,in1]
   have e1:inK .i64 ((k:Int)-1)=some ((k-1:Nat):Int):=by
    rw[iY ⟨by omega,by have:=dB hk;omega⟩];congr 1;omega
   rw[rvar_ok (by omega)]
   simp only[bsm]
   simp[h0,h1,h2,show 0<k from hk0,e1,dA hb,rvar_ok (show -9223372036854775807≤b∧b≤9223372036854775807 by omega),jL (dB hk) hc]
   by_cases h4:vr a≤vr b
   ·simp[h4]
   simp[h4]
  refine Or.inr ⟨by omega,a,by simpa using hk,?_⟩
  unfold stCl at ht'
  by_cases hb:((decide (a< -v))||(decide (v<a))||(decide (vr a≤t)))=true
  ·rw[if_pos hb] at ht';cases ht'
  rw[if_neg hb] at ht'
  simp only[Bool.or_eq_true,decide_eq_true_eq,not_or] at hb
  exact⟨(Step.next.inj ht').symm,by omega,by omega⟩
 intro t _
 simp only[iJ]
 rw[if_neg tN]
def mW (f:Formula):Bool:=decide (0≤f.vars)&&decide (f.vars≤65536)&&decide (f.clauses.length≤262144)&&f.clauses.all (clF f.vars 0)
def FLen (cs:List (List Int)):Prop:=cs.length≤9223372036854775807∧∀c∈cs,c.length≤9223372036854775807
theorem yG {α:Type} (p:α→Bool) (l:List α):(if l.any (fun a=> !p a)=true then(Out.ret false:Out Unit Bool) else Out.brk ())=(if l.all p=true then Out.brk () else Out.ret false):=by
 have:l.any (fun a=> !p a)= !l.all p:=by simp[List.all_eq_not_any_not]
 rw[this];cases l.all p<;>rfl
theorem validB_pre (f:Formula) (hp:¬(((decide (f.vars<0))||(decide (65536<f.vars)))||(decide (262144<(f.clauses.length:Int))))=true):mW f=f.clauses.all (clF f.vars 0):=by
 simp only[Bool.or_eq_true,decide_eq_true_eq,not_or] at hp
 unfold mW
 have:(decide (0≤f.vars)&&decide (f.vars≤65536)&&decide (f.clauses.length≤262144))=true:=by simp only[Bool.and_eq_true,decide_eq_true_eq];omega
 rw[this,Bool.true_and]
theorem validB_no (f:Formula) (hp:(((decide (f.vars<0))||(decide (65536<f.vars)))||(decide (262144<(f.clauses.length:Int))))=true):mW f=false:=by
 simp only[Bool.or_eq_true,decide_eq_true_eq] at hp
 unfold mW
 have:(decide (0≤f.vars)&&decide (f.vars≤65536)&&decide (f.clauses.length≤262144))=false:=by
  simp only[Bool.and_eq_false_iff,decide_eq_false_iff_not];omega
 rw[this,Bool.false_and]
theorem cnf_valid {f:Formula} (hl:FLen f.clauses):tY f=some (mW f):=by
 unfold tY
 by_cases hp:(((decide (f.vars<0))||(decide (65536<f.vars)))||(decide (262144<(f.clauses.length:Int))))=true
 ·rw[if_pos hp,validB_no f hp]
 rw[if_neg hp,validB_pre f hp]
 have hp':=hp
 simp only[Bool.or_eq_true,decide_eq_true_eq,not_or] at hp'
 refine L8 f.clauses (fun c=> !clF f.vars 0 c) (Out.ret false) (Out.brk ()) ?_ ?_ ?_
 ·intro k a hk
  simp only[sU]
  rw[if_pos (ltB (dB hk)),dA hk]
  simp only[bsm]
  rw[cnf_normal ⟨by omega,by omega⟩ (hl.2 a (bM hk)),jL (dB hk) hl.1]
  cases clF f.vars 0 a<;>rfl
 ·simp only[sU]
  rw[if_neg tN]
 rw[yG]
 cases f.clauses.all (clF f.vars 0)<;>rfl
theorem ref_valid {f:Formula} (hl:FLen f.clauses):lS f=some (mW f):=by
 unfold lS
 by_cases hp:(((decide (f.vars<0))||(decide (65536<f.vars)))||(decide (262144<(f.clauses.length:Int))))=true
 ·rw[if_pos hp,validB_no f hp]
 rw[if_neg hp,validB_pre f hp]
 have hp':=hp
 simp only[Bool.or_eq_true,decide_eq_true_eq,not_or] at hp'
 refine L8 f.clauses (fun c=> !clF f.vars 0 c) (Out.ret false) (Out.brk ()) ?_ ?_ ?_
 ·intro k a hk
  simp only[lL]
  rw[if_pos (ltB (dB hk)),dA hk]
  simp only[bsm]
  rw[aG4 ⟨by omega,by omega⟩ (hl.2 a (bM hk)),jL (dB hk) hl.1]
  cases clF f.vars 0 a<;>rfl
 ·simp only[lL]
  rw[if_neg tN]
 rw[yG]
 cases f.clauses.all (clF f.vars 0)<;>rfl
theorem lists_equal (a b:List Int) (ha:a.length≤9223372036854775807):kP a b=some (decide (a=b)):=by
 unfold kP
 by_cases hl:a.length=b.length
 ·rw[if_neg (by simp[hl])]
  refine V3 hl (Out.ret false) (Out.brk ()) ?_ ?_ ?_
  ·intro k x y hx hy
   simp only[kW]
   rw[if_pos (ltB (dB hx)),dA hx,dA hy]
   simp only[bsm]
   rw[jL (dB hx) ha]
   by_cases h:x=y<;>simp[h]
  ·simp only[kW]
   rw[if_neg tN]
  by_cases h:a=b<;>simp[h]
 rw[if_pos (by simp;omega)]
 have:a≠b:=fun e=>hl (by rw[e])
 simp[this]
theorem clauses_equal (a b:List (List Int)) (ha:FLen a):kL a b=some (decide (a=b)):=by
 unfold kL
 by_cases hl:a.length=b.length
 ·rw[if_neg (by simp[hl])]
  refine V3 hl (Out.ret false) (Out.brk ()) ?_ ?_ ?_
  ·intro k x y hx hy
   simp only[kU]
   rw[if_pos (ltB (dB hx)),dA hx,dA hy]
   simp only[bsm]
   by_cases hxy:x.length=y.length
   ·rw[if_neg (by simp[hxy])]
    have hxl:=ha.2 x (bM hx)
    refine V3 hxy (Out.ret false) (Out.brk ()) ?_ ?_ ?_
    ·intro j u v hu hv
     simp only[kV]
     rw[dA hx]
     simp only[bsm]
     rw[if_pos (ltB (dB hu)),dA hu,dA hy]
     simp only[bsm]
     rw[dA hv]
     simp only[bsm]
     rw[jL (dB hu) hxl]
     by_cases h:u=v<;>simp[h]
    ·simp only[kV]
     rw[dA hx]
     simp only[bsm]
     rw[if_neg tN]
    by_cases h:x=y
    ·simp[h,jL (dB hx) ha.1]
    simp[h]
   rw[if_pos (by simp;omega)]
   have:x≠y:=fun e=>hxy (by rw[e])
   simp[this]
  ·simp only[kU]
   rw[if_neg tN]
  by_cases h:a=b<;>simp[h]
 rw[if_pos (by simp;omega)]
 have:a≠b:=fun e=>hl (by rw[e])
 simp[this]
theorem Formula.ext_ {f g:Formula} (h1:f.vars=g.vars) (h2:f.clauses=g.clauses):f=g:=by
 obtain⟨a,b⟩:=f;obtain⟨c,d⟩:=g;simp at h1 h2;rw[h1,h2]
instance:DecidableEq Formula:=fun f g=>if h:f.vars=g.vars∧f.clauses=g.clauses then isTrue (Formula.ext_ h.1 h.2) else isFalse (fun e=>h (by rw[e];exact⟨rfl,rfl⟩))
def smallB (f:Formula) (v n:Int):Bool:=f.clauses.all (fun c=>decide (c.length≤30))&&decide (f.vars≤v)&&decide ((f.clauses.length:Int)≤n)
theorem small_eq (f:Formula) (v n:Int) (hl:f.clauses.length≤9223372036854775807):lQ f v n=some (smallB f v n):=by
 unfold lQ smallB
 refine L8 f.clauses (fun c=> !decide (c.length≤30)) (Out.ret false) (Out.brk ()) ?_ ?_ ?_
 ·intro k a hk
  simp only[lK]
  rw[if_pos (ltB (dB hk)),dA hk]
  simp only[bsm]
  rw[jL (dB hk) hl]
  by_cases h:a.length≤30
  ·rw[if_neg (by simp;omega)];simp[h]
  rw[if_pos (by simp;omega)];simp[h]
 ·simp only[lK]
  rw[if_neg tN]
 rw[yG]
 cases f.clauses.all (fun c=>decide (c.length≤30))<;>rfl
def mdF:Int→List Int→Bool
 |_,[]=>true
 |i,l::r=>(decide (l=i)||decide (l= -i))&&mdF (i+1) r
def O8 (m c:List Int):Bool:=c.any fun l=>decide (m[(vr l-1).toNat]?=some l)
def holdsB (f:Formula) (m:List Int):Bool:=mW f&&decide ((m.length:Int)=f.vars)&&mdF 1 m&&f.clauses.all (O8 m)
theorem clF_mem {v:Int}:∀{t:Int} {c:List Int},0≤t→clF v t c=true→∀l∈c,-v≤l∧l≤v∧t<vr l
 |_,[],_,_,l,h=>by simp at h
 |t,x::c,ht,h,l,hl=>by
  unfold clF at h
  simp only[Bool.and_eq_true,decide_eq_true_eq] at h
  rcases List.mem_cons.1 hl with rfl|hl
  ·exact⟨h.1.1.1,h.1.1.2,h.1.2⟩
  have:=clF_mem (iW x) h.2 l hl
  exact⟨this.1,this.2.1,by omega⟩
theorem idx_vr {α:Type} {m:List α} {l:Int} (h0:0<vr l) (h:vr l≤m.length):∃x,m[(vr l-1).toNat]?=some x∧idx m (vr l-1)=some x:=by
 obtain⟨x,hx⟩:=bJ (show(vr l-1).toNat<m.length by omega)
 exact⟨x,hx,jK (by omega) hx⟩
theorem qQ {f:Formula} (h:mW f=true):0≤f.vars∧f.vars≤65536∧f.clauses.length≤262144∧∀c∈f.clauses,clF f.vars 0 c=true:=by
 unfold mW at h
 simp only[Bool.and_eq_true,decide_eq_true_eq,List.all_eq_true] at h
 exact⟨h.1.1.1,h.1.1.2,h.1.2,h.2⟩
inductive UP (F:List (List Int)) (S:List Int):Int→Prop
 |start {l:Int}:l∈S→UP F S l
 |unit {c:List Int} {x:Int}:c∈F→x∈c→(∀y∈c,y≠x→UP F S (-y))→UP F S x
def Fails (F:List (List Int)) (S:List Int):Prop:=(∃l,UP F S l∧UP F S (-l))∨∃c∈F,∀y∈c,UP F S (-y)
structure Lits (n:Int) (F:List (List Int)) (S:List Int):Prop where
 nn:0≤n∧n≤65536
 cl:∀c∈F,∀y∈c,y≠0∧vr y≤n
 st:∀y∈S,y≠0∧vr y≤n
 nd:∀c∈F,c.Nodup
theorem UP.lit {n:Int} {F:List (List Int)} {S:List Int} (h:Lits n F S) {l:Int} (hl:UP F S l):l≠0∧vr l≤n:=by
 cases hl with
 |start hs=>exact h.st _ hs
 |unit hc hx _=>exact h.cl _ hc _ hx
def gv (val:List Int) (l:Int):Option Int:=val[(vr l).toNat]?
theorem uG (val:List Int) (l:Int):gv val (-l)=gv val l:=by unfold gv;rw[kK]
structure ValOk (n:Int) (F:List (List Int)) (S:List Int) (val:List Int):Prop where
 len:(val.length:Int)=n+1
 own:∀(v:Nat) x,val[v]?=some x→x=0∨(x≠0∧vr x=v)
 sound:∀(v:Nat) x,val[v]?=some x→x≠0→UP F S x
theorem ValOk.get {n:Int} {F:List (List Int)} {S:List Int} {val:List Int} (h:ValOk n F S val) {l:Int} (hl:vr l≤n):∃x,gv val l=some x∧idx val (vr l)=some x∧(x=0∨x=l∨x= -l):=by
 have h0:=iW l
 obtain⟨x,hx⟩:=bJ (show(vr l).toNat<val.length by have:=h.len;omega)
 refine⟨x,hx,jK h0 hx,?_⟩
 rcases h.own _ x hx with h1|⟨_,h1⟩
 ·exact Or.inl h1
 exact Or.inr (Y8.1 (by omega))
theorem ValOk.up {n:Int} {F:List (List Int)} {S:List Int} {val:List Int} (h:ValOk n F S val) {l:Int} (h0:l≠0) (hl:gv val l=some l):UP F S l:=h.sound _ l hl h0
theorem ValOk.set {n:Int} {F:List (List Int)} {S:List Int} {val:List Int} (h:ValOk n F S val) {l:Int} (h0:l≠0) (hl:vr l≤n) (hu:UP F S l):ValOk n F S (val.set (vr l).toNat l):=by
 have hv:=iW l
 refine⟨by rw[List.length_set];exact h.len,fun v x hx=>?_,fun v x hx hx0=>?_⟩
 ·rw[List.getElem?_set] at hx
  split at hx
  ·rename_i e
   split at hx
   ·obtain rfl:=Option.some.inj hx
    exact Or.inr ⟨h0,by omega⟩
   cases hx
  exact h.own v x hx
 rw[List.getElem?_set] at hx
 split at hx
 ·split at hx
  ·obtain rfl:=Option.some.inj hx;exact hu
  cases hx
 exact h.sound v x hx hx0
theorem gv_set {n:Int} {val:List Int} {l m:Int} (hlen:(val.length:Int)=n+1) (hl:vr l≤n):gv (val.set (vr l).toNat l) m=if vr m=vr l then some l else gv val m:=by
 unfold gv
 have h1:=iW l
 have h2:=iW m
 rw[List.getElem?_set]
 by_cases e:vr m=vr l
 ·rw[if_pos (by omega),if_pos (by omega),if_pos e]
 rw[if_neg (by omega),if_neg e]
def Good (val c:List Int):Prop:=(∃y∈c,gv val y=some y)∨∃y∈c,∃z∈c,y≠z∧gv val y=some 0∧gv val z=some 0
theorem V5 {n:Int} {F:List (List Int)} {S:List Int} {val:List Int} (hL:Lits n F S) (h:ValOk n F S val) (hs:∀l∈S,gv val l=some l) (hg:∀c∈F,Good val c):∀{l},UP F S l→gv val l=some l:=by
 intro l hl
 induction hl with
 |start hm=>exact hs _ hm
 | @unit c x hc hx hy ih=>
  rcases hg c hc with⟨y,hyc,h1⟩|⟨y,hyc,z,hzc,hyz,h1,h2⟩
  ·by_cases e:y=x
   ·rw[←e];exact h1
   have:=ih y hyc e
   rw[uG,h1] at this
   have:=Option.some.inj this
   exact absurd (show y=0 by omega) (hL.cl c hc y hyc).1
  by_cases e:y=x
  ·have:=ih z hzc (by rw[←e];exact fun e'=>hyz e'.symm)
   rw[uG,h2] at this
   have:=Option.some.inj this
   exact absurd (show z=0 by omega) (hL.cl c hc z hzc).1
  have:=ih y hyc e
  rw[uG,h1] at this
  have:=Option.some.inj this
  exact absurd (show y=0 by omega) (hL.cl c hc y hyc).1
theorem closed_ok {n:Int} {F:List (List Int)} {S:List Int} {val:List Int} (hL:Lits n F S) (h:ValOk n F S val) (hs:∀l∈S,gv val l=some l) (hg:∀c∈F,Good val c):¬Fails F S:=by
 rintro(⟨l,h1,h2⟩|⟨c,hc,hy⟩)
 ·have e1:=V5 hL h hs hg h1
  have e2:=V5 hL h hs hg h2
  rw[uG,e1] at e2
  have:=Option.some.inj e2
  exact(h1.lit hL).1 (by omega)
 rcases hg c hc with⟨y,hyc,h1⟩|⟨y,hyc,z,hzc,hyz,h1,h2⟩
 ·have:=V5 hL h hs hg (hy y hyc)
  rw[uG,h1] at this
  have:=Option.some.inj this
  exact(hL.cl c hc y hyc).1 (by omega)
 have:=V5 hL h hs hg (hy y hyc)
 rw[uG,h1] at this
 have:=Option.some.inj this
 exact(hL.cl c hc y hyc).1 (by omega)
def sOk (v x:Int):Bool:=decide (x≠0)&&decide (-v≤x)&&decide (x≤v)
theorem clF_one (v x:Int):clF v 0 [x]=sOk v x:=by
 unfold clF clF sOk
 rw[Bool.eq_iff_iff]
 simp only[Bool.and_eq_true,decide_eq_true_eq,Bool.and_true]
 have:=iW x
 have:= @nX x
 constructor
 ·rintro⟨⟨a,b⟩,c⟩;exact⟨⟨fun e=>by rw[e] at c;simp[vr] at c,a⟩,b⟩
 rintro⟨⟨a,b⟩,c⟩;exact⟨⟨b,c⟩,by omega⟩
end Go.Proofs.Ytpkhmndpeipfmaa

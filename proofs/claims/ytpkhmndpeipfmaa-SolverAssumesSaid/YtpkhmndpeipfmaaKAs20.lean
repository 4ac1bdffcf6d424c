/- The code goes as its model: assessor/assessorlaw28.SolverAssumes. (Printed by wip/sp/gen.py.) -/
import Derived.Test.YtpkhmndpeipfmaaKAsT
import Derived.Test.YtpkhmndpeipfmaaKAs6
import Derived.Test.YtpkhmndpeipfmaaKAs19
import Derived.Test.YtpkhmndpeipfmaaKAs3
import Derived.Test.YtpkhmndpeipfmaaKAs2
import Derived.Test.YtpkhmndpeipfmaaKAs4
import Derived.Lib.ItoaNum
import Derived.Test.YtpkhmndpeipfmaaKAs5
set_option linter.unusedVariables false
set_option linter.unusedSimpArgs false
namespace Go.Proofs.Ytpkhmndpeipfmaa
open Go.RowKit
set_option maxRecDepth 100000 in
set_option maxHeartbeats 4000000 in
theorem c_assessorlaw28_SolverAssumes {Z:World} {ρ:PH} {L:List bV} {w:World} (p0:Formula) (aG:Value) (bI:bU ρ aG p0.clauses) (p1:(List Int)) (vp1:Value) (hp1:bU ρ vp1 p1) (hp:Hp Z ρ (L) w) (r:Bool) (hm:kD p0 p1=some r):
  Calls Try.prog 9 #[(.agg #[(.int .i64 p0.vars),aG]),vp1] w (Ret fun v w'=>v=(.bool r)∧Hp Z ρ (L) w'):=by
 refine enter (N:=76) Try.func9 rfl rfl [(0,(.agg #[(.int .i64 p0.vars),aG])),(1,vp1)] rfl (bP ⟨rfl,rfl,trivial⟩) fun a hE=>?_
 unfold kD at hm
 refine aH (aB ?_)
 refine qQ (wk0 rfl) rfl rfl hE hp rfl (v:=(.agg #[(.int .i64 p0.vars),aG])) rfl ?_
 intro a w b1 hE hp
 have hp:=r1 hp
 refine S hE 1 rfl fun a hE=>aC (aH ?_)
 refine aH (aB ?_)
 obtain⟨x1,ex1,hm⟩:=bnd hm
 refine s_call (wk0 rfl) rfl rfl hE rfl [] trivial ent10 (J8 hp x1 ex1) Ret.ret ?_
 intro v a w hR hE
 obtain⟨rfl,hp⟩:=Ret.of hR
 have hp:=r1 hp
 refine S hE 1 rfl fun a hE=>aC ?_
 refine dQ hE rfl (fun hc1=>?_) (fun hc1=>?_)
 ·replace hm:=(it hc1).symm.trans hm
  refine aH (aB ?_)
  refine S hE 1 rfl fun a hE=>aC (dE ?_)
  obtain rfl:=Option.some.inj hm
  exact iV hE rfl rfl ⟨_,rfl,rfl,(hp.drop)⟩
 replace hm:=(ie hc1).symm.trans hm
 refine bT (aH ?_)
 refine aH (aB ?_)
 refine V hE hp rfl (aZ rfl hE rfl (fun w hw=>gQ (cs:=[(.int .i64 p0.vars),aG]) gV (Hp.cN 0 rfl 0 _ (bY rfl) w hw))) fun a hE=>?_
 obtain⟨x2,ex2,hm⟩:=bnd hm
 refine s_call (wk0 rfl) rfl rfl hE rfl [(.agg #[(.int .i64 p0.vars),aG]),(.int .i64 10),(.int .i64 40)] ⟨rfl,rfl,rfl,trivial⟩ ent11 (J9 p0 aG bI 10 40 hp x2 ex2) Ret.ret ?_
 intro v a w hR hE
 obtain⟨rfl,hp⟩:=Ret.of hR
 have hp:=r1 hp
 refine S hE 2 rfl fun a hE=>?_
 obtain⟨m1,hg1,hm⟩:=bnd hm
 refine kV [_,_,_,_,_] (fun a w=>Env 76 [(20,(.bool m1)),(1,vp1),(2,(.pointer (some ⟨b1,0,none⟩)))] a∧Hp Z ρ (Pt b1 (.cells #[(.int .i64 p0.vars),aG] 24 (0,0))::L) w) ?_ ?_
 ·rcases Bool.eq_false_or_eq_true (!x2) with hc2|hc2
  ·
   replace hg1:=(it hc2).symm.trans hg1
   refine Gk hE hc2 rfl fun a hE=>Gk hE hc2 rfl fun a hE=>Gk hE hc2 rfl fun a hE=>Gk hE hc2 rfl fun a hE=>pk1 hE hc2 rfl rfl rfl rfl fun a hE=>?_
   obtain rfl:=Option.some.inj hg1
   exact aC ⟨hE.cut ⟨rfl,rfl,rfl,trivial⟩,hp⟩
  replace hg1:=(ie hc2).symm.trans hg1
  refine G hE hp hc2 rfl (aZ rfl hE rfl (fun w hw=>gQ (cs:=[(.int .i64 p0.vars),aG]) gV (Hp.cN 0 rfl 0 _ (bY rfl) w hw))) fun a hE=>Gs hE hc2 rfl rfl fun a hE=>?_
  obtain⟨x3,ex3,hg1⟩:=bnd hg1
  refine s_call (wk1 hE rfl rfl rfl hc2) rfl rfl hE rfl [(.agg #[(.int .i64 p0.vars),aG]),vp1,(.int .i64 0)] ⟨rfl,rfl,rfl,trivial⟩ ent13 (O1 p0 aG bI p1 vp1 hp1 0 hp x3 ex3) Ret.ret ?_
  intro v a w hR hE
  obtain⟨rfl,hp⟩:=Ret.of hR
  have hp:=r1 hp
  refine Gs hE hc2 rfl rfl fun a hE=>pk0 hE hc2 rfl rfl rfl rfl fun a hE=>?_
  obtain rfl:=Option.some.inj hg1
  exact aC ⟨hE.cut ⟨rfl,rfl,rfl,trivial⟩,hp⟩
 rintro a w ⟨hE,hp⟩
 refine S hE 1 rfl fun a hE=>?_
 refine kV [_,_,_,_] (fun a w=>Env 76 [(25,(.bool (m1||(decide (10<(p1.length:Int)))))),(1,vp1),(2,(.pointer (some ⟨b1,0,none⟩)))] a∧Hp Z ρ (Pt b1 (.cells #[(.int .i64 p0.vars),aG] 24 (0,0))::L) w) ?_ ?_
 ·rcases Bool.eq_false_or_eq_true m1 with hc3|hc3
  ·
   refine Gk hE hc3 rfl fun a hE=>Gk hE hc3 rfl fun a hE=>Gk hE hc3 rfl fun a hE=>pk1 hE hc3 rfl rfl rfl rfl fun a hE=>?_
   have hE:=hE.eqv (v':=(.bool (m1||(decide (10<(p1.length:Int)))))) (by rw[hc3];rfl)
   exact aC ⟨hE.cut ⟨rfl,rfl,rfl,trivial⟩,hp⟩
  refine Gs hE hc3 rfl rfl fun a hE=>G hE hp hc3 rfl (dJ rfl hE rfl (bU.len hp1 aY)) fun a hE=>Gs hE hc3 rfl rfl fun a hE=>pk0 hE hc3 rfl rfl rfl rfl fun a hE=>?_
  have hE:=hE.eqv (v':=(.bool (m1||(decide (10<(p1.length:Int)))))) (by rw[hc3];rfl)
  exact aC ⟨hE.cut ⟨rfl,rfl,rfl,trivial⟩,hp⟩
 rintro a w ⟨hE,hp⟩
 refine aC ?_
 refine dQ hE rfl (fun hc4=>?_) (fun hc4=>?_)
 ·replace hm:=(it hc4).symm.trans hm
  refine aH (aB ?_)
  refine S hE 1 rfl fun a hE=>aC (dE ?_)
  obtain rfl:=Option.some.inj hm
  exact iV hE rfl rfl ⟨_,rfl,rfl,(hp.drop)⟩
 replace hm:=(ie hc4).symm.trans hm
 refine bT (aH ?_)
 refine aB (V hE hp rfl (aZ rfl hE rfl (fun w hw=>gQ (cs:=[(.int .i64 p0.vars),aG]) gV (Hp.cN 0 rfl 0 _ (bY rfl) w hw))) fun a hE=>?_)
 refine S hE 1 rfl fun a hE=>?_
 obtain⟨x4,ex4,hm⟩:=bnd hm
 refine s_call (wk0 rfl) rfl rfl hE rfl [(.agg #[(.int .i64 p0.vars),aG]),vp1] ⟨rfl,rfl,trivial⟩ ent26 (vO p0 aG bI p1 vp1 hp1 hp x4 ex4) Ret.ret ?_
 intro v a w hR hE
 obtain⟨ρ1,iK,hle1,rfl,vT,hp⟩:=Ret.of hR
 have hp:=r1 hp
 refine qB (wk0 rfl) rfl rfl hE hp rfl [(.int .i64 0),(.slice none 0 0)] (fun w=>by simp[Instr.alloc,go_sem]<;>rfl) ?_
 intro a w b2 hE hp
 have hp:=r2 hp
 refine dM (wk0 rfl) rfl hE hp rfl rfl rfl 0 rfl gV.size_ rfl (bW ⟨rfl,(bU.one vT),trivial⟩) [(.int .i64 x4.vars),iK] rfl ?_
 intro w hp
 have hp:=r2 hp
 refine aC (aH ?_)
 refine aB (V hE hp rfl (aZ rfl hE rfl (fun w hw=>gQ (cs:=[(.int .i64 p0.vars),aG]) gV (Hp.cN 1 rfl 0 _ (bY rfl) w hw))) fun a hE=>?_)
 refine S hE 1 rfl fun a hE=>?_
 obtain⟨x5,ex5,hm⟩:=bnd hm
 refine s_call (wk0 rfl) rfl rfl hE rfl [(.agg #[(.int .i64 p0.vars),aG]),vp1,(.int .i64 65536)] ⟨rfl,rfl,rfl,trivial⟩ ent12 (uC p0 aG (bU.mono bI hle1) p1 vp1 (bU.mono hp1 hle1) 65536 hp x5 ex5) Ret.ret ?_
 intro v a w hR hE
 obtain⟨lF,nC,xZ,rfl,hp⟩:=Ret.of hR
 have hp:=r4 hp
 refine S hE 3 rfl fun a hE=>?_
 refine qB (wk0 rfl) rfl rfl hE hp rfl [(.int .i64 0),(.slice none 0 0),(.slice none 0 0),(.int .i64 0)] (fun w=>by simp[Instr.alloc,go_sem]<;>rfl) ?_
 intro a w b3 hE hp
 have hp:=r5 hp
 refine dM (wk0 rfl) rfl hE hp rfl rfl rfl 0 rfl eY.size_ rfl (bW ⟨rfl,(aA.one hp 1 rfl),(bQ.one hp 2 rfl),rfl,trivial⟩) [(.int .i64 x5.1.kind),lF,nC,(.int .i64 x5.1.conflicts)] rfl ?_
 intro w hp
 have hp:=r5 hp
 refine S hE 1 rfl fun a hE=>aC (aH ?_)
 refine aB (V hE hp rfl (aZ rfl hE rfl (fun w hw=>gQ (cs:=[(.int .i64 x4.vars),iK]) gV (Hp.cN 3 rfl 0 _ (bY rfl) w hw))) fun a hE=>?_)
 obtain⟨x6,ex6,hm⟩:=bnd hm
 refine s_call (wk0 rfl) rfl rfl hE rfl [(.agg #[(.int .i64 x4.vars),iK]),(.slice none 0 0),(.int .i64 65536)] ⟨rfl,rfl,rfl,trivial⟩ ent12 (uC x4 iK vT [] (.slice none 0 0) (bU.nil _) 65536 hp x6 ex6) Ret.ret ?_
 intro v a w hR hE
 obtain⟨nO,nP,yA,rfl,hp⟩:=Ret.of hR
 have hp:=r7 hp
 refine S hE 3 rfl fun a hE=>?_
 refine qB (wk0 rfl) rfl rfl hE hp rfl [(.int .i64 0),(.slice none 0 0),(.slice none 0 0),(.int .i64 0)] (fun w=>by simp[Instr.alloc,go_sem]<;>rfl) ?_
 intro a w b4 hE hp
 have hp:=r8 hp
 refine dM (wk0 rfl) rfl hE hp rfl rfl rfl 0 rfl eY.size_ rfl (bW ⟨rfl,(aA.one hp 1 rfl),(bQ.one hp 2 rfl),rfl,trivial⟩) [(.int .i64 x6.1.kind),nO,nP,(.int .i64 x6.1.conflicts)] rfl ?_
 intro w hp
 have hp:=r8 hp
 refine S hE 1 rfl fun a hE=>aC (aH ?_)
 refine aH (aB ?_)
 refine S hE 3 rfl fun a hE=>?_
 refine kV [_,_,_] (fun a w=>Env 76 [(45,(.bool ((!decide (x5.2=0))||(!decide (x6.2=0))))),(2,(.pointer (some ⟨b1,0,none⟩))),(5,(.pointer (some ⟨b2,0,none⟩))),(6,(.pointer (some ⟨b3,0,none⟩))),(8,(.pointer (some ⟨b4,0,none⟩)))] a∧Hp Z ρ1 (Pt b4 (.cells #[(.int .i64 x6.1.kind),nO,nP,(.int .i64 x6.1.conflicts)] 29 (0,0))::aA 3 nO x6.1.model::bQ 25 3 nP yA (x6.1.proof:(List (List Int)))::Pt b3 (.cells #[(.int .i64 x5.1.kind),lF,nC,(.int .i64 x5.1.conflicts)] 29 (0,0))::aA 3 lF x5.1.model::bQ 25 3 nC xZ (x5.1.proof:(List (List Int)))::Pt b2 (.cells #[(.int .i64 x4.vars),iK] 24 (0,0))::Pt b1 (.cells #[(.int .i64 p0.vars),aG] 24 (0,0))::L) w) ?_ ?_
 ·rcases Bool.eq_false_or_eq_true (!decide (x5.2=0)) with hc5|hc5
  ·
   refine Gk hE hc5 rfl fun a hE=>Gk hE hc5 rfl fun a hE=>pk1 hE hc5 rfl rfl rfl rfl fun a hE=>?_
   have hE:=hE.eqv (v':=(.bool ((!decide (x5.2=0))||(!decide (x6.2=0))))) (by rw[hc5];rfl)
   exact aC ⟨hE.cut ⟨rfl,rfl,rfl,rfl,rfl,trivial⟩,hp⟩
  refine Gs hE hc5 rfl rfl fun a hE=>Gs hE hc5 rfl rfl fun a hE=>pk0 hE hc5 rfl rfl rfl rfl fun a hE=>?_
  have hE:=hE.eqv (v':=(.bool ((!decide (x5.2=0))||(!decide (x6.2=0))))) (by rw[hc5];rfl)
  exact aC ⟨hE.cut ⟨rfl,rfl,rfl,rfl,rfl,trivial⟩,hp⟩
 rintro a w ⟨hE,hp⟩
 refine S hE 1 rfl fun a hE=>?_
 refine kV [_,_,_,_,_,_] (fun a w=>Env 76 [(52,(.bool (((!decide (x5.2=0))||(!decide (x6.2=0)))||(!decide (x5.1.kind=x6.1.kind))))),(2,(.pointer (some ⟨b1,0,none⟩))),(5,(.pointer (some ⟨b2,0,none⟩))),(6,(.pointer (some ⟨b3,0,none⟩))),(8,(.pointer (some ⟨b4,0,none⟩)))] a∧Hp Z ρ1 (Pt b4 (.cells #[(.int .i64 x6.1.kind),nO,nP,(.int .i64 x6.1.conflicts)] 29 (0,0))::aA 3 nO x6.1.model::bQ 25 3 nP yA (x6.1.proof:(List (List Int)))::Pt b3 (.cells #[(.int .i64 x5.1.kind),lF,nC,(.int .i64 x5.1.conflicts)] 29 (0,0))::aA 3 lF x5.1.model::bQ 25 3 nC xZ (x5.1.proof:(List (List Int)))::Pt b2 (.cells #[(.int .i64 x4.vars),iK] 24 (0,0))::Pt b1 (.cells #[(.int .i64 p0.vars),aG] 24 (0,0))::L) w) ?_ ?_
 ·rcases Bool.eq_false_or_eq_true ((!decide (x5.2=0))||(!decide (x6.2=0))) with hc6|hc6
  ·
   refine Gk hE hc6 rfl fun a hE=>Gk hE hc6 rfl fun a hE=>Gk hE hc6 rfl fun a hE=>Gk hE hc6 rfl fun a hE=>Gk hE hc6 rfl fun a hE=>pk1 hE hc6 rfl rfl rfl rfl fun a hE=>?_
   have hE:=hE.eqv (v':=(.bool (((!decide (x5.2=0))||(!decide (x6.2=0)))||(!decide (x5.1.kind=x6.1.kind))))) (by rw[hc6];rfl)
   exact aC ⟨hE.cut ⟨rfl,rfl,rfl,rfl,rfl,trivial⟩,hp⟩
  refine G hE hp hc6 rfl (xf hE tJ rfl rfl) fun a hE=>G hE hp hc6 rfl (xl hE bG 3 rfl rfl rfl rfl) fun a hE=>G hE hp hc6 rfl (xf hE tJ rfl rfl) fun a hE=>G hE hp hc6 rfl (xl hE bG 0 rfl rfl rfl rfl) fun a hE=>Gs hE hc6 rfl rfl fun a hE=>pk0 hE hc6 rfl rfl rfl rfl fun a hE=>?_
  have hE:=hE.eqv (v':=(.bool (((!decide (x5.2=0))||(!decide (x6.2=0)))||(!decide (x5.1.kind=x6.1.kind))))) (by rw[hc6];rfl)
  exact aC ⟨hE.cut ⟨rfl,rfl,rfl,rfl,rfl,trivial⟩,hp⟩
 rintro a w ⟨hE,hp⟩
 refine aC ?_
 refine dQ hE rfl (fun hc7=>?_) (fun hc7=>?_)
 ·replace hm:=(it hc7).symm.trans hm
  refine aH (aB ?_)
  refine S hE 1 rfl fun a hE=>aC (dE ?_)
  obtain rfl:=Option.some.inj hm
  exact iV hE rfl rfl ⟨_,rfl,rfl,((((((((((((((((hp.get 7 rfl).drop).get 6 rfl).drop).get 5 rfl).drop).get 4 rfl).drop).get 3 rfl).drop).get 2 rfl).drop).get 1 rfl).drop).drop).less hle1)⟩
 replace hm:=(ie hc7).symm.trans hm
 refine bT (aH ?_)
 refine aH (aB ?_)
 refine V hE hp rfl (xf hE tJ rfl rfl) fun a hE=>V hE hp rfl (xl hE bG 3 rfl rfl rfl rfl) fun a hE=>S hE 1 rfl fun a hE=>aC ?_
 refine dQ hE rfl (fun hc8=>?_) (fun hc8=>?_)
 ·replace hm:=(it hc8).symm.trans hm
  refine aH (aB ?_)
  refine V hE hp rfl (aZ rfl hE rfl (fun w hw=>gQ (cs:=[(.int .i64 x4.vars),iK]) gV (Hp.cN 6 rfl 0 _ (bY rfl) w hw))) fun a hE=>V hE hp rfl (xf hE xI rfl rfl) fun a hE=>V hE hp rfl (xl hE bK 3 rfl rfl rfl rfl) fun a hE=>?_
  obtain⟨k1,k1a,k1d,k1h⟩:=(hp.get 4 rfl).lend
  obtain⟨x7,ex7,hm⟩:=bnd hm
  refine s_call (wk0 rfl) rfl rfl hE rfl [(.agg #[(.int .i64 x4.vars),iK]),lF] ⟨rfl,rfl,trivial⟩ ent22 (c_cnf_Holds x4 iK (bU.mono vT (PH.le_un _ _)) x5.1.model lF (aA.ro k1d k1a) k1h x7 ex7) Ret.ret ?_
  intro v a w hR hE
  obtain⟨rfl,hp⟩:=Ret.of hR
  have hp:=Hp.back k1a k1d hp
  have hp:=r8 hp
  refine S hE 1 rfl fun a hE=>?_
  obtain⟨m2,hg2,hm⟩:=bnd hm
  refine kV [_,_,_,_,_] (fun a w=>Env 76 [(65,(.bool m2))] a∧Hp Z ρ1 (aA 3 lF x5.1.model::Pt b4 (.cells #[(.int .i64 x6.1.kind),nO,nP,(.int .i64 x6.1.conflicts)] 29 (0,0))::aA 3 nO x6.1.model::bQ 25 3 nP yA (x6.1.proof:(List (List Int)))::Pt b3 (.cells #[(.int .i64 x5.1.kind),lF,nC,(.int .i64 x5.1.conflicts)] 29 (0,0))::bQ 25 3 nC xZ (x5.1.proof:(List (List Int)))::Pt b2 (.cells #[(.int .i64 x4.vars),iK] 24 (0,0))::Pt b1 (.cells #[(.int .i64 p0.vars),aG] 24 (0,0))::L) w) ?_ ?_
  ·rcases Bool.eq_false_or_eq_true x7 with hc9|hc9
   ·
    replace hg2:=(it hc9).symm.trans hg2
    refine G hE hp hc9 rfl (aZ rfl hE rfl (fun w hw=>gQ (cs:=[(.int .i64 p0.vars),aG]) gV (Hp.cN 7 rfl 0 _ (bY rfl) w hw))) fun a hE=>G hE hp hc9 rfl (xf hE xI rfl rfl) fun a hE=>G hE hp hc9 rfl (xl hE bK 1 rfl rfl rfl rfl) fun a hE=>?_
    obtain⟨k2,k2a,k2d,k2h⟩:=(hp.get 2 rfl).lend
    obtain⟨x8,ex8,hg2⟩:=bnd hg2
    refine s_call (wk1 hE rfl rfl rfl hc9) rfl rfl hE rfl [(.agg #[(.int .i64 p0.vars),aG]),nO] ⟨rfl,rfl,trivial⟩ ent22 (c_cnf_Holds p0 aG (bU.mono (bU.mono bI hle1) (PH.le_un _ _)) x6.1.model nO (aA.ro k2d k2a) k2h x8 ex8) Ret.ret ?_
    intro v a w hR hE
    obtain⟨rfl,hp⟩:=Ret.of hR
    have hp:=Hp.back k2a k2d hp
    have hp:=r8 hp
    refine pk1 hE hc9 rfl rfl rfl rfl fun a hE=>?_
    obtain rfl:=Option.some.inj hg2
    exact aC ⟨hE.cut ⟨rfl,trivial⟩,((((((((hp.get 7 rfl).get 7 rfl).get 7 rfl).get 7 rfl).get 7 rfl).get 5 rfl).get 7 rfl).get 7 rfl)⟩
   replace hg2:=(ie hc9).symm.trans hg2
   refine Gk hE hc9 rfl fun a hE=>Gk hE hc9 rfl fun a hE=>Gk hE hc9 rfl fun a hE=>Gk hE hc9 rfl fun a hE=>pk0 hE hc9 rfl rfl rfl rfl fun a hE=>?_
   obtain rfl:=Option.some.inj hg2
   exact aC ⟨hE.cut ⟨rfl,trivial⟩,hp⟩
  rintro a w ⟨hE,hp⟩
  refine S hE 1 rfl fun a hE=>aC (dE ?_)
  obtain rfl:=Option.some.inj hm
  exact iV hE rfl rfl ⟨_,rfl,rfl,((((((((((((((((hp.get 7 rfl).drop).get 6 rfl).drop).get 5 rfl).drop).get 4 rfl).drop).get 3 rfl).drop).get 2 rfl).drop).get 1 rfl).drop).drop).less hle1)⟩
 replace hm:=(ie hc8).symm.trans hm
 refine bT (aH ?_)
 refine aB (V hE hp rfl (aZ rfl hE rfl (fun w hw=>gQ (cs:=[(.int .i64 x4.vars),iK]) gV (Hp.cN 6 rfl 0 _ (bY rfl) w hw))) fun a hE=>?_)
 refine V hE hp rfl (xf hE fldty29_2 rfl rfl) fun a hE=>V hE hp rfl (xl hE mF 3 rfl rfl rfl rfl) fun a hE=>?_
 obtain⟨k3,k3a,k3d,k3h⟩:=(hp.get 5 rfl).lend
 obtain⟨x9,ex9,hm⟩:=bnd hm
 refine s_call (wk0 rfl) rfl rfl hE rfl [(.agg #[(.int .i64 x4.vars),iK]),nC] ⟨rfl,rfl,trivial⟩ ent21 (yR x4 iK (bU.mono vT (PH.le_un _ _)) x5.1.proof nC (bQ.ro k3d k3a) k3h x9 ex9) Ret.ret ?_
 intro v a w hR hE
 obtain⟨rfl,hp⟩:=Ret.of hR
 have hp:=Hp.back k3a k3d hp
 have hp:=r8 hp
 refine S hE 1 rfl fun a hE=>?_
 obtain⟨m3,hg3,hm⟩:=bnd hm
 refine kV [_,_,_,_,_] (fun a w=>Env 76 [(75,(.bool m3))] a∧Hp Z ρ1 (bQ 25 3 nC xZ (x5.1.proof:(List (List Int)))::Pt b4 (.cells #[(.int .i64 x6.1.kind),nO,nP,(.int .i64 x6.1.conflicts)] 29 (0,0))::aA 3 nO x6.1.model::bQ 25 3 nP yA (x6.1.proof:(List (List Int)))::Pt b3 (.cells #[(.int .i64 x5.1.kind),lF,nC,(.int .i64 x5.1.conflicts)] 29 (0,0))::aA 3 lF x5.1.model::Pt b2 (.cells #[(.int .i64 x4.vars),iK] 24 (0,0))::Pt b1 (.cells #[(.int .i64 p0.vars),aG] 24 (0,0))::L) w) ?_ ?_
 ·rcases Bool.eq_false_or_eq_true x9 with hc10|hc10
  ·
   replace hg3:=(it hc10).symm.trans hg3
   refine G hE hp hc10 rfl (aZ rfl hE rfl (fun w hw=>gQ (cs:=[(.int .i64 x4.vars),iK]) gV (Hp.cN 6 rfl 0 _ (bY rfl) w hw))) fun a hE=>G hE hp hc10 rfl (xf hE fldty29_2 rfl rfl) fun a hE=>G hE hp hc10 rfl (xl hE mF 1 rfl rfl rfl rfl) fun a hE=>?_
   obtain⟨k4,k4a,k4d,k4h⟩:=(hp.get 3 rfl).lend
   obtain⟨x10,ex10,hg3⟩:=bnd hg3
   refine s_call (wk1 hE rfl rfl rfl hc10) rfl rfl hE rfl [(.agg #[(.int .i64 x4.vars),iK]),nP] ⟨rfl,rfl,trivial⟩ ent21 (yR x4 iK (bU.mono vT (PH.le_un _ _)) x6.1.proof nP (bQ.ro k4d k4a) k4h x10 ex10) Ret.ret ?_
   intro v a w hR hE
   obtain⟨rfl,hp⟩:=Ret.of hR
   have hp:=Hp.back k4a k4d hp
   have hp:=r8 hp
   refine pk1 hE hc10 rfl rfl rfl rfl fun a hE=>?_
   obtain rfl:=Option.some.inj hg3
   exact aC ⟨hE.cut ⟨rfl,trivial⟩,((((((((hp.get 7 rfl).get 7 rfl).get 7 rfl).get 7 rfl).get 4 rfl).get 7 rfl).get 7 rfl).get 7 rfl)⟩
  replace hg3:=(ie hc10).symm.trans hg3
  refine Gk hE hc10 rfl fun a hE=>Gk hE hc10 rfl fun a hE=>Gk hE hc10 rfl fun a hE=>Gk hE hc10 rfl fun a hE=>pk0 hE hc10 rfl rfl rfl rfl fun a hE=>?_
  obtain rfl:=Option.some.inj hg3
  exact aC ⟨hE.cut ⟨rfl,trivial⟩,hp⟩
 rintro a w ⟨hE,hp⟩
 refine S hE 1 rfl fun a hE=>aC (dE ?_)
 obtain rfl:=Option.some.inj hm
 exact iV hE rfl rfl ⟨_,rfl,rfl,((((((((((((((((hp.get 7 rfl).drop).get 6 rfl).drop).get 5 rfl).drop).get 4 rfl).drop).get 3 rfl).drop).get 2 rfl).drop).get 1 rfl).drop).drop).less hle1)⟩
open Vl (vl)
section
variable {β:Type}
end
def MapU {β:Type} [Vl β] (b:Nat) (l:List (Int×β)):bV:=fun h=>∃l',pJ b l' h∧l'.Perm l
section
variable {Rn:Option Nat} {P:Program} {ops:Array Oper} {Q:Exit→Act→World→Prop} {rest:List Oper} {o:Oper} {a:Act} {w:World} {Df:List Deferred} {N:Nat} {E:Ent} {d:Nat} {Z:World} {ρ:PH} {L:List bV}
variable {β:Type} [Vl β] {b:Nat} {l:List (Int×β)}
theorem MapU.of (h:Hp Z ρ (pJ b l::L) w):Hp Z ρ (MapU b l::L) w:=h.imp fun _ k=>⟨l,k,List.Perm.refl _⟩
theorem MapU.shut {l':List (Int×β)} (h:Hp Z ρ (pJ b l'::L) w) (hp:l'.Perm l):Hp Z ρ (MapU b l::L) w:=h.imp fun _ k=>⟨l',k,hp⟩
theorem MapU.open_ (h:Hp Z ρ (MapU b l::L) w):∃l',Hp Z ρ (pJ b l'::L) w∧l'.Perm l∧(l'.map (·.1)).Nodup:=by
 obtain⟨l',h1⟩:=Hp.ex (A:=fun l' k=>pJ b l' k∧l'.Perm l) h
 obtain⟨h2,hp⟩:=Hp.fact (A:=pJ b l') h1
 obtain⟨es,clock,_,e⟩:=h2.map
 exact⟨l',h2,hp,e.keys⟩
end
theorem loop_at {σ β:Type} {body:σ→Option (Step σ β)} {b:β} (S:Nat→σ):∀(n:Nat),(∀k,k<n→body (S k)=some (.next (S (k+1))))→body (S n)=some (.done b)→dD body (S 0)=some b
 |0,_,h=>dX h
 |n+1,h1,h2=>by
  rw[fM (h1 0 (by omega))]
  exact loop_at (fun k=>S (k+1)) n (fun k hk=>h1 (k+1) (by omega)) h2
theorem loop_from {σ β:Type} {body:σ→Option (Step σ β)} {b:β} {s:σ} (S:Nat→σ) (n:Nat) (h0:s=S 0) (h1:∀k,k<n→body (S k)=some (.next (S (k+1)))) (h2:body (S n)=some (.done b)):dD body s=some b:=by
 rw[h0];exact loop_at S n h1 h2
theorem iZ {n:Int} (h: -9223372036854775808≤n∧n≤9223372036854775807):inK .i64 n=some n:=inK_ok n h.1 h.2
theorem dA {α:Type} {l:List α} {k:Nat} {a:α} (h:l[k]?=some a):idx l (k:Int)=some a:=by
 unfold idx;rw[if_pos (by omega)];simpa using h
theorem jO {α:Type} {l:List α} {i:Int} {a:α} (h0:0≤i) (h:l[i.toNat]?=some a):idx l i=some a:=by
 unfold idx;rw[if_pos h0,h]
theorem bJ {α:Type} {l:List α} {k:Nat} (h:k<l.length):∃a,l[k]?=some a:=⟨_,List.getElem?_eq_getElem h⟩
theorem pK {α:Type} {l m:List α} (h:l.length+m.length≤4294967296):app l m=some (l++m):=by unfold app;rw[if_pos h]
theorem wH {α:Type} {l:List α} {i j:Int} (h0:0≤i) (h1:i≤j) (h2:j≤l.length):sub l i j=some ((l.take j.toNat).drop i.toNat):=by unfold sub;rw[if_pos ⟨h0,h1,h2⟩]
theorem quoK_pos {m n:Int} (hm:0≤m) (hn:0<n) (h:m≤9223372036854775807):quoK .i64 m n=some (m / n):=by
 unfold quoK
 have h1:m.tdiv n=m / n:=Int.tdiv_eq_ediv_of_nonneg hm
 have h2:0≤m / n:=Int.ediv_nonneg hm (by omega)
 have h3:m / n≤m:=Int.ediv_le_self n hm
 rw[h1,if_pos ⟨by omega,by rw[IntKind.wrap_i64];omega⟩]
theorem mkc_ok {α:Type} {n c:Int} {z:α} (h:0≤n∧n≤c∧c≤4294967296):mkc n c z=some (List.replicate n.toNat z):=by unfold mkc;rw[if_pos h]
theorem I64.r {n:Int} (h:(Lit.int .i64 n).wf=true): -9223372036854775808≤n∧n≤9223372036854775807:=by
 simp[Lit.wf,IntKind.min,IntKind.max,IntKind.signed,IntKind.bits] at h
 exact⟨by omega,by omega⟩
theorem U8.r {n:Int} (h:(Lit.int .u8 n).wf=true):0≤n∧n≤255:=by
 simp[Lit.wf,IntKind.min,IntKind.max,IntKind.signed,IntKind.bits] at h
 omega
theorem first_or {α:Type} (p:α→Bool):∀(l:List α),(∃k a,l[k]?=some a∧p a=true∧(∀j b,j<k→l[j]?=some b→p b=false)∧l.any p=true∧l.findIdx p=k)∨((∀a∈l,p a=false)∧l.any p=false∧l.findIdx p=l.length)
 | []=>Or.inr ⟨by simp,rfl,rfl⟩
 |x::l=>by
  cases hx:p x with
  |true=>exact Or.inl ⟨0,x,rfl,hx,fun j b hj=>by omega,by simp[hx],by simp[List.findIdx_cons,hx]⟩
  |false=>
   rcases first_or p l with⟨k,a,h1,h2,h3,h4,h5⟩|⟨h1,h2,h3⟩
   ·refine Or.inl ⟨k+1,a,by simpa using h1,h2,fun j b hj hb=>?_,by simp[hx,h4],by simp[List.findIdx_cons,hx,h5]⟩
    cases j with
    |zero=>simp at hb;subst hb;exact hx
    |succ j=>exact h3 j b (by omega) (by simpa using hb)
   refine Or.inr ⟨fun a ha=>?_,by simp[hx,h2],by simp[List.findIdx_cons,hx,h3]⟩
   rcases List.mem_cons.1 ha with rfl|ha
   ·exact hx
   exact h1 a ha
theorem scan_loop {α β:Type} {body:Int→Option (Step Int β)} (l:List α) (p:α→Bool) (hit:Nat→α→β) (miss:β)
  (h1:∀(k:Nat) a,l[k]?=some a→body k=some (if p a=true then .done (hit k a) else .next ((k+1:Nat):Int))) (h2:body (l.length:Int)=some (.done miss)):
  (∃k a,l[k]?=some a∧p a=true∧(∀j b,j<k→l[j]?=some b→p b=false)∧l.any p=true∧l.findIdx p=k∧dD body 0=some (hit k a))∨((∀a∈l,p a=false)∧l.any p=false∧l.findIdx p=l.length∧dD body 0=some miss):=by
 rcases first_or p l with⟨k,a,a1,a2,a3,a4,a5⟩|⟨a1,a2,a3⟩
 ·refine Or.inl ⟨k,a,a1,a2,a3,a4,a5,loop_from (fun j=>(j:Int)) k rfl (fun j hj=>?_) ?_⟩
  ·obtain⟨b,hb⟩:=bJ (show j<l.length by have:=(List.getElem?_eq_some_iff.1 a1).1;omega)
   rw[h1 j b hb,a3 j b hj hb];rfl
  rw[h1 k a a1,a2];rfl
 refine Or.inr ⟨a1,a2,a3,loop_from (fun j=>(j:Int)) l.length rfl (fun j hj=>?_) h2⟩
 obtain⟨b,hb⟩:=bJ hj
 rw[h1 j b hb,a1 b (List.mem_of_getElem? hb)];rfl
theorem any_loop {α β:Type} {body:Int→Option (Step Int β)} (l:List α) (p:α→Bool) (hit miss:β)
  (h1:∀(k:Nat) a,l[k]?=some a→body k=some (if p a=true then .done hit else .next ((k+1:Nat):Int))) (h2:body (l.length:Int)=some (.done miss)):dD body 0=some (if l.any p=true then hit else miss):=by
 rcases scan_loop l p (fun _ _=>hit) miss h1 h2 with⟨k,a,_,_,_,h,_,e⟩|⟨_,h,_,e⟩
 ·rw[e,h];rfl
 rw[e,h];rfl
theorem same_loop {α β:Type} [DecidableEq α] {body:Int→Option (Step Int β)} {a b:List α} (hl:a.length=b.length) (hit miss:β)
  (h1:∀(k:Nat) x y,a[k]?=some x→b[k]?=some y→body k=some (if x=y then .next ((k+1:Nat):Int) else .done hit)) (h2:body (a.length:Int)=some (.done miss)):dD body 0=some (if a=b then miss else hit):=by
 have hzl:(a.zip b).length=a.length:=by rw[List.length_zip];omega
 have hz:(a.zip b).any (fun p=>decide (p.1≠p.2))=decide (a≠b):=by
  clear h1 h2 hzl
  induction a generalizing b with
  |nil=>cases b with
   |nil=>simp
   |cons y b=>simp at hl
  |cons x a ih=>cases b with
   |nil=>simp at hl
   |cons y b=>
    simp only[List.length_cons,Nat.add_right_cancel_iff] at hl
    simp only[List.zip_cons_cons,List.any_cons,ih hl,ne_eq,List.cons.injEq]
    by_cases hx:x=y<;>by_cases hb:a=b<;>simp[hx,hb]
 have:=any_loop (body:=body) (a.zip b) (fun p=>decide (p.1≠p.2)) hit miss (fun k p hp=>by
  obtain⟨x,y⟩:=p
  have hk:=(List.getElem?_eq_some_iff.1 hp).1
  rw[hzl] at hk
  obtain⟨x',hx⟩:=bJ hk
  obtain⟨y',hy⟩:=bJ (show k<b.length by omega)
  rw[List.getElem?_zip_eq_some] at hp
  rw[h1 k x y hp.1 hp.2]
  by_cases h:x=y<;>simp[h]) (by rw[hzl];exact h2)
 rw[this,hz]
 by_cases h:a=b<;>simp[h]
theorem zF {α β γ:Type} {body:Int→Option (Step Int β)} {f:β→Option γ} {r:Option γ} (l:List α) (p:α→Bool) (hit miss:β)
  (h1:∀(k:Nat) a,l[k]?=some a→body k=some (if p a=true then .done hit else .next ((k+1:Nat):Int))) (h2:body (l.length:Int)=some (.done miss)) (hf:f (if l.any p=true then hit else miss)=r):(dD body 0).bind f=r:=by
 rw[any_loop l p hit miss h1 h2];exact hf
theorem bind_same {α β γ:Type} [DecidableEq α] {body:Int→Option (Step Int β)} {f:β→Option γ} {r:Option γ} {a b:List α} (hl:a.length=b.length) (hit miss:β)
  (h1:∀(k:Nat) x y,a[k]?=some x→b[k]?=some y→body k=some (if x=y then .next ((k+1:Nat):Int) else .done hit)) (h2:body (a.length:Int)=some (.done miss)) (hf:f (if a=b then miss else hit)=r):(dD body 0).bind f=r:=by
 rw[same_loop hl hit miss h1 h2];exact hf
theorem xB {α:Type} {l:List α} {k:Nat} {a:α} (h:l[k]?=some a):l.drop k=a::l.drop (k+1):=by
 obtain⟨h1,h2⟩:=List.getElem?_eq_some_iff.1 h
 rw[←h2];exact List.drop_eq_getElem_cons h1
theorem eX {α:Type} {l:List α} {k:Nat} {a:α} (h:l[k]?=some a):l.take (k+1)=l.take k++[a]:=by
 obtain⟨h1,h2⟩:=List.getElem?_eq_some_iff.1 h
 rw[←h2];exact List.take_succ_eq_append_getElem h1
theorem rising_ext {α:Type} {r:α→α→Prop} (irr:∀a,¬r a a) (tr:∀a b c,r a b→r b c→r a c):∀{l m:List α},l.Pairwise r→m.Pairwise r→(∀x,x∈l↔x∈m)→l=m
 | [],[],_,_,_=>rfl
 | [],b::m,_,_,h=>by have:=(h b).2 (List.mem_cons_self ..);simp at this
 |a::l,[],_,_,h=>by have:=(h a).1 (List.mem_cons_self ..);simp at this
 |a::l,b::m,hl,hm,h=>by
  obtain⟨l1,l2⟩:=List.pairwise_cons.1 hl
  obtain⟨m1,m2⟩:=List.pairwise_cons.1 hm
  have e:a=b:=by
   rcases List.mem_cons.1 ((h a).1 (List.mem_cons_self ..)) with e|h1
   ·exact e
   rcases List.mem_cons.1 ((h b).2 (List.mem_cons_self ..)) with e|h2
   ·exact e.symm
   exact absurd (tr _ _ _ (m1 a h1) (l1 b h2)) (irr b)
  subst e
  congr 1
  refine rising_ext irr tr l2 m2 fun x=>?_
  constructor
  ·intro hx
   rcases List.mem_cons.1 ((h x).1 (List.mem_cons_of_mem _ hx)) with e|h1
   ·subst e;exact absurd (l1 x hx) (irr x)
   exact h1
  intro hx
  rcases List.mem_cons.1 ((h x).2 (List.mem_cons_of_mem _ hx)) with e|h1
  ·subst e;exact absurd (m1 x hx) (irr x)
  exact h1
theorem mget_mput {κ β:Type} [DecidableEq κ] (l:List (κ×β)) (k x:κ) (v:β):lX (uJ l k v) x=if x=k then some v else lX l x:=by
 induction l with
 |nil=>by_cases h:k=x<;>simp[uJ,lX,h,eq_comm]
 |cons p l ih=>
  unfold uJ
  by_cases h:p.1=k
  ·rw[if_pos h]
   by_cases hx:x=k
   ·subst hx;simp[lX]
   have h1:¬k=x:=fun e=>hx e.symm
   have h2:¬p.1=x:=fun e=>hx (e.symm.trans h)
   simp[lX,List.find?_cons,hx,h1,h2]
  rw[if_neg h]
  by_cases hx:p.1=x
  ·have h3:¬x=k:=fun e=>h (hx.trans e)
   simp[lX,List.find?_cons,hx,h3]
  unfold lX at ih⊢
  rw[List.find?_cons_of_neg (by simpa using hx),List.find?_cons_of_neg (by simpa using hx)]
  exact ih
def runL {α τ β:Type} (f:α→τ→Step τ β) (g:τ→β):List α→τ→β
 | [],t=>g t
 |a::l,t=>match f a t with
  | .next t'=>runL f g l t'
  | .done b=>b
theorem loopL {α τ S β:Type} {body:S→Option (Step S β)} {s0:S} (l:List α) (E:Nat→τ→S) (f:α→τ→Step τ β) (g:τ→β) (I:Nat→τ→Prop) {t0:τ} (hs0:s0=E 0 t0) (h0:I 0 t0)
  (hs:∀k a t,l[k]?=some a→I k t→body (E k t)=some (match f a t with| .next t'=> .next (E (k+1) t')| .done b=> .done b)∧(∀t',f a t= .next t'→I (k+1) t'))
  (he:∀t,I l.length t→body (E l.length t)=some (.done (g t))):dD body s0=some (runL f g l t0):=by
 have key:∀(m k:Nat) (t:τ),k+m=l.length→I k t→dD body (E k t)=some (runL f g (l.drop k) t):=by
  intro m
  induction m with
  |zero=>
   intro k t hk hi
   have hk:k=l.length:=by omega
   subst hk
   rw[dX (he t hi),List.drop_length];rfl
  |succ m ih=>
   intro k t hk hi
   obtain⟨a,ha⟩:=bJ (show k<l.length by omega)
   obtain⟨h1,h2⟩:=hs k a t ha hi
   rw[xB ha]
   unfold runL
   cases hf:f a t with
   |next t'=>
    rw[hf] at h1
    rw[fM h1]
    exact ih (k+1) t' (by omega) (h2 t' hf)
   |done b=>
    rw[hf] at h1
    exact dX h1
 rw[hs0]
 simpa using key l.length 0 t0 (by omega) h0
theorem xA {τ S β:Type} {body:S→Option (Step S β)} {s0:S} (n:Nat) (E:Nat→τ→S) (I:Nat→τ→Prop) (Post:β→Prop) {t0:τ} (hs0:s0=E 0 t0) (h0:I 0 t0)
  (hs:∀k t,k<n→I k t→(∃t',body (E k t)=some (.next (E (k+1) t'))∧I (k+1) t')∨(∃b,body (E k t)=some (.done b)∧Post b))
  (he:∀t,I n t→∃b,body (E n t)=some (.done b)∧Post b):∃b,dD body s0=some b∧Post b:=by
 have key:∀(m k:Nat) (t:τ),k+m=n→I k t→∃b,dD body (E k t)=some b∧Post b:=by
  intro m
  induction m with
  |zero=>
   intro k t hk hi
   obtain rfl:k=n:=by omega
   obtain⟨b,h1,h2⟩:=he t hi
   exact⟨b,dX h1,h2⟩
  |succ m ih=>
   intro k t hk hi
   rcases hs k t (by omega) hi with⟨t',h1,h2⟩|⟨b,h1,h2⟩
   ·obtain⟨b,h3,h4⟩:=ih (k+1) t' (by omega) h2
    exact⟨b,by rw[fM h1];exact h3,h4⟩
   exact⟨b,dX h1,h2⟩
 rw[hs0]
 exact key n 0 t0 (by omega) h0
theorem bsm {α β:Type} (a:α) (f:α→Option β):(some a).bind f=f a:=Eq.trans (congrArg (fun x=>Option.bind x f) (Eq.refl (some a))) rfl
theorem dB {α:Type} {l:List α} {k:Nat} {a:α} (h:l[k]?=some a):k<l.length:=(List.getElem?_eq_some_iff.1 h).1
theorem bM {α:Type} {l:List α} {k:Nat} {a:α} (h:l[k]?=some a):a∈l:=List.mem_of_getElem? h
theorem jP {k:Nat} {n:Nat} (h:k<n) (hn:n≤9223372036854775807):inK .i64 ((k:Int)+1)=some ((k+1:Nat):Int):=by
 rw[iZ ⟨by omega,by omega⟩];rfl
theorem pO {n m:Int} (e:n=m) (h: -9223372036854775808≤m∧m≤9223372036854775807):inK .i64 n=some m:=by rw[e];exact iZ h
theorem ltB {k n:Nat} (h:k<n):(decide ((k:Int)<(n:Int)))=true:=by simpa using h
theorem tC {n:Nat}:¬(decide ((n:Int)<(n:Int)))=true:=by simp
theorem jC (l:Int):0≤vr l:=by unfold vr;omega
theorem kQ (l:Int):vr (-l)=vr l:=by unfold vr;omega
theorem zU (l:Int):l=vr l∨l= -vr l:=by unfold vr;omega
theorem nY {l:Int}:vr l=0↔l=0:=by unfold vr;omega
theorem Z4 {l m:Int}:vr l=vr m↔l=m∨l= -m:=by unfold vr;omega
theorem nD {l v:Int}:vr l≤v↔ -v≤l∧l≤v:=by unfold vr;omega
def clF (v:Int):Int→List Int→Bool
 |_,[]=>true
 |last,l::r=>decide (-v≤l)&&decide (l≤v)&&decide (last<vr l)&&clF v (vr l) r
theorem var_ok {l:Int} (h: -9223372036854775807≤l∧l≤9223372036854775807):nU l=some (vr l):=by
 unfold nU;rw[iZ (by omega)];rfl
theorem rvar_ok {l:Int} (h: -9223372036854775807≤l∧l≤9223372036854775807):iT l=some (vr l):=by
 unfold iT
 by_cases h0:l<0
 ·rw[if_pos (by simpa using h0),iZ (by omega)]
  simp only[bsm];congr 1;unfold vr;omega
 rw[if_neg (by simpa using h0)];congr 1;unfold vr;omega
def stCl (v l last:Int):Step Int (Out Unit Bool):=if((decide (l< -v))||(decide (v<l))||(decide (vr l≤last)))=true then Step.done (Out.ret false) else Step.next (vr l)
theorem cnf_normal {c:List Int} {v:Int} (hv:0≤v∧v≤1099511627776) (hc:c.length≤9223372036854775807):uI c v=some (clF v 0 c):=by
 unfold uI
 have h:=loopL (body:=fun s:Int×Int=>pR c v s.1 s.2) (s0:=((0:Int),(0:Int))) c (fun k t=>(t,(k:Int)))
  (stCl v) (fun _=>Out.brk ()) (fun _ _=>True) (t0:=(0:Int)) rfl trivial ?_ ?_
 ·rw[h]
  simp only[bsm]
  generalize (0:Int)=t
  clear h
  induction c generalizing t with
  |nil=>simp[runL,clF]
  |cons l r ih=>
   have ih:=ih (by simp only[List.length_cons] at hc;omega)
   unfold runL stCl clF
   by_cases hb:((decide (l< -v))||(decide (v<l))||(decide (vr l≤t)))=true
   ·rw[if_pos hb]
    simp only[Bool.or_eq_true,decide_eq_true_eq] at hb
    have:(decide (-v≤l)&&decide (l≤v)&&decide (t<vr l))=false:=by
     simp only[Bool.and_eq_false_iff,decide_eq_false_iff_not];omega
    simp[this]
   rw[if_neg hb]
   simp only[Bool.or_eq_true,decide_eq_true_eq,not_or] at hb
   have:(decide (-v≤l)&&decide (l≤v)&&decide (t<vr l))=true:=by
    simp only[Bool.and_eq_true,decide_eq_true_eq];omega
   rw[this,Bool.true_and]
   exact ih (vr l)
 ·intro k a t hk _
  refine⟨?_,fun _ _=>trivial⟩
  simp only[pR,stCl]
  rw[if_pos (ltB (dB hk)),dA hk]
  simp only[bsm]
  rw[iZ (by omega)]
  simp only[bsm,Int.zero_sub]
  by_cases h1:(decide (a< -v)||decide (v<a))=true
  ·simp[h1]
  rw[if_neg h1]
  simp only[Bool.or_eq_true,decide_eq_true_eq,not_or] at h1
  rw[var_ok (by omega)]
  have h1':(decide (a< -v)||decide (v<a))=false:=by simp;omega
  simp only[bsm,h1',Bool.false_or]
  by_cases h2:vr a≤t
  ·simp[h2]
  simp[h2,jP (dB hk) hc]
 intro t _
 simp only[pR]
 rw[if_neg tC]
theorem in1:inK .i64 1=some 1:=iZ ⟨by decide,by decide⟩
theorem runL_clF {c:List Int} {v t:Int} (ht:0≤t):(match runL (stCl v) (fun _=>(Out.brk ():Out Unit Bool)) c t with| .brk _=>true| .ret r=>r)=clF v t c:=by
 induction c generalizing t with
 |nil=>simp[runL,clF]
 |cons l r ih=>
  unfold runL stCl clF
  by_cases hb:((decide (l< -v))||(decide (v<l))||(decide (vr l≤t)))=true
  ·rw[if_pos hb]
   simp only[Bool.or_eq_true,decide_eq_true_eq] at hb
   have:(decide (-v≤l)&&decide (l≤v)&&decide (t<vr l))=false:=by
    simp only[Bool.and_eq_false_iff,decide_eq_false_iff_not];omega
   simp[this]
  rw[if_neg hb]
  simp only[Bool.or_eq_true,decide_eq_true_eq,not_or] at hb
  have:(decide (-v≤l)&&decide (l≤v)&&decide (t<vr l))=true:=by
   simp only[Bool.and_eq_true,decide_eq_true_eq];omega
  rw[this,Bool.true_and]
  exact ih (jC l)
theorem aG4 {c:List Int} {v:Int} (hv:0≤v∧v≤1099511627776) (hc:c.length≤9223372036854775807):iR c v=some (clF v 0 c):=by
 unfold iR
 have h:=loopL (body:=fun s:Int=>iO c v s) (s0:=(0:Int)) c (fun k t=>(k:Int))
  (stCl v) (fun _=>Out.brk ())
  (fun k t=>(k=0∧t=0)∨(0<k∧∃b,c[k-1]?=some b∧t=vr b∧ -v≤b∧b≤v)) (t0:=(0:Int)) rfl (Or.inl ⟨rfl,rfl⟩) ?_ ?_
 ·rw[h]
  simp only[bsm]
  rw[←runL_clF (c:=c) (v:=v) (t:=0) (Int.le_refl 0)]
  generalize runL (stCl v) (fun _=>Out.brk ()) c 0=o
  cases o<;>rfl
 ·intro k a t hk hI
  refine⟨?_,fun t' ht'=>?_⟩
  ·simp only[iO,stCl]
   rw[if_pos (ltB (dB hk)),dA hk]
   simp only[bsm]
   rw[iZ (show -9223372036854775808≤0-v∧0-v≤9223372036854775807 by omega)]
   have ht:0≤t:=by
    rcases hI with⟨_,rfl⟩|⟨_,b,_,rfl,_⟩
    ·omega
    exact jC b
   by_cases h0:a=0
   ·have:vr a≤t:=by rw[nY.2 h0];exact ht
    simp[h0]
    rw[h0] at this;simp[this]
   by_cases h1:a< -v
   ·simp[h0,h1]
   by_cases h2:v<a
   ·simp[h0,h1,h2]
   have h3:(decide (a< -v)||decide (v<a))=false:=by simp;omega
   rcases hI with⟨rfl,rfl⟩|⟨hk0,b,hb,rfl,hb1,hb2⟩
   ·have:¬vr a≤0:=fun h=>h0 (nY.1 (by have:=jC a;omega))
    simp[h0,h1,h2,this,in1]
   have e1:inK .i64 ((k:Int)-1)=some ((k-1:Nat):Int):=by
    rw[iZ ⟨by omega,by have:=dB hk;omega⟩];congr 1;omega
   rw[rvar_ok (by omega)]
   simp only[bsm]
   simp[h0,h1,h2,show 0<k from hk0,e1,dA hb,rvar_ok (show -9223372036854775807≤b∧b≤9223372036854775807 by omega),jP (dB hk) hc]
   by_cases h4:vr a≤vr b
   ·simp[h4]
   simp[h4]
  refine Or.inr ⟨by omega,a,by simpa using hk,?_⟩
  unfold stCl at ht'
  by_cases hb:((decide (a< -v))||(decide (v<a))||(decide (vr a≤t)))=true
  ·rw[if_pos hb] at ht';cases ht'
  rw[if_neg hb] at ht'
  simp only[Bool.or_eq_true,decide_eq_true_eq,not_or] at hb
  exact⟨(Step.next.inj ht').symm,by omega,by omega⟩
 intro t _
 simp only[iO]
 rw[if_neg tC]
def kP (f:Formula):Bool:=decide (0≤f.vars)&&decide (f.vars≤65536)&&decide (f.clauses.length≤262144)&&f.clauses.all (clF f.vars 0)
def FLen (cs:List (List Int)):Prop:=cs.length≤9223372036854775807∧∀c∈cs,c.length≤9223372036854775807
theorem vN {α:Type} (p:α→Bool) (l:List α):(if l.any (fun a=> !p a)=true then(Out.ret false:Out Unit Bool) else Out.brk ())=(if l.all p=true then Out.brk () else Out.ret false):=by
 have:l.any (fun a=> !p a)= !l.all p:=by simp[List.all_eq_not_any_not]
 rw[this];cases l.all p<;>rfl
theorem validB_pre (f:Formula) (hp:¬(((decide (f.vars<0))||(decide (65536<f.vars)))||(decide (262144<(f.clauses.length:Int))))=true):kP f=f.clauses.all (clF f.vars 0):=by
 simp only[Bool.or_eq_true,decide_eq_true_eq,not_or] at hp
 unfold kP
 have:(decide (0≤f.vars)&&decide (f.vars≤65536)&&decide (f.clauses.length≤262144))=true:=by simp only[Bool.and_eq_true,decide_eq_true_eq];omega
 rw[this,Bool.true_and]
theorem validB_no (f:Formula) (hp:(((decide (f.vars<0))||(decide (65536<f.vars)))||(decide (262144<(f.clauses.length:Int))))=true):kP f=false:=by
 simp only[Bool.or_eq_true,decide_eq_true_eq] at hp
 unfold kP
 have:(decide (0≤f.vars)&&decide (f.vars≤65536)&&decide (f.clauses.length≤262144))=false:=by
  simp only[Bool.and_eq_false_iff,decide_eq_false_iff_not];omega
 rw[this,Bool.false_and]
theorem cnf_valid {f:Formula} (hl:FLen f.clauses):qX f=some (kP f):=by
 unfold qX
 by_cases hp:(((decide (f.vars<0))||(decide (65536<f.vars)))||(decide (262144<(f.clauses.length:Int))))=true
 ·rw[if_pos hp,validB_no f hp]
 rw[if_neg hp,validB_pre f hp]
 have hp':=hp
 simp only[Bool.or_eq_true,decide_eq_true_eq,not_or] at hp'
 refine zF f.clauses (fun c=> !clF f.vars 0 c) (Out.ret false) (Out.brk ()) ?_ ?_ ?_
 ·intro k a hk
  simp only[sK]
  rw[if_pos (ltB (dB hk)),dA hk]
  simp only[bsm]
  rw[cnf_normal ⟨by omega,by omega⟩ (hl.2 a (bM hk)),jP (dB hk) hl.1]
  cases clF f.vars 0 a<;>rfl
 ·simp only[sK]
  rw[if_neg tC]
 rw[vN]
 cases f.clauses.all (clF f.vars 0)<;>rfl
theorem ref_valid {f:Formula} (hl:FLen f.clauses):lQ f=some (kP f):=by
 unfold lQ
 by_cases hp:(((decide (f.vars<0))||(decide (65536<f.vars)))||(decide (262144<(f.clauses.length:Int))))=true
 ·rw[if_pos hp,validB_no f hp]
 rw[if_neg hp,validB_pre f hp]
 have hp':=hp
 simp only[Bool.or_eq_true,decide_eq_true_eq,not_or] at hp'
 refine zF f.clauses (fun c=> !clF f.vars 0 c) (Out.ret false) (Out.brk ()) ?_ ?_ ?_
 ·intro k a hk
  simp only[lK]
  rw[if_pos (ltB (dB hk)),dA hk]
  simp only[bsm]
  rw[aG4 ⟨by omega,by omega⟩ (hl.2 a (bM hk)),jP (dB hk) hl.1]
  cases clF f.vars 0 a<;>rfl
 ·simp only[lK]
  rw[if_neg tC]
 rw[vN]
 cases f.clauses.all (clF f.vars 0)<;>rfl
theorem lists_equal (a b:List Int) (ha:a.length≤9223372036854775807):kS a b=some (decide (a=b)):=by
 unfold kS
 by_cases hl:a.length=b.length
 ·rw[if_neg (by simp[hl])]
  refine bind_same hl (Out.ret false) (Out.brk ()) ?_ ?_ ?_
  ·intro k x y hx hy
   simp only[kU]
   rw[if_pos (ltB (dB hx)),dA hx,dA hy]
   simp only[bsm]
   rw[jP (dB hx) ha]
   by_cases h:x=y<;>simp[h]
  ·simp only[kU]
   rw[if_neg tC]
  by_cases h:a=b<;>simp[h]
 rw[if_pos (by simp;omega)]
 have:a≠b:=fun e=>hl (by rw[e])
 simp[this]
theorem Formula.ext_ {f g:Formula} (h1:f.vars=g.vars) (h2:f.clauses=g.clauses):f=g:=by
 obtain⟨a,b⟩:=f;obtain⟨c,d⟩:=g;simp at h1 h2;rw[h1,h2]
instance:DecidableEq Formula:=fun f g=>if h:f.vars=g.vars∧f.clauses=g.clauses then isTrue (Formula.ext_ h.1 h.2) else isFalse (fun e=>h (by rw[e];exact⟨rfl,rfl⟩))
def smallB (f:Formula) (v n:Int):Bool:=f.clauses.all (fun c=>decide (c.length≤30))&&decide (f.vars≤v)&&decide ((f.clauses.length:Int)≤n)
theorem small_eq (f:Formula) (v n:Int) (hl:f.clauses.length≤9223372036854775807):lN f v n=some (smallB f v n):=by
 unfold lN smallB
 refine zF f.clauses (fun c=> !decide (c.length≤30)) (Out.ret false) (Out.brk ()) ?_ ?_ ?_
 ·intro k a hk
  simp only[lJ]
  rw[if_pos (ltB (dB hk)),dA hk]
  simp only[bsm]
  rw[jP (dB hk) hl]
  by_cases h:a.length≤30
  ·rw[if_neg (by simp;omega)];simp[h]
  rw[if_pos (by simp;omega)];simp[h]
 ·simp only[lJ]
  rw[if_neg tC]
 rw[vN]
 cases f.clauses.all (fun c=>decide (c.length≤30))<;>rfl
def mdF:Int→List Int→Bool
 |_,[]=>true
 |i,l::r=>(decide (l=i)||decide (l= -i))&&mdF (i+1) r
def yJ (m c:List Int):Bool:=c.any fun l=>decide (m[(vr l-1).toNat]?=some l)
def holdsB (f:Formula) (m:List Int):Bool:=kP f&&decide ((m.length:Int)=f.vars)&&mdF 1 m&&f.clauses.all (yJ m)
theorem clF_mem {v:Int}:∀{t:Int} {c:List Int},0≤t→clF v t c=true→∀l∈c,-v≤l∧l≤v∧t<vr l
 |_,[],_,_,l,h=>by simp at h
 |t,x::c,ht,h,l,hl=>by
  unfold clF at h
  simp only[Bool.and_eq_true,decide_eq_true_eq] at h
  rcases List.mem_cons.1 hl with rfl|hl
  ·exact⟨h.1.1.1,h.1.1.2,h.1.2⟩
  have:=clF_mem (jC x) h.2 l hl
  exact⟨this.1,this.2.1,by omega⟩
theorem idx_vr {α:Type} {m:List α} {l:Int} (h0:0<vr l) (h:vr l≤m.length):∃x,m[(vr l-1).toNat]?=some x∧idx m (vr l-1)=some x:=by
 obtain⟨x,hx⟩:=bJ (show(vr l-1).toNat<m.length by omega)
 exact⟨x,hx,jO (by omega) hx⟩
theorem mdF_loop {m:List Int} {t:Int} (ht:0≤t) (hm:t+m.length≤9223372036854775800):runL (fun(a t:Int)=>if(!decide (a=t+1)&& !decide (a= -t-1))=true then Step.done (Out.ret false:Out Unit Bool) else Step.next (t+1)) (fun _=>Out.brk ()) m t=if mdF (t+1) m=true then Out.brk () else Out.ret false:=by
 induction m generalizing t with
 |nil=>rfl
 |cons a m ih=>
  unfold runL mdF
  by_cases h1:a=t+1
  ·simp only[h1,decide_true,Bool.not_true,Bool.false_and,Bool.false_eq_true,if_false,Bool.true_or,Bool.true_and]
   exact ih (by omega) (by simp only[List.length_cons] at hm;omega)
  by_cases h2:a= -t-1
  ·have h3:a= -(t+1):=by omega
   have e:decide (a= -(t+1))=true:=by simpa using h3
   simp only[e,h2,decide_true,Bool.not_true,Bool.and_false,Bool.false_eq_true,if_false,Bool.or_true,Bool.true_and]
   simp only[←h2,e,Bool.or_true,Bool.true_and]
   exact ih (by omega) (by simp only[List.length_cons] at hm;omega)
  have h3:¬a= -(t+1):=by omega
  simp[h1,h2,h3]
theorem holds1_ok {m:List Int} {x:Int} (hb: -1099511627776≤x∧x≤1099511627776) (h0:0<vr x) (h:vr x≤m.length):sF x m=some (decide (m[(vr x-1).toNat]?=some x)):=by
 unfold sF
 obtain⟨y,h1,h2⟩:=idx_vr h0 h
 rw[var_ok (by omega)]
 simp only[bsm]
 rw[iZ (by have:= @nD x 1099511627776;omega)]
 simp only[bsm]
 rw[h2,h1];simp
theorem holdsAny_ok {m c:List Int} (hc:c.length≤9223372036854775807) (h:∀x∈c,(-1099511627776≤x∧x≤1099511627776)∧0<vr x∧vr x≤m.length):fU c m=some (yJ m c):=by
 unfold fU jR
 have h:=scan_loop (body:=fun s=>fO c m s) c (fun l=>decide (m[(vr l-1).toNat]?=some l)) (fun k _=>Out.ret (k:Int)) (Out.brk ()) ?_ ?_
 ·unfold yJ
  rcases h with⟨k,a,_,_,_,h2,_,e⟩|⟨_,h2,_,e⟩
  ·rw[e,h2];simp
  rw[e,h2];simp
 ·intro k a hk
  simp only[fO]
  rw[if_pos (ltB (dB hk)),dA hk]
  simp only[bsm]
  obtain⟨h1,h2,h3⟩:=h a (bM hk)
  rw[holds1_ok h1 h2 h3,jP (dB hk) hc]
  generalize decide (m[(vr a-1).toNat]?=some a)=d
  cases d<;>rfl
 simp only[fO]
 rw[if_neg tC]
theorem nN {f:Formula} (h:kP f=true):0≤f.vars∧f.vars≤65536∧f.clauses.length≤262144∧∀c∈f.clauses,clF f.vars 0 c=true:=by
 unfold kP at h
 simp only[Bool.and_eq_true,decide_eq_true_eq,List.all_eq_true] at h
 exact⟨h.1.1.1,h.1.1.2,h.1.2,h.2⟩
theorem valid_lit {f:Formula} (h:kP f=true) {c:List Int} (hc:c∈f.clauses) {l:Int} (hl:l∈c): -f.vars≤l∧l≤f.vars∧0<vr l∧vr l≤f.vars:=by
 have:=clF_mem (Int.le_refl 0) ((nN h).2.2.2 c hc) l hl
 exact⟨this.1,this.2.1,this.2.2,nD.2 ⟨this.1,this.2.1⟩⟩
theorem cnf_holds {f:Formula} {m:List Int} (hl:FLen f.clauses):tK f m=some (holdsB f m):=by
 unfold tK holdsB
 rw[cnf_valid hl]
 simp only[bsm]
 by_cases hv:kP f=true
 ·by_cases hm:(m.length:Int)=f.vars
  ·rw[if_neg (by simp[hv,hm])]
   have hb:=nN hv
   rw[loopL (body:=fun s=>qJ m s) (s0:=(0:Int)) m (fun k t=>(k:Int)) (fun(a t:Int)=>if(!decide (a=t+1)&& !decide (a= -t-1))=true then Step.done (Out.ret false:Out Unit Bool) else Step.next (t+1)) (fun _=>Out.brk ()) (fun k t=>t=(k:Int)) (t0:=0) rfl rfl ?_ ?_,mdF_loop (by omega) (by omega)]
   ·simp only[bsm,hv,hm,decide_true,Bool.true_and,Int.zero_add]
    by_cases h1:mdF 1 m=true
    ·rw[if_pos h1,h1,Bool.true_and]
     refine zF f.clauses (fun c=> !yJ m c) (Out.ret false) (Out.brk ()) ?_ ?_ ?_
     ·intro k a hk
      simp only[sJ]
      rw[if_pos (ltB (dB hk)),dA hk]
      simp only[bsm]
      rw[holdsAny_ok (hl.2 a (bM hk)) (fun x hx=>by have:=valid_lit hv (bM hk) hx;omega),jP (dB hk) hl.1]
      cases yJ m a<;>rfl
     ·simp only[sJ]
      rw[if_neg tC]
     rw[vN]
     cases f.clauses.all (yJ m)<;>rfl
    simp[h1]
   ·rintro k a t hk rfl
    refine⟨?_,fun t' ht'=>?_⟩
    ·simp only[qJ]
     rw[if_pos (ltB (dB hk)),dA hk]
     have:=dB hk
     simp only[bsm]
     rw[jP (dB hk) (by omega),iZ (show -9223372036854775808≤0-(k:Int)∧0-(k:Int)≤9223372036854775807 by omega)]
     simp only[bsm]
     rw[iZ (show -9223372036854775808≤0-(k:Int)-1∧0-(k:Int)-1≤9223372036854775807 by omega)]
     have e:((k+1:Nat):Int)=(k:Int)+1:=by omega
     have e2:0-(k:Int)-1= -(k:Int)-1:=by omega
     rw[e,e2]
     by_cases h1:a=(k:Int)+1<;>by_cases h2:a= -(k:Int)-1<;>simp[h1,h2]
    split at ht'
    ·cases ht'
    exact(Step.next.inj ht').symm
   rintro t rfl
   simp only[qJ]
   rw[if_neg tC]
  rw[if_pos (by simp[hm])];simp[hm]
 rw[if_pos (by simp[hv])];simp[hv]
inductive UP (F:List (List Int)) (S:List Int):Int→Prop
 |start {l:Int}:l∈S→UP F S l
 |unit {c:List Int} {x:Int}:c∈F→x∈c→(∀y∈c,y≠x→UP F S (-y))→UP F S x
def Fails (F:List (List Int)) (S:List Int):Prop:=(∃l,UP F S l∧UP F S (-l))∨∃c∈F,∀y∈c,UP F S (-y)
structure Lits (n:Int) (F:List (List Int)) (S:List Int):Prop where
 nn:0≤n∧n≤65536
 cl:∀c∈F,∀y∈c,y≠0∧vr y≤n
 st:∀y∈S,y≠0∧vr y≤n
 nd:∀c∈F,c.Nodup
theorem UP.lit {n:Int} {F:List (List Int)} {S:List Int} (h:Lits n F S) {l:Int} (hl:UP F S l):l≠0∧vr l≤n:=by
 cases hl with
 |start hs=>exact h.st _ hs
 |unit hc hx _=>exact h.cl _ hc _ hx
def gv (val:List Int) (l:Int):Option Int:=val[(vr l).toNat]?
theorem uD (val:List Int) (l:Int):gv val (-l)=gv val l:=by unfold gv;rw[kQ]
structure ValOk (n:Int) (F:List (List Int)) (S:List Int) (val:List Int):Prop where
 len:(val.length:Int)=n+1
 own:∀(v:Nat) x,val[v]?=some x→x=0∨(x≠0∧vr x=v)
 sound:∀(v:Nat) x,val[v]?=some x→x≠0→UP F S x
theorem ValOk.get {n:Int} {F:List (List Int)} {S:List Int} {val:List Int} (h:ValOk n F S val) {l:Int} (hl:vr l≤n):∃x,gv val l=some x∧idx val (vr l)=some x∧(x=0∨x=l∨x= -l):=by
 have h0:=jC l
 obtain⟨x,hx⟩:=bJ (show(vr l).toNat<val.length by have:=h.len;omega)
 refine⟨x,hx,jO h0 hx,?_⟩
 rcases h.own _ x hx with h1|⟨_,h1⟩
 ·exact Or.inl h1
 exact Or.inr (Z4.1 (by omega))
theorem ValOk.up {n:Int} {F:List (List Int)} {S:List Int} {val:List Int} (h:ValOk n F S val) {l:Int} (h0:l≠0) (hl:gv val l=some l):UP F S l:=h.sound _ l hl h0
theorem ValOk.set {n:Int} {F:List (List Int)} {S:List Int} {val:List Int} (h:ValOk n F S val) {l:Int} (h0:l≠0) (hl:vr l≤n) (hu:UP F S l):ValOk n F S (val.set (vr l).toNat l):=by
 have hv:=jC l
 refine⟨by rw[List.length_set];exact h.len,fun v x hx=>?_,fun v x hx hx0=>?_⟩
 ·rw[List.getElem?_set] at hx
  split at hx
  ·rename_i e
   split at hx
   ·obtain rfl:=Option.some.inj hx
    exact Or.inr ⟨h0,by omega⟩
   cases hx
  exact h.own v x hx
 rw[List.getElem?_set] at hx
 split at hx
 ·split at hx
  ·obtain rfl:=Option.some.inj hx;exact hu
  cases hx
 exact h.sound v x hx hx0
theorem gv_set {n:Int} {val:List Int} {l m:Int} (hlen:(val.length:Int)=n+1) (hl:vr l≤n):gv (val.set (vr l).toNat l) m=if vr m=vr l then some l else gv val m:=by
 unfold gv
 have h1:=jC l
 have h2:=jC m
 rw[List.getElem?_set]
 by_cases e:vr m=vr l
 ·rw[if_pos (by omega),if_pos (by omega),if_pos e]
 rw[if_neg (by omega),if_neg e]
def Good (val c:List Int):Prop:=(∃y∈c,gv val y=some y)∨∃y∈c,∃z∈c,y≠z∧gv val y=some 0∧gv val z=some 0
theorem V6 {n:Int} {F:List (List Int)} {S:List Int} {val:List Int} (hL:Lits n F S) (h:ValOk n F S val) (hs:∀l∈S,gv val l=some l) (hg:∀c∈F,Good val c):∀{l},UP F S l→gv val l=some l:=by
 intro l hl
 induction hl with
 |start hm=>exact hs _ hm
 | @unit c x hc hx hy ih=>
  rcases hg c hc with⟨y,hyc,h1⟩|⟨y,hyc,z,hzc,hyz,h1,h2⟩
  ·by_cases e:y=x
   ·rw[←e];exact h1
   have:=ih y hyc e
   rw[uD,h1] at this
   have:=Option.some.inj this
   exact absurd (show y=0 by omega) (hL.cl c hc y hyc).1
  by_cases e:y=x
  ·have:=ih z hzc (by rw[←e];exact fun e'=>hyz e'.symm)
   rw[uD,h2] at this
   have:=Option.some.inj this
   exact absurd (show z=0 by omega) (hL.cl c hc z hzc).1
  have:=ih y hyc e
  rw[uD,h1] at this
  have:=Option.some.inj this
  exact absurd (show y=0 by omega) (hL.cl c hc y hyc).1
theorem closed_ok {n:Int} {F:List (List Int)} {S:List Int} {val:List Int} (hL:Lits n F S) (h:ValOk n F S val) (hs:∀l∈S,gv val l=some l) (hg:∀c∈F,Good val c):¬Fails F S:=by
 rintro(⟨l,h1,h2⟩|⟨c,hc,hy⟩)
 ·have e1:=V6 hL h hs hg h1
  have e2:=V6 hL h hs hg h2
  rw[uD,e1] at e2
  have:=Option.some.inj e2
  exact(h1.lit hL).1 (by omega)
 rcases hg c hc with⟨y,hyc,h1⟩|⟨y,hyc,z,hzc,hyz,h1,h2⟩
 ·have:=V6 hL h hs hg (hy y hyc)
  rw[uD,h1] at this
  have:=Option.some.inj this
  exact(hL.cl c hc y hyc).1 (by omega)
 have:=V6 hL h hs hg (hy y hyc)
 rw[uD,h1] at this
 have:=Option.some.inj this
 exact(hL.cl c hc y hyc).1 (by omega)
def sOk (v x:Int):Bool:=decide (x≠0)&&decide (-v≤x)&&decide (x≤v)
theorem clF_one (v x:Int):clF v 0 [x]=sOk v x:=by
 unfold clF clF sOk
 rw[Bool.eq_iff_iff]
 simp only[Bool.and_eq_true,decide_eq_true_eq,Bool.and_true]
 have:=jC x
 have:= @nY x
 constructor
 ·rintro⟨⟨a,b⟩,c⟩;exact⟨⟨fun e=>by rw[e] at c;simp[vr] at c,a⟩,b⟩
 rintro⟨⟨a,b⟩,c⟩;exact⟨⟨b,c⟩,by omega⟩
end Go.Proofs.Ytpkhmndpeipfmaa

/- The code goes as its model: assessor/solver.Solve, assessor/solver.Least. (Printed by wip/sp/gen.py.) -/
import Derived.Test.YtpkhmndpeipfmaaKDeT
import Derived.Test.YtpkhmndpeipfmaaKDe5
import Derived.Test.YtpkhmndpeipfmaaKDe6
import Derived.Test.YtpkhmndpeipfmaaKDe13
import Derived.Test.YtpkhmndpeipfmaaKDe14
set_option linter.unusedVariables false
set_option linter.unusedSimpArgs false
namespace Go.Proofs.Ytpkhmndpeipfmaa
open Go.RowKit
set_option maxRecDepth 100000 in
set_option maxHeartbeats 4000000 in
theorem xR {Z:World} {ρ:PH} {L:List bW} {w:World} (p0:Formula) (aG:Value) (bI:bT ρ aG p0.clauses) (p1:(List Int)) (vp1:Value) (hp1:bT ρ vp1 p1) (p2:Int) (hp:Hp Z ρ (L) w) (r:(Answer×Int)) (hm:jJ p0 p1 p2=some r):
  Calls Try.prog 12 #[(.agg #[(.int .i64 p0.vars),aG]),vp1,(.int .i64 p2)] w (Ret fun v w'=>∃(qF:Value) (lL:Value) (rO:List Sl),v= .tuple #[(.agg #[(.int .i64 r.1.kind),qF,lL,(.int .i64 r.1.conflicts)]),(.int .i64 r.2)]∧Hp Z ρ (aA 3 qF r.1.model::bV 25 3 lL rO (r.1.proof:(List (List Int)))::L) w'):=by
 refine enter (N:=19) Try.func12 rfl rfl [(0,(.agg #[(.int .i64 p0.vars),aG])),(1,vp1),(2,(.int .i64 p2))] rfl (bM ⟨rfl,rfl,rfl,trivial⟩) fun a hE=>?_
 unfold jJ at hm
 refine aH (aB ?_)
 refine rC (wk0 rfl) rfl rfl hE hp rfl (v:=(.agg #[(.int .i64 p0.vars),aG])) rfl ?_
 intro a w b1 hE hp
 have hp:=r1 hp
 refine rD (wk0 rfl) rfl rfl hE hp rfl [(.int .i64 0),(.slice none 0 0),(.slice none 0 0),(.int .i64 0)] (fun w=>by simp[Instr.alloc,go_sem]<;>rfl) ?_
 intro a w b2 hE hp
 have hp:=r2 hp
 refine S hE 1 rfl fun a hE=>aC (aH ?_)
 refine aH (aB ?_)
 refine V hE hp rfl (bC rfl hE rfl (fun w hw=>iK (cs:=[(.int .i64 p0.vars),aG]) iQ (Hp.cN 1 rfl 0 _ (bZ rfl) w hw))) fun a hE=>S hE 2 rfl fun a hE=>?_
 obtain⟨x1,ex1,hm⟩:=bnd hm
 refine s_call (wk0 rfl) rfl rfl hE rfl [(.agg #[(.int .i64 p0.vars),aG]),vp1,(.int .i64 p2)] ⟨rfl,rfl,rfl,trivial⟩ ent28 (Z7 p0 aG bI p1 vp1 hp1 p2 hp x1 ex1) Ret.ret ?_
 intro v a w hR hE
 obtain⟨rfl,hp⟩:=Ret.of hR
 have hp:=r2 hp
 refine S hE 1 rfl fun a hE=>aC ?_
 refine dO hE rfl (fun hc1=>?_) (fun hc1=>?_)
 ·replace hm:=(it hc1).symm.trans hm
  refine aH (aB ?_)
  refine V hE hp rfl (v:=(.agg #[(.int .i64 0),(.slice none 0 0),(.slice none 0 0),(.int .i64 0)])) (qM rfl hE [] (by exact trivial) (fun w=>by simp[Instr.build,Instr.fill,Value.cells,go_sem])) fun a hE=>?_
  refine dR (wk0 rfl) rfl hE hp rfl rfl rfl 0 rfl fB.size_ rfl (bY ⟨rfl,rfl,rfl,rfl,trivial⟩) [(.int .i64 0),(.slice none 0 0),(.slice none 0 0),(.int .i64 0)] rfl ?_
  intro w hp
  have hp:=r2 hp
  refine S hE 1 rfl fun a hE=>aC (dE ?_)
  have hp:=hp.emp (aA.nil (α:=Int) 3)
  have hp:=r3 hp
  have hp:=hp.emp (bV.none (α:=Int) 25 3 none)
  have hp:=r4 hp
  have hp:=r4 hp
  obtain rfl:=Option.some.inj hm
  exact retct hE rfl rfl rfl (rZ (cs:=[(.int .i64 0),(.slice none 0 0),(.slice none 0 0),(.int .i64 0)]) fB (Hp.cN 2 rfl 0 _ (bZ rfl) _ hp)) ⟨_,rfl,_,_,_,rfl,((((((hp.get 0 rfl).get 1 rfl).get 3 rfl).drop).get 2 rfl).drop)⟩
 replace hm:=(ie hc1).symm.trans hm
 refine bQ (aH ?_)
 refine aB (V hE hp rfl (bC rfl hE rfl (fun w hw=>iK (cs:=[(.int .i64 p0.vars),aG]) iQ (Hp.cN 1 rfl 0 _ (bZ rfl) w hw))) fun a hE=>?_)
 refine S hE 1 rfl fun a hE=>?_
 obtain⟨x2,ex2,hm⟩:=bnd hm
 refine s_call (wk0 rfl) rfl rfl hE rfl [(.agg #[(.int .i64 p0.vars),aG]),vp1] ⟨rfl,rfl,trivial⟩ I9 (jP p0 aG bI p1 vp1 hp1 hp x2 ex2) Ret.ret ?_
 intro v a w hR hE
 obtain⟨br2,vr2_value,vr2_level,aF5,vr2_saved,V6,F5,vr2_trail,aF6,br2_queue,yB,yA,vr2_proof,aB6,rfl,hp⟩:=Ret.of hR
 have hp:=r14 hp
 refine S hE 1 rfl fun a hE=>?_
 obtain⟨x3,ex3,hm⟩:=bnd hm
 refine s_call (wk0 rfl) rfl rfl hE rfl [(.pointer (some ⟨br2,0,none⟩)),(.int .i64 p2)] ⟨rfl,rfl,trivial⟩ yH (dQ br2 x2 vr2_value vr2_level aF5 vr2_saved V6 F5 vr2_trail aF6 br2_queue yB yA vr2_proof aB6 p2 ((((((((((((hp.get 11 rfl).get 11 rfl).get 11 rfl).get 11 rfl).get 11 rfl).get 11 rfl).get 11 rfl).get 11 rfl).get 11 rfl).get 11 rfl).get 11 rfl).get 11 rfl) x3 ex3) Ret.ret ?_
 intro v a w hR hE
 obtain⟨qG,qY,usr3_proof,rfl,hp⟩:=Ret.of hR
 have hp:=r4 hp
 refine dR (wk0 rfl) rfl hE hp rfl rfl rfl 2 rfl fB.size_ rfl (bY ⟨rfl,(aA.one hp 0 rfl),(bV.one hp 1 rfl),rfl,trivial⟩) [(.int .i64 x3.kind),qG,qY,(.int .i64 x3.conflicts)] rfl ?_
 intro w hp
 have hp:=r4 hp
 refine S hE 1 rfl fun a hE=>aC (dE ?_)
 obtain rfl:=Option.some.inj hm
 exact retct hE rfl rfl rfl (rZ (cs:=[(.int .i64 x3.kind),qG,qY,(.int .i64 x3.conflicts)]) fB (Hp.cN 2 rfl 0 _ (bZ rfl) _ hp)) ⟨_,rfl,_,_,_,rfl,((((hp.get 3 rfl).drop).get 2 rfl).drop)⟩
set_option maxRecDepth 100000 in
set_option maxHeartbeats 4000000 in
theorem c_solver_Least {Z:World} {ρ:PH} {L:List bW} {w:World} (p0:Formula) (aG:Value) (bI:bT ρ aG p0.clauses) (p1:(List Int)) (vp1:Value) (hp1:bT ρ vp1 p1) (p2:Int) (hp:Hp Z ρ (L) w) (r:(Answer×Int)) (hm:nG p0 p1 p2=some r):
  Calls Try.prog 17 #[(.agg #[(.int .i64 p0.vars),aG]),vp1,(.int .i64 p2)] w (Ret fun v w'=>∃(qF:Value) (lL:Value) (rO:List Sl),v= .tuple #[(.agg #[(.int .i64 r.1.kind),qF,lL,(.int .i64 r.1.conflicts)]),(.int .i64 r.2)]∧Hp Z ρ (aA 3 qF r.1.model::bV 25 3 lL rO (r.1.proof:(List (List Int)))::L) w'):=by
 refine enter (N:=88) Try.func17 rfl rfl [(0,(.agg #[(.int .i64 p0.vars),aG])),(1,vp1),(2,(.int .i64 p2))] rfl (bM ⟨rfl,rfl,rfl,trivial⟩) fun a hE=>?_
 unfold nG at hm
 refine aH (aB ?_)
 refine rC (wk0 rfl) rfl rfl hE hp rfl (v:=(.agg #[(.int .i64 p0.vars),aG])) rfl ?_
 intro a w b1 hE hp
 have hp:=r1 hp
 refine rD (wk0 rfl) rfl rfl hE hp rfl [(.int .i64 0),(.slice none 0 0),(.slice none 0 0),(.int .i64 0)] (fun w=>by simp[Instr.alloc,go_sem]<;>rfl) ?_
 intro a w b2 hE hp
 have hp:=r2 hp
 refine S hE 1 rfl fun a hE=>aC (aH ?_)
 refine aH (aB ?_)
 refine V hE hp rfl (bC rfl hE rfl (fun w hw=>iK (cs:=[(.int .i64 p0.vars),aG]) iQ (Hp.cN 1 rfl 0 _ (bZ rfl) w hw))) fun a hE=>S hE 2 rfl fun a hE=>?_
 obtain⟨x1,ex1,hm⟩:=bnd hm
 refine s_call (wk0 rfl) rfl rfl hE rfl [(.agg #[(.int .i64 p0.vars),aG]),vp1,(.int .i64 p2)] ⟨rfl,rfl,rfl,trivial⟩ ent28 (Z7 p0 aG bI p1 vp1 hp1 p2 hp x1 ex1) Ret.ret ?_
 intro v a w hR hE
 obtain⟨rfl,hp⟩:=Ret.of hR
 have hp:=r2 hp
 refine S hE 1 rfl fun a hE=>aC ?_
 refine dO hE rfl (fun hc1=>?_) (fun hc1=>?_)
 ·replace hm:=(it hc1).symm.trans hm
  refine aH (aB ?_)
  refine V hE hp rfl (v:=(.agg #[(.int .i64 0),(.slice none 0 0),(.slice none 0 0),(.int .i64 0)])) (qM rfl hE [] (by exact trivial) (fun w=>by simp[Instr.build,Instr.fill,Value.cells,go_sem])) fun a hE=>?_
  refine dR (wk0 rfl) rfl hE hp rfl rfl rfl 0 rfl fB.size_ rfl (bY ⟨rfl,rfl,rfl,rfl,trivial⟩) [(.int .i64 0),(.slice none 0 0),(.slice none 0 0),(.int .i64 0)] rfl ?_
  intro w hp
  have hp:=r2 hp
  refine S hE 1 rfl fun a hE=>aC (dE ?_)
  have hp:=hp.emp (aA.nil (α:=Int) 3)
  have hp:=r3 hp
  have hp:=hp.emp (bV.none (α:=Int) 25 3 none)
  have hp:=r4 hp
  have hp:=r4 hp
  obtain rfl:=Option.some.inj hm
  exact retct hE rfl rfl rfl (rZ (cs:=[(.int .i64 0),(.slice none 0 0),(.slice none 0 0),(.int .i64 0)]) fB (Hp.cN 2 rfl 0 _ (bZ rfl) _ hp)) ⟨_,rfl,_,_,_,rfl,((((((hp.get 0 rfl).get 1 rfl).get 3 rfl).drop).get 2 rfl).drop)⟩
 replace hm:=(ie hc1).symm.trans hm
 refine bQ (aH ?_)
 refine aB (V hE hp rfl (bC rfl hE rfl (fun w hw=>iK (cs:=[(.int .i64 p0.vars),aG]) iQ (Hp.cN 1 rfl 0 _ (bZ rfl) w hw))) fun a hE=>?_)
 obtain⟨x2,ex2,hm⟩:=bnd hm
 refine s_call (wk0 rfl) rfl rfl hE rfl [(.agg #[(.int .i64 p0.vars),aG]),(.slice none 0 0)] ⟨rfl,rfl,trivial⟩ I9 (jP p0 aG bI [] (.slice none 0 0) (bT.nil _) hp x2 ex2) Ret.ret ?_
 intro v a w hR hE
 obtain⟨br2,vr2_value,vr2_level,aF5,vr2_saved,V6,F5,vr2_trail,aF6,br2_queue,yB,yA,vr2_proof,aB6,rfl,hp⟩:=Ret.of hR
 have hp:=r14 hp
 refine S hE 1 rfl fun a hE=>?_
 obtain⟨x3,ex3,hm⟩:=bnd hm
 refine s_call (wk0 rfl) rfl rfl hE rfl [(.pointer (some ⟨br2,0,none⟩)),(.int .i64 p2)] ⟨rfl,rfl,trivial⟩ yH (dQ br2 x2 vr2_value vr2_level aF5 vr2_saved V6 F5 vr2_trail aF6 br2_queue yB yA vr2_proof aB6 p2 ((((((((((((hp.get 11 rfl).get 11 rfl).get 11 rfl).get 11 rfl).get 11 rfl).get 11 rfl).get 11 rfl).get 11 rfl).get 11 rfl).get 11 rfl).get 11 rfl).get 11 rfl) x3 ex3) Ret.ret ?_
 intro v a w hR hE
 obtain⟨qG,qY,usr3_proof,rfl,hp⟩:=Ret.of hR
 have hp:=r4 hp
 refine rD (wk0 rfl) rfl rfl hE hp rfl [(.int .i64 0),(.slice none 0 0),(.slice none 0 0),(.int .i64 0)] (fun w=>by simp[Instr.alloc,go_sem]<;>rfl) ?_
 intro a w b3 hE hp
 have hp:=r5 hp
 refine dR (wk0 rfl) rfl hE hp rfl rfl rfl 0 rfl fB.size_ rfl (bY ⟨rfl,(aA.one hp 1 rfl),(bV.one hp 2 rfl),rfl,trivial⟩) [(.int .i64 x3.kind),qG,qY,(.int .i64 x3.conflicts)] rfl ?_
 intro w hp
 have hp:=r5 hp
 refine aC (aH ?_)
 refine aH (aB ?_)
 refine V hE hp rfl (xf hE uY rfl rfl) fun a hE=>V hE hp rfl (xl hE bG 0 rfl rfl rfl rfl) fun a hE=>S hE 1 rfl fun a hE=>aC ?_
 refine dO hE rfl (fun hc2=>?_) (fun hc2=>?_)
 ·replace hm:=(it hc2).symm.trans hm
  refine aH (aB ?_)
  refine V hE hp rfl (bC rfl hE rfl (fun w hw=>iK (cs:=[(.int .i64 x3.kind),qG,qY,(.int .i64 x3.conflicts)]) fB (Hp.cN 0 rfl 0 _ (bZ rfl) w hw))) fun a hE=>?_
  refine dR (wk0 rfl) rfl hE hp rfl rfl rfl 3 rfl fB.size_ rfl (bY ⟨rfl,(aA.one hp 1 rfl),(bV.one hp 2 rfl),rfl,trivial⟩) [(.int .i64 x3.kind),qG,qY,(.int .i64 x3.conflicts)] rfl ?_
  intro w hp
  have hp:=r5 hp
  refine S hE 1 rfl fun a hE=>aC (dE ?_)
  obtain rfl:=Option.some.inj hm
  exact retct hE rfl rfl rfl (rZ (cs:=[(.int .i64 x3.kind),qG,qY,(.int .i64 x3.conflicts)]) fB (Hp.cN 3 rfl 0 _ (bZ rfl) _ hp)) ⟨_,rfl,_,_,_,rfl,(((((hp.get 4 rfl).drop).get 3 rfl).drop).drop)⟩
 replace hm:=(ie hc2).symm.trans hm
 refine bQ (aH ?_)
 refine aB (S hE 1 rfl fun a hE=>?_)
 refine aC (aH ?_)
 refine aB (V hE hp rfl (xf hE fldty29_3 rfl rfl) fun a hE=>?_)
 refine V hE hp rfl (xl hE bG 0 rfl rfl rfl rfl) fun a hE=>S hE 1 rfl fun a hE=>aC (aH ?_)
 refine aH (aB ?_)
 refine S hE 1 rfl fun a hE=>V hE hp rfl (dK rfl hE rfl (bT.len hp1 aZ)) fun a hE=>S hE 1 rfl fun a hE=>aC ?_
 have hE:=hE.cut (E':=[(2,(.int .i64 p2)),(3,(.pointer (some ⟨b1,0,none⟩))),(6,(.pointer (some ⟨b2,0,none⟩))),(8,(.pointer (some ⟨b3,0,none⟩))),(9,(.slice none 0 0)),(10,(.int .i64 x3.conflicts)),(30,vp1),(31,(.int .i64 (p1.length:Int))),(32,(.int .i64 0))]) ⟨rfl,rfl,rfl,rfl,rfl,rfl,rfl,rfl,rfl,trivial⟩
 have hp:=hp.emp (aA.nil (α:=Int) 3)
 have hp:=r6 hp
 obtain⟨b4,hc3,hm⟩:=bnd hm
 refine dL (fun a w=>∃s:(Int×(List Int)×Int×Int×(List Int)×(List (List Int))),b4= .brk s∧(∃(w86:Value) (w19:Value) (w20:Value) (us20:List Sl),Env 88 [(6,(.pointer (some ⟨b2,0,none⟩))),(8,(.pointer (some ⟨b3,0,none⟩))),(10,(.int .i64 s.1))] a∧Hp Z ρ (aA 3 w86 s.2.1::Pt b3 (.cells #[(.int .i64 s.2.2.1),w19,w20,(.int .i64 s.2.2.2.1)] 29 (0,0))::aA 3 w19 s.2.2.2.2.1::bV 25 3 w20 us20 (s.2.2.2.2.2:(List (List Int)))::Pt b2 (.cells #[(.int .i64 0),(.slice none 0 0),(.slice none 0 0),(.int .i64 0)] 29 (0,0))::Pt b1 (.cells #[(.int .i64 p0.vars),aG] 24 (0,0))::L) w)) ?_ ?_
 ·refine fK hc3 (fun s a w=>∃(w86:Value) (w19:Value) (w20:Value) (us20:List Sl),Env 88 [(2,(.int .i64 p2)),(3,(.pointer (some ⟨b1,0,none⟩))),(6,(.pointer (some ⟨b2,0,none⟩))),(8,(.pointer (some ⟨b3,0,none⟩))),(9,w86),(10,(.int .i64 s.1)),(30,vp1),(31,(.int .i64 (p1.length:Int))),(32,(.int .i64 s.2.1))] a∧Hp Z ρ (aA 3 w86 s.2.2.1::Pt b3 (.cells #[(.int .i64 s.2.2.2.1),w19,w20,(.int .i64 s.2.2.2.2.1)] 29 (0,0))::aA 3 w19 s.2.2.2.2.2.1::bV 25 3 w20 us20 (s.2.2.2.2.2.2:(List (List Int)))::Pt b2 (.cells #[(.int .i64 0),(.slice none 0 0),(.slice none 0 0),(.int .i64 0)] 29 (0,0))::Pt b1 (.cells #[(.int .i64 p0.vars),aG] 24 (0,0))::L) w) ?_ ?_
  ·exact⟨_,_,_,_,hE.cut ⟨rfl,rfl,rfl,rfl,rfl,rfl,rfl,rfl,rfl,trivial⟩,hp⟩
  rintro⟨aY,bU,dF,iL,jQ,kM,uX⟩ st a w ⟨w86,w19,w20,us20,hE,hp⟩ hl1
  dsimp only at hE hp hl1
  unfold mM at hl1
  refine aH (aB ?_)
  refine S hE 1 rfl fun a hE=>aC (aH ?_)
  refine dO hE rfl (fun hc4=>?_) (fun hc4=>?_)
  ·replace hl1:=(it hc4).symm.trans hl1
   refine bQ (aH ?_)
   obtain⟨j1,hj1,hl1⟩:=bnd hl1
   refine dL (fun a w=>∃s:(Int×(List Int)×Int×Int×(List Int)×(List (List Int))),j1= .brk s∧(∃(w86:Value) (w19:Value) (w20q:Value) (us20q:List Sl),Env 88 [(2,(.int .i64 p2)),(3,(.pointer (some ⟨b1,0,none⟩))),(6,(.pointer (some ⟨b2,0,none⟩))),(8,(.pointer (some ⟨b3,0,none⟩))),(9,w86),(10,(.int .i64 s.1)),(30,vp1),(31,(.int .i64 (p1.length:Int))),(32,(.int .i64 bU))] a∧Hp Z ρ (aA 3 w86 s.2.1::Pt b3 (.cells #[(.int .i64 s.2.2.1),w19,w20q,(.int .i64 s.2.2.2.1)] 29 (0,0))::aA 3 w19 s.2.2.2.2.1::bV 25 3 w20q us20q (s.2.2.2.2.2:(List (List Int)))::Pt b2 (.cells #[(.int .i64 0),(.slice none 0 0),(.slice none 0 0),(.int .i64 0)] 29 (0,0))::Pt b1 (.cells #[(.int .i64 p0.vars),aG] 24 (0,0))::L) w)) ?_ ?_
   ·
    refine aH (aB ?_)
    obtain⟨x4,ex4,hj1⟩:=bnd hj1
    obtain⟨b5,b5o,b5c,b5r,b5k,b5f⟩:=bT.at hp1 aZ ex4
    obtain rfl:b5c=Enc.enc x4:=b5k
    have b5f:AtP ρ b5 b5o [(.int .i64 x4)]:=b5f
    refine V hE hp rfl (aV rfl hE rfl rfl b5r) fun a hE=>V hE hp rfl (bC rfl hE rfl (fun w hw=>bH bG (b5f.c 0 rfl w hw))) fun a hE=>S hE 1 rfl fun a hE=>aC ?_
    have hE:=hE.cut (E':=[(2,(.int .i64 p2)),(3,(.pointer (some ⟨b1,0,none⟩))),(6,(.pointer (some ⟨b2,0,none⟩))),(8,(.pointer (some ⟨b3,0,none⟩))),(9,w86),(10,(.int .i64 aY)),(12,(.int .i64 x4)),(30,vp1),(31,(.int .i64 (p1.length:Int))),(32,(.int .i64 bU))]) ⟨rfl,rfl,rfl,rfl,rfl,rfl,rfl,rfl,rfl,rfl,trivial⟩
    refine aH (aH ?_)
    refine nO (by kernel_rfl) (by kernel_rfl) hp ?_
    refine Vq hE rfl (xf hE X0 rfl rfl) fun a hE=>Vq hE rfl (xl hE bP 1 rfl rfl rfl rfl) fun a hE=>Sq hE 1 rfl fun a hE=>?_
    obtain⟨x5,ex5,hj1⟩:=bnd hj1
    refine vJ (wk0 rfl) rfl rfl hE rfl [(.int .i64 x4)] ⟨rfl,trivial⟩ zG (v:=(.int .i64 x5)) (fun w hw=>Calls.mono (fC x4 hw x5 ex5) fun e w' ⟨v,he,hv,hh⟩=>⟨by rw[he,hv],hh⟩) ?_
    intro a hE
    obtain⟨x6,ex6,hj1⟩:=bnd hj1
    refine Vq hE rfl (sJ rfl hE rfl rfl (bD ex6)) fun a hE=>?_
    obtain⟨x7,ex7,hj1⟩:=bnd hj1
    obtain⟨b6,b6o,b6r,b6v,b6f⟩:=aA.at hp 2 rfl aZ ex7
    refine Vq hE rfl (aV rfl hE rfl rfl b6r) fun a hE=>Vq hE rfl (bC rfl hE rfl (fun w hw=>bH bG (b6f 0 _ rfl _ _ w (hw.get 2 rfl)))) fun a hE=>Sq hE 2 rfl fun a hE=>?_
    refine pR fun w hp=>?_
    have hp:=r6 hp
    refine dO hE rfl (fun hc5=>?_) (fun hc5=>?_)
    ·replace hj1:=(it hc5).symm.trans hj1
     refine aH (aB ?_)
     refine S hE 2 rfl fun a hE=>?_
     obtain⟨x8,ex8,hj1⟩:=bnd hj1
     refine V hE hp rfl (oD rfl hE rfl (bD ex8)) fun a hE=>?_
     refine iW (wk0 rfl) rfl rfl hE hp rfl [(0,(.int .i64 x8))] ⟨⟨rfl,rfl⟩,trivial⟩ [(.int .i64 x8)] 3 (fun w=>by simp[Instr.buildSlice,Instr.fill,Value.cells,go_sem]) ?_
     intro a w b7 hE hp
     have hp:=r7 hp
     obtain⟨x9,ex9,hj1⟩:=bnd hj1
     refine lM (wk0 rfl) rfl rfl hE hp rfl aZ rfl rfl 1 rfl rfl (l2:=[x8]) rfl (fun j u hj=>by have:=Hp.cN 0 rfl 0 _ (bZ rfl) w hp j u hj;simpa using this) ex9 ?_
     intro v1 a w hE hp
     have hp:=r7 hp
     refine S hE 1 rfl fun a hE=>aC ?_
     have hE:=hE.cut (E':=[(2,(.int .i64 p2)),(3,(.pointer (some ⟨b1,0,none⟩))),(6,(.pointer (some ⟨b2,0,none⟩))),(8,(.pointer (some ⟨b3,0,none⟩))),(9,v1),(10,(.int .i64 aY)),(30,vp1),(31,(.int .i64 (p1.length:Int))),(32,(.int .i64 bU))]) ⟨rfl,rfl,rfl,rfl,rfl,rfl,rfl,rfl,rfl,trivial⟩
     refine eP ?_
     obtain rfl:=Option.some.inj hj1
     exact⟨_,rfl,_,_,_,_,hE.cut ⟨rfl,rfl,rfl,rfl,rfl,rfl,rfl,rfl,rfl,trivial⟩,(hp.drop)⟩
    replace hj1:=(ie hc5).symm.trans hj1
    refine bQ (aH ?_)
    obtain⟨x10,ex10,hj1⟩:=bnd hj1
    obtain⟨x11,ex11,hj1⟩:=bnd hj1
    obtain⟨x12,ex12,hj1⟩:=bnd hj1
    obtain⟨x13,ex13,hj1⟩:=bnd hj1
    obtain⟨x14,ex14,hj1⟩:=bnd hj1
    obtain⟨x15,ex15,hj1⟩:=bnd hj1
    have hp:=hp.drew
    refine kD ([([],At0 Z ρ),([],At1 Z ρ (Pt b1 (.cells #[(.int .i64 p0.vars),aG] 24 (0,0))))]:Facts) (fun a w=>∃y164:Nat,∃y162:Value,∃y163:Value,∃yus163:List Sl,Env 88 [(2,(.int .i64 p2)),(3,(.pointer (some ⟨b1,0,none⟩))),(6,(.pointer (some ⟨b2,0,none⟩))),(8,(.pointer (some ⟨b3,0,none⟩))),(9,w86),(10,(.int .i64 aY)),(12,(.int .i64 x4)),(13,(.pointer (some ⟨y164,0,none⟩))),(30,vp1),(31,(.int .i64 (p1.length:Int))),(32,(.int .i64 bU))] a∧Hp Z ρ (Pt y164 (.cells #[(.int .i64 x15.kind),y162,y163,(.int .i64 x15.conflicts)] 29 (0,0))::aA 3 y162 x15.model::bV 25 3 y163 yus163 (x15.proof:(List (List Int)))::aA 3 w86 dF::Pt b3 (.cells #[(.int .i64 iL),w19,w20,(.int .i64 jQ)] 29 (0,0))::aA 3 w19 kM::bV 25 3 w20 us20 (uX:(List (List Int)))::Pt b2 (.cells #[(.int .i64 0),(.slice none 0 0),(.slice none 0 0),(.int .i64 0)] 29 (0,0))::Pt b1 (.cells #[(.int .i64 p0.vars),aG] 24 (0,0))::L) w) (by kernel_rfl) ⟨fun _=>⟨_,hp⟩,fun _=>⟨_,(hp.get 5 rfl)⟩,trivial⟩ (fun hS=>?_) ?_
    ·
     generalize w.drew=w at hS hp⊢
     refine T 0 1 hE hS rfl rfl rfl (by kernel_rfl) (fun _=>bC rfl hE rfl (fun w hw=>iK (cs:=[(.int .i64 p0.vars),aG]) iQ (Hp.cN 0 rfl 0 _ (bZ rfl) w hw))) fun a hE hS=>Ts [1,3] hE hS rfl rfl (by kernel_rfl) fun a hE hS=>T0 4 hE hS rfl rfl rfl (by kernel_rfl) (fun _=>oD rfl hE rfl (bD ex11)) fun a hE hS=>Ts [8,9] hE hS rfl rfl (by kernel_rfl) fun a hE hS=>T0 10 hE hS rfl rfl rfl (by kernel_rfl) (fun _=>sJ rfl hE rfl rfl (bD ex14)) fun a hE hS=>?_
     refine iY [2,5,12] (by kernel_rfl) rfl ?_
     refine List.forall_mem_cons.2 ⟨?_,List.forall_mem_cons.2 ⟨?_,List.forall_mem_cons.2 ⟨?_,fun _ h=>absurd h (by simp)⟩⟩⟩
     ·
      refine dV rfl ?_
      obtain⟨k3,k3a,k3d,k3h⟩:=(hp.get 0 rfl).lend
      refine s_call (wk0 rfl) rfl rfl hE rfl [w86] ⟨rfl,trivial⟩ ent39 (tX dF w86 (aA.ro k3d k3a) k3h x10 ex10) Ret.ret ?_
      intro v4 a w hR hE
      obtain⟨u,hu,hp⟩:=Ret.of hR
      rw[←hu] at hp
      have hp:=Hp.back k3a k3d hp
      have hp:=r7 hp
      have hp:=r7 hp
      refine aC (aI ⟨gp0 hp,gp 6 hp rfl,trivial⟩ fun hS=>?_)
      refine iY [5,12] (by kernel_rfl) rfl ?_
      refine List.forall_mem_cons.2 ⟨?_,List.forall_mem_cons.2 ⟨?_,fun _ h=>absurd h (by simp)⟩⟩
      ·
       refine dV rfl ?_
       refine iW (wk0 rfl) rfl rfl hE hp rfl [(0,(.int .i64 x11))] ⟨⟨rfl,rfl⟩,trivial⟩ [(.int .i64 x11)] 3 (fun w=>by simp[Instr.buildSlice,Instr.fill,Value.cells,go_sem]) ?_
       intro a w b10 hE hp
       have hp:=r8 hp
       refine aC (aI ⟨gp0 hp,gp 7 hp rfl,trivial⟩ fun hS=>?_)
       refine iY [6,12] (by kernel_rfl) rfl ?_
       refine List.forall_mem_cons.2 ⟨?_,List.forall_mem_cons.2 ⟨?_,fun _ h=>absurd h (by simp)⟩⟩
       ·
        refine dV rfl ?_
        refine lM (wk0 rfl) rfl rfl hE hp rfl aZ rfl rfl 2 rfl rfl (l2:=[x11]) rfl (fun j u hj=>by have:=Hp.cN 0 rfl 0 _ (bZ rfl) w hp j u hj;simpa using this) ex12 ?_
        intro v5 a w hE hp
        have hp:=r8 hp
        refine aC (aI ⟨gp0 hp,gp 7 hp rfl,trivial⟩ fun hS=>?_)
        refine iY [7,12] (by kernel_rfl) rfl ?_
        refine List.forall_mem_cons.2 ⟨?_,List.forall_mem_cons.2 ⟨?_,fun _ h=>absurd h (by simp)⟩⟩
        ·
         refine dV rfl ?_
         obtain⟨k4,k4a,k4d,k4h⟩:=(hp.get 2 rfl).lend
         refine s_call (wk0 rfl) rfl rfl hE rfl [(.agg #[(.int .i64 p0.vars),aG]),v5] ⟨rfl,rfl,trivial⟩ I9 (jP p0 aG (bT.mono bI (PH.le_un _ _)) x12 v5 (aA.ro k4d k4a) k4h x13 ex13) Ret.ret ?_
         intro v a w hR hE
         obtain⟨br6,Y8,Y4,I7,Y6,yO,xE,Y7,I8,V8,uP,uO,Y5,aB7,rfl,hp⟩:=Ret.of hR
         have hp:=Hp.back k4a k4d hp
         have hp:Hp Z ρ (_::Pt br6 (.cells #[Y8,Y4,I7,Y6,yO,Y7,I8,(.int .i64 x13.head),(.pointer (some ⟨V8,0,none⟩)),Y5,(.int .i64 x13.literals),(.bool x13.broken)] 65 (0,0))::aA 3 Y8 x13.value::aA 3 Y4 x13.level::aA 71 I7 (List.map (hq (xE).2) (x13.reason:List (Option Nat)))::aA 3 Y6 x13.saved::cO 61 71 (78,3) yO xE (x13.watches:(List (List Nat)×List (List Int))) none none::aA 3 Y7 x13.trail::aA 3 I8 x13.starts::Pt V8 (.cells #[uP,uO] 68 (0,0))::aA 3 uP x13.queue.list::aA 4 uO x13.queue.isin::bV 25 3 Y5 aB7 (x13.proof:(List (List Int)))::_::_::_::_::_::_::_::L) w:=hp
         refine aC (aI ⟨gp0 hp,gp 19 hp rfl,trivial⟩ fun hS=>?_)
         refine iY [11,12] (by kernel_rfl) rfl ?_
         refine List.forall_mem_cons.2 ⟨?_,List.forall_mem_cons.2 ⟨?_,fun _ h=>absurd h (by simp)⟩⟩
         ·
          refine dV rfl ?_
          refine s_call (wk0 rfl) rfl rfl hE rfl [(.pointer (some ⟨br6,0,none⟩)),(.int .i64 x14)] ⟨rfl,rfl,trivial⟩ yH (dQ br6 x13 Y8 Y4 I7 Y6 yO xE Y7 I8 V8 uP uO Y5 aB7 x14 ((((((((((((hp.get 12 rfl).get 12 rfl).get 12 rfl).get 12 rfl).get 12 rfl).get 12 rfl).get 12 rfl).get 12 rfl).get 12 rfl).get 12 rfl).get 12 rfl).get 12 rfl) x15 ex15) Ret.ret ?_
          intro v a w hR hE
          obtain⟨vr7_model,vr7_proof,usr7_proof,rfl,hp⟩:=Ret.of hR
          have hp:=r10 hp
          refine aC (aI ⟨gp0 hp,gp 9 hp rfl,trivial⟩ fun hS=>?_)
          refine W1 12 (by kernel_rfl) rfl ?_
          refine rD (wk0 rfl) rfl rfl hE hp rfl [(.int .i64 0),(.slice none 0 0),(.slice none 0 0),(.int .i64 0)] (fun w=>by simp[Instr.alloc,go_sem]<;>rfl) ?_
          intro a w b11 hE hp
          have hp:=r11 hp
          refine aC (aI ⟨gp0 hp,gp 10 hp rfl,trivial⟩ fun hS=>?_)
          refine W1 13 (by kernel_rfl) rfl ?_
          refine dR (wk0 rfl) rfl hE hp rfl rfl rfl 0 rfl fB.size_ rfl (bY ⟨rfl,(aA.one hp 1 rfl),(bV.one hp 2 rfl),rfl,trivial⟩) [(.int .i64 x15.kind),vr7_model,vr7_proof,(.int .i64 x15.conflicts)] rfl ?_
          intro w hp
          have hp:=r11 hp
          refine aC (aI ⟨gp0 hp,gp 10 hp rfl,trivial⟩ fun hS=>?_)
          exact eF (by kernel_rfl) ⟨_,_,_,_,hE.cut ⟨rfl,rfl,rfl,rfl,rfl,rfl,rfl,rfl,rfl,rfl,rfl,trivial⟩,((((hp.get 4 rfl).drop).get 3 rfl).drop)⟩
         refine dV rfl ?_
         refine rD (wk0 rfl) rfl rfl hE hp rfl [(.int .i64 0),(.slice none 0 0),(.slice none 0 0),(.int .i64 0)] (fun w=>by simp[Instr.alloc,go_sem]<;>rfl) ?_
         intro a w b12 hE hp
         have hp:Hp Z ρ (Pt b12 (.cells #[(.int .i64 0),(.slice none 0 0),(.slice none 0 0),(.int .i64 0)] 29 (0,0))::_::_::_::_::_::_::_::_::_::_::_::_::_::_::_::_::_::_::_::_::L) w:=hp
         refine aC (aI ⟨gp0 hp,gp 20 hp rfl,trivial⟩ fun hS=>?_)
         refine W1 11 (by kernel_rfl) rfl ?_
         refine s_call (wk0 rfl) rfl rfl hE rfl [(.pointer (some ⟨br6,0,none⟩)),(.int .i64 x14)] ⟨rfl,rfl,trivial⟩ yH (dQ br6 x13 Y8 Y4 I7 Y6 yO xE Y7 I8 V8 uP uO Y5 aB7 x14 ((((((((((((hp.get 13 rfl).get 13 rfl).get 13 rfl).get 13 rfl).get 13 rfl).get 13 rfl).get 13 rfl).get 13 rfl).get 13 rfl).get 13 rfl).get 13 rfl).get 13 rfl) x15 ex15) Ret.ret ?_
         intro v a w hR hE
         obtain⟨vr8_model,vr8_proof,usr8_proof,rfl,hp⟩:=Ret.of hR
         have hp:=r11 hp
         refine aC (aI ⟨gp0 hp,gp 10 hp rfl,trivial⟩ fun hS=>?_)
         refine W1 13 (by kernel_rfl) rfl ?_
         refine dR (wk0 rfl) rfl hE hp rfl rfl rfl 2 rfl fB.size_ rfl (bY ⟨rfl,(aA.one hp 0 rfl),(bV.one hp 1 rfl),rfl,trivial⟩) [(.int .i64 x15.kind),vr8_model,vr8_proof,(.int .i64 x15.conflicts)] rfl ?_
         intro w hp
         have hp:=r11 hp
         refine aC (aI ⟨gp0 hp,gp 10 hp rfl,trivial⟩ fun hS=>?_)
         exact eF (by kernel_rfl) ⟨_,_,_,_,hE.cut ⟨rfl,rfl,rfl,rfl,rfl,rfl,rfl,rfl,rfl,rfl,rfl,trivial⟩,(((((((((((((hp.get 10 rfl).get 10 rfl).get 10 rfl).get 10 rfl).get 10 rfl).get 10 rfl).get 7 rfl).get 7 rfl).get 8 rfl).get 10 rfl).drop).get 9 rfl).drop)⟩
        refine dV rfl ?_
        refine rD (wk0 rfl) rfl rfl hE hp rfl [(.int .i64 0),(.slice none 0 0),(.slice none 0 0),(.int .i64 0)] (fun w=>by simp[Instr.alloc,go_sem]<;>rfl) ?_
        intro a w b13 hE hp
        have hp:=r9 hp
        refine aC (aI ⟨gp0 hp,gp 8 hp rfl,trivial⟩ fun hS=>?_)
        refine W1 7 (by kernel_rfl) rfl ?_
        obtain⟨k5,k5a,k5d,k5h⟩:=(hp.get 3 rfl).lend
        refine s_call (wk0 rfl) rfl rfl hE rfl [(.agg #[(.int .i64 p0.vars),aG]),v5] ⟨rfl,rfl,trivial⟩ I9 (jP p0 aG (bT.mono bI (PH.le_un _ _)) x12 v5 (aA.ro k5d k5a) k5h x13 ex13) Ret.ret ?_
        intro v a w hR hE
        obtain⟨br9,vr9_value,vr9_level,aF7,vr9_saved,V7,F6,vr9_trail,aF8,br9_queue,yD,yC,vr9_proof,usr9_proof,rfl,hp⟩:=Ret.of hR
        have hp:=Hp.back k5a k5d hp
        have hp:Hp Z ρ (_::Pt br9 (.cells #[vr9_value,vr9_level,aF7,vr9_saved,V7,vr9_trail,aF8,(.int .i64 x13.head),(.pointer (some ⟨br9_queue,0,none⟩)),vr9_proof,(.int .i64 x13.literals),(.bool x13.broken)] 65 (0,0))::aA 3 vr9_value x13.value::aA 3 vr9_level x13.level::aA 71 aF7 (List.map (hq (F6).2) (x13.reason:List (Option Nat)))::aA 3 vr9_saved x13.saved::cO 61 71 (78,3) V7 F6 (x13.watches:(List (List Nat)×List (List Int))) none none::aA 3 vr9_trail x13.trail::aA 3 aF8 x13.starts::Pt br9_queue (.cells #[yD,yC] 68 (0,0))::aA 3 yD x13.queue.list::aA 4 yC x13.queue.isin::bV 25 3 vr9_proof usr9_proof (x13.proof:(List (List Int)))::_::_::_::_::_::_::_::_::L) w:=hp
        refine aC (aI ⟨gp0 hp,gp 20 hp rfl,trivial⟩ fun hS=>?_)
        refine W1 11 (by kernel_rfl) rfl ?_
        refine s_call (wk0 rfl) rfl rfl hE rfl [(.pointer (some ⟨br9,0,none⟩)),(.int .i64 x14)] ⟨rfl,rfl,trivial⟩ yH (dQ br9 x13 vr9_value vr9_level aF7 vr9_saved V7 F6 vr9_trail aF8 br9_queue yD yC vr9_proof usr9_proof x14 ((((((((((((hp.get 12 rfl).get 12 rfl).get 12 rfl).get 12 rfl).get 12 rfl).get 12 rfl).get 12 rfl).get 12 rfl).get 12 rfl).get 12 rfl).get 12 rfl).get 12 rfl) x15 ex15) Ret.ret ?_
        intro v a w hR hE
        obtain⟨vr10_model,vr10_proof,usr10_proof,rfl,hp⟩:=Ret.of hR
        have hp:=r11 hp
        refine aC (aI ⟨gp0 hp,gp 10 hp rfl,trivial⟩ fun hS=>?_)
        refine W1 13 (by kernel_rfl) rfl ?_
        refine dR (wk0 rfl) rfl hE hp rfl rfl rfl 3 rfl fB.size_ rfl (bY ⟨rfl,(aA.one hp 0 rfl),(bV.one hp 1 rfl),rfl,trivial⟩) [(.int .i64 x15.kind),vr10_model,vr10_proof,(.int .i64 x15.conflicts)] rfl ?_
        intro w hp
        have hp:=r11 hp
        refine aC (aI ⟨gp0 hp,gp 10 hp rfl,trivial⟩ fun hS=>?_)
        exact eF (by kernel_rfl) ⟨_,_,_,_,hE.cut ⟨rfl,rfl,rfl,rfl,rfl,rfl,rfl,rfl,rfl,rfl,rfl,trivial⟩,(((((((((((((hp.get 10 rfl).get 10 rfl).get 10 rfl).get 10 rfl).get 10 rfl).get 10 rfl).get 7 rfl).get 7 rfl).get 9 rfl).get 10 rfl).drop).get 9 rfl).drop)⟩
       refine dV rfl ?_
       refine rD (wk0 rfl) rfl rfl hE hp rfl [(.int .i64 0),(.slice none 0 0),(.slice none 0 0),(.int .i64 0)] (fun w=>by simp[Instr.alloc,go_sem]<;>rfl) ?_
       intro a w b14 hE hp
       have hp:=r9 hp
       refine aC (aI ⟨gp0 hp,gp 8 hp rfl,trivial⟩ fun hS=>?_)
       refine W1 6 (by kernel_rfl) rfl ?_
       refine lM (wk0 rfl) rfl rfl hE hp rfl aZ rfl rfl 3 rfl rfl (l2:=[x11]) rfl (fun j u hj=>by have:=Hp.cN 1 rfl 0 _ (bZ rfl) w hp j u hj;simpa using this) ex12 ?_
       intro v6 a w hE hp
       have hp:=r9 hp
       refine aC (aI ⟨gp0 hp,gp 8 hp rfl,trivial⟩ fun hS=>?_)
       refine W1 7 (by kernel_rfl) rfl ?_
       obtain⟨k6,k6a,k6d,k6h⟩:=(hp.get 3 rfl).lend
       refine s_call (wk0 rfl) rfl rfl hE rfl [(.agg #[(.int .i64 p0.vars),aG]),v6] ⟨rfl,rfl,trivial⟩ I9 (jP p0 aG (bT.mono bI (PH.le_un _ _)) x12 v6 (aA.ro k6d k6a) k6h x13 ex13) Ret.ret ?_
       intro v a w hR hE
       obtain⟨br11,aC4,aC0,Q7,aC2,G5,yT,aC3,Q8,aA1,wK,wJ,aC1,usr11_proof,rfl,hp⟩:=Ret.of hR
       have hp:=Hp.back k6a k6d hp
       have hp:Hp Z ρ (_::Pt br11 (.cells #[aC4,aC0,Q7,aC2,G5,aC3,Q8,(.int .i64 x13.head),(.pointer (some ⟨aA1,0,none⟩)),aC1,(.int .i64 x13.literals),(.bool x13.broken)] 65 (0,0))::aA 3 aC4 x13.value::aA 3 aC0 x13.level::aA 71 Q7 (List.map (hq (yT).2) (x13.reason:List (Option Nat)))::aA 3 aC2 x13.saved::cO 61 71 (78,3) G5 yT (x13.watches:(List (List Nat)×List (List Int))) none none::aA 3 aC3 x13.trail::aA 3 Q8 x13.starts::Pt aA1 (.cells #[wK,wJ] 68 (0,0))::aA 3 wK x13.queue.list::aA 4 wJ x13.queue.isin::bV 25 3 aC1 usr11_proof (x13.proof:(List (List Int)))::_::_::_::_::_::_::_::_::L) w:=hp
       refine aC (aI ⟨gp0 hp,gp 20 hp rfl,trivial⟩ fun hS=>?_)
       refine W1 11 (by kernel_rfl) rfl ?_
       refine s_call (wk0 rfl) rfl rfl hE rfl [(.pointer (some ⟨br11,0,none⟩)),(.int .i64 x14)] ⟨rfl,rfl,trivial⟩ yH (dQ br11 x13 aC4 aC0 Q7 aC2 G5 yT aC3 Q8 aA1 wK wJ aC1 usr11_proof x14 ((((((((((((hp.get 12 rfl).get 12 rfl).get 12 rfl).get 12 rfl).get 12 rfl).get 12 rfl).get 12 rfl).get 12 rfl).get 12 rfl).get 12 rfl).get 12 rfl).get 12 rfl) x15 ex15) Ret.ret ?_
       intro v a w hR hE
       obtain⟨vr12_model,vr12_proof,usr12_proof,rfl,hp⟩:=Ret.of hR
       have hp:=r11 hp
       refine aC (aI ⟨gp0 hp,gp 10 hp rfl,trivial⟩ fun hS=>?_)
       refine W1 13 (by kernel_rfl) rfl ?_
       refine dR (wk0 rfl) rfl hE hp rfl rfl rfl 3 rfl fB.size_ rfl (bY ⟨rfl,(aA.one hp 0 rfl),(bV.one hp 1 rfl),rfl,trivial⟩) [(.int .i64 x15.kind),vr12_model,vr12_proof,(.int .i64 x15.conflicts)] rfl ?_
       intro w hp
       have hp:=r11 hp
       refine aC (aI ⟨gp0 hp,gp 10 hp rfl,trivial⟩ fun hS=>?_)
       exact eF (by kernel_rfl) ⟨_,_,_,_,hE.cut ⟨rfl,rfl,rfl,rfl,rfl,rfl,rfl,rfl,rfl,rfl,rfl,trivial⟩,(((((((((((((hp.get 10 rfl).get 10 rfl).get 10 rfl).get 10 rfl).get 10 rfl).get 10 rfl).get 7 rfl).get 7 rfl).get 9 rfl).get 10 rfl).drop).get 9 rfl).drop)⟩
      refine dV rfl ?_
      refine rD (wk0 rfl) rfl rfl hE hp rfl [(.int .i64 0),(.slice none 0 0),(.slice none 0 0),(.int .i64 0)] (fun w=>by simp[Instr.alloc,go_sem]<;>rfl) ?_
      intro a w b15 hE hp
      have hp:=r8 hp
      refine aC (aI ⟨gp0 hp,gp 7 hp rfl,trivial⟩ fun hS=>?_)
      refine W1 5 (by kernel_rfl) rfl ?_
      refine iW (wk0 rfl) rfl rfl hE hp rfl [(0,(.int .i64 x11))] ⟨⟨rfl,rfl⟩,trivial⟩ [(.int .i64 x11)] 3 (fun w=>by simp[Instr.buildSlice,Instr.fill,Value.cells,go_sem]) ?_
      intro a w b16 hE hp
      have hp:=r9 hp
      refine aC (aI ⟨gp0 hp,gp 8 hp rfl,trivial⟩ fun hS=>?_)
      refine W1 6 (by kernel_rfl) rfl ?_
      refine lM (wk0 rfl) rfl rfl hE hp rfl aZ rfl rfl 3 rfl rfl (l2:=[x11]) rfl (fun j u hj=>by have:=Hp.cN 0 rfl 0 _ (bZ rfl) w hp j u hj;simpa using this) ex12 ?_
      intro v7 a w hE hp
      have hp:=r9 hp
      refine aC (aI ⟨gp0 hp,gp 8 hp rfl,trivial⟩ fun hS=>?_)
      refine W1 7 (by kernel_rfl) rfl ?_
      obtain⟨k7,k7a,k7d,k7h⟩:=(hp.get 3 rfl).lend
      refine s_call (wk0 rfl) rfl rfl hE rfl [(.agg #[(.int .i64 p0.vars),aG]),v7] ⟨rfl,rfl,trivial⟩ I9 (jP p0 aG (bT.mono bI (PH.le_un _ _)) x12 v7 (aA.ro k7d k7a) k7h x13 ex13) Ret.ret ?_
      intro v a w hR hE
      obtain⟨br13,aC9,aC5,Q9,aC7,G6,yU,aC8,S9,aA2,wM,wL,aC6,usr13_proof,rfl,hp⟩:=Ret.of hR
      have hp:=Hp.back k7a k7d hp
      have hp:Hp Z ρ (_::Pt br13 (.cells #[aC9,aC5,Q9,aC7,G6,aC8,S9,(.int .i64 x13.head),(.pointer (some ⟨aA2,0,none⟩)),aC6,(.int .i64 x13.literals),(.bool x13.broken)] 65 (0,0))::aA 3 aC9 x13.value::aA 3 aC5 x13.level::aA 71 Q9 (List.map (hq (yU).2) (x13.reason:List (Option Nat)))::aA 3 aC7 x13.saved::cO 61 71 (78,3) G6 yU (x13.watches:(List (List Nat)×List (List Int))) none none::aA 3 aC8 x13.trail::aA 3 S9 x13.starts::Pt aA2 (.cells #[wM,wL] 68 (0,0))::aA 3 wM x13.queue.list::aA 4 wL x13.queue.isin::bV 25 3 aC6 usr13_proof (x13.proof:(List (List Int)))::_::_::_::_::_::_::_::_::L) w:=hp
      refine aC (aI ⟨gp0 hp,gp 20 hp rfl,trivial⟩ fun hS=>?_)
      refine W1 11 (by kernel_rfl) rfl ?_
      refine s_call (wk0 rfl) rfl rfl hE rfl [(.pointer (some ⟨br13,0,none⟩)),(.int .i64 x14)] ⟨rfl,rfl,trivial⟩ yH (dQ br13 x13 aC9 aC5 Q9 aC7 G6 yU aC8 S9 aA2 wM wL aC6 usr13_proof x14 ((((((((((((hp.get 12 rfl).get 12 rfl).get 12 rfl).get 12 rfl).get 12 rfl).get 12 rfl).get 12 rfl).get 12 rfl).get 12 rfl).get 12 rfl).get 12 rfl).get 12 rfl) x15 ex15) Ret.ret ?_
      intro v a w hR hE
      obtain⟨vr14_model,vr14_proof,usr14_proof,rfl,hp⟩:=Ret.of hR
      have hp:=r11 hp
      refine aC (aI ⟨gp0 hp,gp 10 hp rfl,trivial⟩ fun hS=>?_)
      refine W1 13 (by kernel_rfl) rfl ?_
      refine dR (wk0 rfl) rfl hE hp rfl rfl rfl 4 rfl fB.size_ rfl (bY ⟨rfl,(aA.one hp 0 rfl),(bV.one hp 1 rfl),rfl,trivial⟩) [(.int .i64 x15.kind),vr14_model,vr14_proof,(.int .i64 x15.conflicts)] rfl ?_
      intro w hp
      have hp:=r11 hp
      refine aC (aI ⟨gp0 hp,gp 10 hp rfl,trivial⟩ fun hS=>?_)
      exact eF (by kernel_rfl) ⟨_,_,_,_,hE.cut ⟨rfl,rfl,rfl,rfl,rfl,rfl,rfl,rfl,rfl,rfl,rfl,trivial⟩,(((((((((((((hp.get 10 rfl).get 10 rfl).get 10 rfl).get 10 rfl).get 10 rfl).get 10 rfl).get 7 rfl).get 7 rfl).get 10 rfl).get 10 rfl).drop).get 9 rfl).drop)⟩
     ·
      refine dV rfl ?_
      refine iW (wk0 rfl) rfl rfl hE hp rfl [(0,(.int .i64 x11))] ⟨⟨rfl,rfl⟩,trivial⟩ [(.int .i64 x11)] 3 (fun w=>by simp[Instr.buildSlice,Instr.fill,Value.cells,go_sem]) ?_
      intro a w b17 hE hp
      have hp:=r7 hp
      refine aC (aI ⟨gp0 hp,gp 6 hp rfl,trivial⟩ fun hS=>?_)
      refine iY [2,12] (by kernel_rfl) rfl ?_
      refine List.forall_mem_cons.2 ⟨?_,List.forall_mem_cons.2 ⟨?_,fun _ h=>absurd h (by simp)⟩⟩
      ·
       refine dV rfl ?_
       obtain⟨k8,k8a,k8d,k8h⟩:=(hp.get 1 rfl).lend
       refine s_call (wk0 rfl) rfl rfl hE rfl [w86] ⟨rfl,trivial⟩ ent39 (tX dF w86 (aA.ro k8d k8a) k8h x10 ex10) Ret.ret ?_
       intro v8 a w hR hE
       obtain⟨u,hu,hp⟩:=Ret.of hR
       rw[←hu] at hp
       have hp:=Hp.back k8a k8d hp
       have hp:=r8 hp
       have hp:=r8 hp
       refine aC (aI ⟨gp0 hp,gp 7 hp rfl,trivial⟩ fun hS=>?_)
       refine iY [6,12] (by kernel_rfl) rfl ?_
       refine List.forall_mem_cons.2 ⟨?_,List.forall_mem_cons.2 ⟨?_,fun _ h=>absurd h (by simp)⟩⟩
       ·
        refine dV rfl ?_
        refine lM (wk0 rfl) rfl rfl hE hp rfl aZ rfl rfl 1 rfl rfl (l2:=[x11]) rfl (fun j u hj=>by have:=Hp.cN 2 rfl 0 _ (bZ rfl) w hp j u hj;simpa using this) ex12 ?_
        intro v9 a w hE hp
        have hp:=r8 hp
        refine aC (aI ⟨gp0 hp,gp 7 hp rfl,trivial⟩ fun hS=>?_)
        refine iY [7,12] (by kernel_rfl) rfl ?_
        refine List.forall_mem_cons.2 ⟨?_,List.forall_mem_cons.2 ⟨?_,fun _ h=>absurd h (by simp)⟩⟩
        ·
         refine dV rfl ?_
         obtain⟨k9,k9a,k9d,k9h⟩:=(hp.get 1 rfl).lend
         refine s_call (wk0 rfl) rfl rfl hE rfl [(.agg #[(.int .i64 p0.vars),aG]),v9] ⟨rfl,rfl,trivial⟩ I9 (jP p0 aG (bT.mono bI (PH.le_un _ _)) x12 v9 (aA.ro k9d k9a) k9h x13 ex13) Ret.ret ?_
         intro v a w hR hE
         obtain⟨br15,H6,G7,yM,G9,xG,vS,H5,yN,zZ,tC,sZ,G8,Q4,rfl,hp⟩:=Ret.of hR
         have hp:=Hp.back k9a k9d hp
         have hp:Hp Z ρ (_::Pt br15 (.cells #[H6,G7,yM,G9,xG,H5,yN,(.int .i64 x13.head),(.pointer (some ⟨zZ,0,none⟩)),G8,(.int .i64 x13.literals),(.bool x13.broken)] 65 (0,0))::aA 3 H6 x13.value::aA 3 G7 x13.level::aA 71 yM (List.map (hq (vS).2) (x13.reason:List (Option Nat)))::aA 3 G9 x13.saved::cO 61 71 (78,3) xG vS (x13.watches:(List (List Nat)×List (List Int))) none none::aA 3 H5 x13.trail::aA 3 yN x13.starts::Pt zZ (.cells #[tC,sZ] 68 (0,0))::aA 3 tC x13.queue.list::aA 4 sZ x13.queue.isin::bV 25 3 G8 Q4 (x13.proof:(List (List Int)))::_::_::_::_::_::_::_::L) w:=hp
         refine aC (aI ⟨gp0 hp,gp 19 hp rfl,trivial⟩ fun hS=>?_)
         refine iY [11,12] (by kernel_rfl) rfl ?_
         refine List.forall_mem_cons.2 ⟨?_,List.forall_mem_cons.2 ⟨?_,fun _ h=>absurd h (by simp)⟩⟩
         ·
          refine dV rfl ?_
          refine s_call (wk0 rfl) rfl rfl hE rfl [(.pointer (some ⟨br15,0,none⟩)),(.int .i64 x14)] ⟨rfl,rfl,trivial⟩ yH (dQ br15 x13 H6 G7 yM G9 xG vS H5 yN zZ tC sZ G8 Q4 x14 ((((((((((((hp.get 12 rfl).get 12 rfl).get 12 rfl).get 12 rfl).get 12 rfl).get 12 rfl).get 12 rfl).get 12 rfl).get 12 rfl).get 12 rfl).get 12 rfl).get 12 rfl) x15 ex15) Ret.ret ?_
          intro v a w hR hE
          obtain⟨vr16_model,vr16_proof,usr16_proof,rfl,hp⟩:=Ret.of hR
          have hp:=r10 hp
          refine aC (aI ⟨gp0 hp,gp 9 hp rfl,trivial⟩ fun hS=>?_)
          refine W1 12 (by kernel_rfl) rfl ?_
          refine rD (wk0 rfl) rfl rfl hE hp rfl [(.int .i64 0),(.slice none 0 0),(.slice none 0 0),(.int .i64 0)] (fun w=>by simp[Instr.alloc,go_sem]<;>rfl) ?_
          intro a w b18 hE hp
          have hp:=r11 hp
          refine aC (aI ⟨gp0 hp,gp 10 hp rfl,trivial⟩ fun hS=>?_)
          refine W1 13 (by kernel_rfl) rfl ?_
          refine dR (wk0 rfl) rfl hE hp rfl rfl rfl 0 rfl fB.size_ rfl (bY ⟨rfl,(aA.one hp 1 rfl),(bV.one hp 2 rfl),rfl,trivial⟩) [(.int .i64 x15.kind),vr16_model,vr16_proof,(.int .i64 x15.conflicts)] rfl ?_
          intro w hp
          have hp:=r11 hp
          refine aC (aI ⟨gp0 hp,gp 10 hp rfl,trivial⟩ fun hS=>?_)
          exact eF (by kernel_rfl) ⟨_,_,_,_,hE.cut ⟨rfl,rfl,rfl,rfl,rfl,rfl,rfl,rfl,rfl,rfl,rfl,trivial⟩,((((hp.get 5 rfl).drop).get 3 rfl).drop)⟩
         refine dV rfl ?_
         refine rD (wk0 rfl) rfl rfl hE hp rfl [(.int .i64 0),(.slice none 0 0),(.slice none 0 0),(.int .i64 0)] (fun w=>by simp[Instr.alloc,go_sem]<;>rfl) ?_
         intro a w b19 hE hp
         have hp:Hp Z ρ (Pt b19 (.cells #[(.int .i64 0),(.slice none 0 0),(.slice none 0 0),(.int .i64 0)] 29 (0,0))::_::_::_::_::_::_::_::_::_::_::_::_::_::_::_::_::_::_::_::_::L) w:=hp
         refine aC (aI ⟨gp0 hp,gp 20 hp rfl,trivial⟩ fun hS=>?_)
         refine W1 11 (by kernel_rfl) rfl ?_
         refine s_call (wk0 rfl) rfl rfl hE rfl [(.pointer (some ⟨br15,0,none⟩)),(.int .i64 x14)] ⟨rfl,rfl,trivial⟩ yH (dQ br15 x13 H6 G7 yM G9 xG vS H5 yN zZ tC sZ G8 Q4 x14 ((((((((((((hp.get 13 rfl).get 13 rfl).get 13 rfl).get 13 rfl).get 13 rfl).get 13 rfl).get 13 rfl).get 13 rfl).get 13 rfl).get 13 rfl).get 13 rfl).get 13 rfl) x15 ex15) Ret.ret ?_
         intro v a w hR hE
         obtain⟨vr17_model,vr17_proof,usr17_proof,rfl,hp⟩:=Ret.of hR
         have hp:=r11 hp
         refine aC (aI ⟨gp0 hp,gp 10 hp rfl,trivial⟩ fun hS=>?_)
         refine W1 13 (by kernel_rfl) rfl ?_
         refine dR (wk0 rfl) rfl hE hp rfl rfl rfl 2 rfl fB.size_ rfl (bY ⟨rfl,(aA.one hp 0 rfl),(bV.one hp 1 rfl),rfl,trivial⟩) [(.int .i64 x15.kind),vr17_model,vr17_proof,(.int .i64 x15.conflicts)] rfl ?_
         intro w hp
         have hp:=r11 hp
         refine aC (aI ⟨gp0 hp,gp 10 hp rfl,trivial⟩ fun hS=>?_)
         exact eF (by kernel_rfl) ⟨_,_,_,_,hE.cut ⟨rfl,rfl,rfl,rfl,rfl,rfl,rfl,rfl,rfl,rfl,rfl,trivial⟩,(((((((((((((hp.get 10 rfl).get 10 rfl).get 10 rfl).get 10 rfl).get 10 rfl).get 9 rfl).get 7 rfl).get 7 rfl).get 8 rfl).get 10 rfl).drop).get 9 rfl).drop)⟩
        refine dV rfl ?_
        refine rD (wk0 rfl) rfl rfl hE hp rfl [(.int .i64 0),(.slice none 0 0),(.slice none 0 0),(.int .i64 0)] (fun w=>by simp[Instr.alloc,go_sem]<;>rfl) ?_
        intro a w b20 hE hp
        have hp:=r9 hp
        refine aC (aI ⟨gp0 hp,gp 8 hp rfl,trivial⟩ fun hS=>?_)
        refine W1 7 (by kernel_rfl) rfl ?_
        obtain⟨k10,k10a,k10d,k10h⟩:=(hp.get 2 rfl).lend
        refine s_call (wk0 rfl) rfl rfl hE rfl [(.agg #[(.int .i64 p0.vars),aG]),v9] ⟨rfl,rfl,trivial⟩ I9 (jP p0 aG (bT.mono bI (PH.le_un _ _)) x12 v9 (aA.ro k10d k10a) k10h x13 ex13) Ret.ret ?_
        intro v a w hR hE
        obtain⟨br18,aD4,aD0,U0,aD2,H7,yV,aD3,U1,aA3,wP,wO,aD1,usr18_proof,rfl,hp⟩:=Ret.of hR
        have hp:=Hp.back k10a k10d hp
        have hp:Hp Z ρ (_::Pt br18 (.cells #[aD4,aD0,U0,aD2,H7,aD3,U1,(.int .i64 x13.head),(.pointer (some ⟨aA3,0,none⟩)),aD1,(.int .i64 x13.literals),(.bool x13.broken)] 65 (0,0))::aA 3 aD4 x13.value::aA 3 aD0 x13.level::aA 71 U0 (List.map (hq (yV).2) (x13.reason:List (Option Nat)))::aA 3 aD2 x13.saved::cO 61 71 (78,3) H7 yV (x13.watches:(List (List Nat)×List (List Int))) none none::aA 3 aD3 x13.trail::aA 3 U1 x13.starts::Pt aA3 (.cells #[wP,wO] 68 (0,0))::aA 3 wP x13.queue.list::aA 4 wO x13.queue.isin::bV 25 3 aD1 usr18_proof (x13.proof:(List (List Int)))::_::_::_::_::_::_::_::_::L) w:=hp
        refine aC (aI ⟨gp0 hp,gp 20 hp rfl,trivial⟩ fun hS=>?_)
        refine W1 11 (by kernel_rfl) rfl ?_
        refine s_call (wk0 rfl) rfl rfl hE rfl [(.pointer (some ⟨br18,0,none⟩)),(.int .i64 x14)] ⟨rfl,rfl,trivial⟩ yH (dQ br18 x13 aD4 aD0 U0 aD2 H7 yV aD3 U1 aA3 wP wO aD1 usr18_proof x14 ((((((((((((hp.get 12 rfl).get 12 rfl).get 12 rfl).get 12 rfl).get 12 rfl).get 12 rfl).get 12 rfl).get 12 rfl).get 12 rfl).get 12 rfl).get 12 rfl).get 12 rfl) x15 ex15) Ret.ret ?_
        intro v a w hR hE
        obtain⟨vr19_model,vr19_proof,usr19_proof,rfl,hp⟩:=Ret.of hR
        have hp:=r11 hp
        refine aC (aI ⟨gp0 hp,gp 10 hp rfl,trivial⟩ fun hS=>?_)
        refine W1 13 (by kernel_rfl) rfl ?_
        refine dR (wk0 rfl) rfl hE hp rfl rfl rfl 3 rfl fB.size_ rfl (bY ⟨rfl,(aA.one hp 0 rfl),(bV.one hp 1 rfl),rfl,trivial⟩) [(.int .i64 x15.kind),vr19_model,vr19_proof,(.int .i64 x15.conflicts)] rfl ?_
        intro w hp
        have hp:=r11 hp
        refine aC (aI ⟨gp0 hp,gp 10 hp rfl,trivial⟩ fun hS=>?_)
        exact eF (by kernel_rfl) ⟨_,_,_,_,hE.cut ⟨rfl,rfl,rfl,rfl,rfl,rfl,rfl,rfl,rfl,rfl,rfl,trivial⟩,(((((((((((((hp.get 10 rfl).get 10 rfl).get 10 rfl).get 10 rfl).get 10 rfl).get 9 rfl).get 7 rfl).get 7 rfl).get 9 rfl).get 10 rfl).drop).get 9 rfl).drop)⟩
       refine dV rfl ?_
       refine rD (wk0 rfl) rfl rfl hE hp rfl [(.int .i64 0),(.slice none 0 0),(.slice none 0 0),(.int .i64 0)] (fun w=>by simp[Instr.alloc,go_sem]<;>rfl) ?_
       intro a w b21 hE hp
       have hp:=r9 hp
       refine aC (aI ⟨gp0 hp,gp 8 hp rfl,trivial⟩ fun hS=>?_)
       refine W1 6 (by kernel_rfl) rfl ?_
       refine lM (wk0 rfl) rfl rfl hE hp rfl aZ rfl rfl 2 rfl rfl (l2:=[x11]) rfl (fun j u hj=>by have:=Hp.cN 3 rfl 0 _ (bZ rfl) w hp j u hj;simpa using this) ex12 ?_
       intro v10 a w hE hp
       have hp:=r9 hp
       refine aC (aI ⟨gp0 hp,gp 8 hp rfl,trivial⟩ fun hS=>?_)
       refine W1 7 (by kernel_rfl) rfl ?_
       obtain⟨k11,k11a,k11d,k11h⟩:=(hp.get 2 rfl).lend
       refine s_call (wk0 rfl) rfl rfl hE rfl [(.agg #[(.int .i64 p0.vars),aG]),v10] ⟨rfl,rfl,trivial⟩ I9 (jP p0 aG (bT.mono bI (PH.le_un _ _)) x12 v10 (aA.ro k11d k11a) k11h x13 ex13) Ret.ret ?_
       intro v a w hR hE
       obtain⟨br20,aD9,aD5,U4,aD7,H8,yX,aD8,U5,aA4,wR,wQ,aD6,usr20_proof,rfl,hp⟩:=Ret.of hR
       have hp:=Hp.back k11a k11d hp
       have hp:Hp Z ρ (_::Pt br20 (.cells #[aD9,aD5,U4,aD7,H8,aD8,U5,(.int .i64 x13.head),(.pointer (some ⟨aA4,0,none⟩)),aD6,(.int .i64 x13.literals),(.bool x13.broken)] 65 (0,0))::aA 3 aD9 x13.value::aA 3 aD5 x13.level::aA 71 U4 (List.map (hq (yX).2) (x13.reason:List (Option Nat)))::aA 3 aD7 x13.saved::cO 61 71 (78,3) H8 yX (x13.watches:(List (List Nat)×List (List Int))) none none::aA 3 aD8 x13.trail::aA 3 U5 x13.starts::Pt aA4 (.cells #[wR,wQ] 68 (0,0))::aA 3 wR x13.queue.list::aA 4 wQ x13.queue.isin::bV 25 3 aD6 usr20_proof (x13.proof:(List (List Int)))::_::_::_::_::_::_::_::_::L) w:=hp
       refine aC (aI ⟨gp0 hp,gp 20 hp rfl,trivial⟩ fun hS=>?_)
       refine W1 11 (by kernel_rfl) rfl ?_
       refine s_call (wk0 rfl) rfl rfl hE rfl [(.pointer (some ⟨br20,0,none⟩)),(.int .i64 x14)] ⟨rfl,rfl,trivial⟩ yH (dQ br20 x13 aD9 aD5 U4 aD7 H8 yX aD8 U5 aA4 wR wQ aD6 usr20_proof x14 ((((((((((((hp.get 12 rfl).get 12 rfl).get 12 rfl).get 12 rfl).get 12 rfl).get 12 rfl).get 12 rfl).get 12 rfl).get 12 rfl).get 12 rfl).get 12 rfl).get 12 rfl) x15 ex15) Ret.ret ?_
       intro v a w hR hE
       obtain⟨vr21_model,vr21_proof,usr21_proof,rfl,hp⟩:=Ret.of hR
       have hp:=r11 hp
       refine aC (aI ⟨gp0 hp,gp 10 hp rfl,trivial⟩ fun hS=>?_)
       refine W1 13 (by kernel_rfl) rfl ?_
       refine dR (wk0 rfl) rfl hE hp rfl rfl rfl 3 rfl fB.size_ rfl (bY ⟨rfl,(aA.one hp 0 rfl),(bV.one hp 1 rfl),rfl,trivial⟩) [(.int .i64 x15.kind),vr21_model,vr21_proof,(.int .i64 x15.conflicts)] rfl ?_
       intro w hp
       have hp:=r11 hp
       refine aC (aI ⟨gp0 hp,gp 10 hp rfl,trivial⟩ fun hS=>?_)
       exact eF (by kernel_rfl) ⟨_,_,_,_,hE.cut ⟨rfl,rfl,rfl,rfl,rfl,rfl,rfl,rfl,rfl,rfl,rfl,trivial⟩,(((((((((((((hp.get 10 rfl).get 10 rfl).get 10 rfl).get 10 rfl).get 10 rfl).get 9 rfl).get 7 rfl).get 7 rfl).get 9 rfl).get 10 rfl).drop).get 9 rfl).drop)⟩
      refine dV rfl ?_
      refine rD (wk0 rfl) rfl rfl hE hp rfl [(.int .i64 0),(.slice none 0 0),(.slice none 0 0),(.int .i64 0)] (fun w=>by simp[Instr.alloc,go_sem]<;>rfl) ?_
      intro a w b22 hE hp
      have hp:=r8 hp
      refine aC (aI ⟨gp0 hp,gp 7 hp rfl,trivial⟩ fun hS=>?_)
      refine W1 2 (by kernel_rfl) rfl ?_
      obtain⟨k12,k12a,k12d,k12h⟩:=(hp.get 2 rfl).lend
      refine s_call (wk0 rfl) rfl rfl hE rfl [w86] ⟨rfl,trivial⟩ ent39 (tX dF w86 (aA.ro k12d k12a) k12h x10 ex10) Ret.ret ?_
      intro v11 a w hR hE
      obtain⟨u,hu,hp⟩:=Ret.of hR
      rw[←hu] at hp
      have hp:=Hp.back k12a k12d hp
      have hp:=r9 hp
      have hp:=r9 hp
      refine aC (aI ⟨gp0 hp,gp 8 hp rfl,trivial⟩ fun hS=>?_)
      refine W1 6 (by kernel_rfl) rfl ?_
      refine lM (wk0 rfl) rfl rfl hE hp rfl aZ rfl rfl 1 rfl rfl (l2:=[x11]) rfl (fun j u hj=>by have:=Hp.cN 3 rfl 0 _ (bZ rfl) w hp j u hj;simpa using this) ex12 ?_
      intro v12 a w hE hp
      have hp:=r9 hp
      refine aC (aI ⟨gp0 hp,gp 8 hp rfl,trivial⟩ fun hS=>?_)
      refine W1 7 (by kernel_rfl) rfl ?_
      obtain⟨k13,k13a,k13d,k13h⟩:=(hp.get 1 rfl).lend
      refine s_call (wk0 rfl) rfl rfl hE rfl [(.agg #[(.int .i64 p0.vars),aG]),v12] ⟨rfl,rfl,trivial⟩ I9 (jP p0 aG (bT.mono bI (PH.le_un _ _)) x12 v12 (aA.ro k13d k13a) k13h x13 ex13) Ret.ret ?_
      intro v a w hR hE
      obtain⟨br22,aE4,aE0,U6,aE2,H9,yY,aE3,U7,aA5,wU,wS,aE1,usr22_proof,rfl,hp⟩:=Ret.of hR
      have hp:=Hp.back k13a k13d hp
      have hp:Hp Z ρ (_::Pt br22 (.cells #[aE4,aE0,U6,aE2,H9,aE3,U7,(.int .i64 x13.head),(.pointer (some ⟨aA5,0,none⟩)),aE1,(.int .i64 x13.literals),(.bool x13.broken)] 65 (0,0))::aA 3 aE4 x13.value::aA 3 aE0 x13.level::aA 71 U6 (List.map (hq (yY).2) (x13.reason:List (Option Nat)))::aA 3 aE2 x13.saved::cO 61 71 (78,3) H9 yY (x13.watches:(List (List Nat)×List (List Int))) none none::aA 3 aE3 x13.trail::aA 3 U7 x13.starts::Pt aA5 (.cells #[wU,wS] 68 (0,0))::aA 3 wU x13.queue.list::aA 4 wS x13.queue.isin::bV 25 3 aE1 usr22_proof (x13.proof:(List (List Int)))::_::_::_::_::_::_::_::_::L) w:=hp
      refine aC (aI ⟨gp0 hp,gp 20 hp rfl,trivial⟩ fun hS=>?_)
      refine W1 11 (by kernel_rfl) rfl ?_
      refine s_call (wk0 rfl) rfl rfl hE rfl [(.pointer (some ⟨br22,0,none⟩)),(.int .i64 x14)] ⟨rfl,rfl,trivial⟩ yH (dQ br22 x13 aE4 aE0 U6 aE2 H9 yY aE3 U7 aA5 wU wS aE1 usr22_proof x14 ((((((((((((hp.get 12 rfl).get 12 rfl).get 12 rfl).get 12 rfl).get 12 rfl).get 12 rfl).get 12 rfl).get 12 rfl).get 12 rfl).get 12 rfl).get 12 rfl).get 12 rfl) x15 ex15) Ret.ret ?_
      intro v a w hR hE
      obtain⟨vr23_model,vr23_proof,usr23_proof,rfl,hp⟩:=Ret.of hR
      have hp:=r11 hp
      refine aC (aI ⟨gp0 hp,gp 10 hp rfl,trivial⟩ fun hS=>?_)
      refine W1 13 (by kernel_rfl) rfl ?_
      refine dR (wk0 rfl) rfl hE hp rfl rfl rfl 4 rfl fB.size_ rfl (bY ⟨rfl,(aA.one hp 0 rfl),(bV.one hp 1 rfl),rfl,trivial⟩) [(.int .i64 x15.kind),vr23_model,vr23_proof,(.int .i64 x15.conflicts)] rfl ?_
      intro w hp
      have hp:=r11 hp
      refine aC (aI ⟨gp0 hp,gp 10 hp rfl,trivial⟩ fun hS=>?_)
      exact eF (by kernel_rfl) ⟨_,_,_,_,hE.cut ⟨rfl,rfl,rfl,rfl,rfl,rfl,rfl,rfl,rfl,rfl,rfl,trivial⟩,(((((((((((((hp.get 10 rfl).get 10 rfl).get 10 rfl).get 10 rfl).get 10 rfl).get 8 rfl).get 7 rfl).get 7 rfl).get 9 rfl).get 10 rfl).drop).get 9 rfl).drop)⟩
     refine dV rfl ?_
     refine rD (wk0 rfl) rfl rfl hE hp rfl [(.int .i64 0),(.slice none 0 0),(.slice none 0 0),(.int .i64 0)] (fun w=>by simp[Instr.alloc,go_sem]<;>rfl) ?_
     intro a w b23 hE hp
     have hp:=r7 hp
     refine aC (aI ⟨gp0 hp,gp 6 hp rfl,trivial⟩ fun hS=>?_)
     refine iY [2,5] (by kernel_rfl) rfl ?_
     refine List.forall_mem_cons.2 ⟨?_,List.forall_mem_cons.2 ⟨?_,fun _ h=>absurd h (by simp)⟩⟩
     ·
      refine dV rfl ?_
      obtain⟨k14,k14a,k14d,k14h⟩:=(hp.get 1 rfl).lend
      refine s_call (wk0 rfl) rfl rfl hE rfl [w86] ⟨rfl,trivial⟩ ent39 (tX dF w86 (aA.ro k14d k14a) k14h x10 ex10) Ret.ret ?_
      intro v13 a w hR hE
      obtain⟨u,hu,hp⟩:=Ret.of hR
      rw[←hu] at hp
      have hp:=Hp.back k14a k14d hp
      have hp:=r8 hp
      have hp:=r8 hp
      refine aC (aI ⟨gp0 hp,gp 7 hp rfl,trivial⟩ fun hS=>?_)
      refine W1 5 (by kernel_rfl) rfl ?_
      refine iW (wk0 rfl) rfl rfl hE hp rfl [(0,(.int .i64 x11))] ⟨⟨rfl,rfl⟩,trivial⟩ [(.int .i64 x11)] 3 (fun w=>by simp[Instr.buildSlice,Instr.fill,Value.cells,go_sem]) ?_
      intro a w b24 hE hp
      have hp:=r9 hp
      refine aC (aI ⟨gp0 hp,gp 8 hp rfl,trivial⟩ fun hS=>?_)
      refine W1 6 (by kernel_rfl) rfl ?_
      refine lM (wk0 rfl) rfl rfl hE hp rfl aZ rfl rfl 2 rfl rfl (l2:=[x11]) rfl (fun j u hj=>by have:=Hp.cN 0 rfl 0 _ (bZ rfl) w hp j u hj;simpa using this) ex12 ?_
      intro v14 a w hE hp
      have hp:=r9 hp
      refine aC (aI ⟨gp0 hp,gp 8 hp rfl,trivial⟩ fun hS=>?_)
      refine W1 7 (by kernel_rfl) rfl ?_
      obtain⟨k15,k15a,k15d,k15h⟩:=(hp.get 2 rfl).lend
      refine s_call (wk0 rfl) rfl rfl hE rfl [(.agg #[(.int .i64 p0.vars),aG]),v14] ⟨rfl,rfl,trivial⟩ I9 (jP p0 aG (bT.mono bI (PH.le_un _ _)) x12 v14 (aA.ro k15d k15a) k15h x13 ex13) Ret.ret ?_
      intro v a w hR hE
      obtain⟨br24,aE9,aE5,U9,aE7,I4,yZ,aE8,V3,aA6,wW,wV,aE6,usr24_proof,rfl,hp⟩:=Ret.of hR
      have hp:=Hp.back k15a k15d hp
      have hp:Hp Z ρ (_::Pt br24 (.cells #[aE9,aE5,U9,aE7,I4,aE8,V3,(.int .i64 x13.head),(.pointer (some ⟨aA6,0,none⟩)),aE6,(.int .i64 x13.literals),(.bool x13.broken)] 65 (0,0))::aA 3 aE9 x13.value::aA 3 aE5 x13.level::aA 71 U9 (List.map (hq (yZ).2) (x13.reason:List (Option Nat)))::aA 3 aE7 x13.saved::cO 61 71 (78,3) I4 yZ (x13.watches:(List (List Nat)×List (List Int))) none none::aA 3 aE8 x13.trail::aA 3 V3 x13.starts::Pt aA6 (.cells #[wW,wV] 68 (0,0))::aA 3 wW x13.queue.list::aA 4 wV x13.queue.isin::bV 25 3 aE6 usr24_proof (x13.proof:(List (List Int)))::_::_::_::_::_::_::_::_::L) w:=hp
      refine aC (aI ⟨gp0 hp,gp 20 hp rfl,trivial⟩ fun hS=>?_)
      refine W1 11 (by kernel_rfl) rfl ?_
      refine s_call (wk0 rfl) rfl rfl hE rfl [(.pointer (some ⟨br24,0,none⟩)),(.int .i64 x14)] ⟨rfl,rfl,trivial⟩ yH (dQ br24 x13 aE9 aE5 U9 aE7 I4 yZ aE8 V3 aA6 wW wV aE6 usr24_proof x14 ((((((((((((hp.get 12 rfl).get 12 rfl).get 12 rfl).get 12 rfl).get 12 rfl).get 12 rfl).get 12 rfl).get 12 rfl).get 12 rfl).get 12 rfl).get 12 rfl).get 12 rfl) x15 ex15) Ret.ret ?_
      intro v a w hR hE
      obtain⟨vr25_model,vr25_proof,usr25_proof,rfl,hp⟩:=Ret.of hR
      have hp:=r11 hp
      refine aC (aI ⟨gp0 hp,gp 10 hp rfl,trivial⟩ fun hS=>?_)
      refine W1 13 (by kernel_rfl) rfl ?_
      refine dR (wk0 rfl) rfl hE hp rfl rfl rfl 5 rfl fB.size_ rfl (bY ⟨rfl,(aA.one hp 0 rfl),(bV.one hp 1 rfl),rfl,trivial⟩) [(.int .i64 x15.kind),vr25_model,vr25_proof,(.int .i64 x15.conflicts)] rfl ?_
      intro w hp
      have hp:=r11 hp
      refine aC (aI ⟨gp0 hp,gp 10 hp rfl,trivial⟩ fun hS=>?_)
      exact eF (by kernel_rfl) ⟨_,_,_,_,hE.cut ⟨rfl,rfl,rfl,rfl,rfl,rfl,rfl,rfl,rfl,rfl,rfl,trivial⟩,(((((((((((((hp.get 10 rfl).get 10 rfl).get 10 rfl).get 10 rfl).get 10 rfl).get 9 rfl).get 7 rfl).get 7 rfl).get 10 rfl).get 10 rfl).drop).get 9 rfl).drop)⟩
     refine dV rfl ?_
     refine iW (wk0 rfl) rfl rfl hE hp rfl [(0,(.int .i64 x11))] ⟨⟨rfl,rfl⟩,trivial⟩ [(.int .i64 x11)] 3 (fun w=>by simp[Instr.buildSlice,Instr.fill,Value.cells,go_sem]) ?_
     intro a w b25 hE hp
     have hp:=r8 hp
     refine aC (aI ⟨gp0 hp,gp 7 hp rfl,trivial⟩ fun hS=>?_)
     refine W1 2 (by kernel_rfl) rfl ?_
     obtain⟨k16,k16a,k16d,k16h⟩:=(hp.get 2 rfl).lend
     refine s_call (wk0 rfl) rfl rfl hE rfl [w86] ⟨rfl,trivial⟩ ent39 (tX dF w86 (aA.ro k16d k16a) k16h x10 ex10) Ret.ret ?_
     intro v15 a w hR hE
     obtain⟨u,hu,hp⟩:=Ret.of hR
     rw[←hu] at hp
     have hp:=Hp.back k16a k16d hp
     have hp:=r9 hp
     have hp:=r9 hp
     refine aC (aI ⟨gp0 hp,gp 8 hp rfl,trivial⟩ fun hS=>?_)
     refine W1 6 (by kernel_rfl) rfl ?_
     refine lM (wk0 rfl) rfl rfl hE hp rfl aZ rfl rfl 1 rfl rfl (l2:=[x11]) rfl (fun j u hj=>by have:=Hp.cN 2 rfl 0 _ (bZ rfl) w hp j u hj;simpa using this) ex12 ?_
     intro v16 a w hE hp
     have hp:=r9 hp
     refine aC (aI ⟨gp0 hp,gp 8 hp rfl,trivial⟩ fun hS=>?_)
     refine W1 7 (by kernel_rfl) rfl ?_
     obtain⟨k17,k17a,k17d,k17h⟩:=(hp.get 1 rfl).lend
     refine s_call (wk0 rfl) rfl rfl hE rfl [(.agg #[(.int .i64 p0.vars),aG]),v16] ⟨rfl,rfl,trivial⟩ I9 (jP p0 aG (bT.mono bI (PH.le_un _ _)) x12 v16 (aA.ro k17d k17a) k17h x13 ex13) Ret.ret ?_
     intro v a w hR hE
     obtain⟨br26,aF4,aF0,V4,aF2,I5,zA,aF3,V5,aA7,wY,wX,aF1,usr26_proof,rfl,hp⟩:=Ret.of hR
     have hp:=Hp.back k17a k17d hp
     have hp:Hp Z ρ (_::Pt br26 (.cells #[aF4,aF0,V4,aF2,I5,aF3,V5,(.int .i64 x13.head),(.pointer (some ⟨aA7,0,none⟩)),aF1,(.int .i64 x13.literals),(.bool x13.broken)] 65 (0,0))::aA 3 aF4 x13.value::aA 3 aF0 x13.level::aA 71 V4 (List.map (hq (zA).2) (x13.reason:List (Option Nat)))::aA 3 aF2 x13.saved::cO 61 71 (78,3) I5 zA (x13.watches:(List (List Nat)×List (List Int))) none none::aA 3 aF3 x13.trail::aA 3 V5 x13.starts::Pt aA7 (.cells #[wY,wX] 68 (0,0))::aA 3 wY x13.queue.list::aA 4 wX x13.queue.isin::bV 25 3 aF1 usr26_proof (x13.proof:(List (List Int)))::_::_::_::_::_::_::_::_::L) w:=hp
     refine aC (aI ⟨gp0 hp,gp 20 hp rfl,trivial⟩ fun hS=>?_)
     refine W1 11 (by kernel_rfl) rfl ?_
     refine s_call (wk0 rfl) rfl rfl hE rfl [(.pointer (some ⟨br26,0,none⟩)),(.int .i64 x14)] ⟨rfl,rfl,trivial⟩ yH (dQ br26 x13 aF4 aF0 V4 aF2 I5 zA aF3 V5 aA7 wY wX aF1 usr26_proof x14 ((((((((((((hp.get 12 rfl).get 12 rfl).get 12 rfl).get 12 rfl).get 12 rfl).get 12 rfl).get 12 rfl).get 12 rfl).get 12 rfl).get 12 rfl).get 12 rfl).get 12 rfl) x15 ex15) Ret.ret ?_
     intro v a w hR hE
     obtain⟨vr27_model,vr27_proof,usr27_proof,rfl,hp⟩:=Ret.of hR
     have hp:=r11 hp
     refine aC (aI ⟨gp0 hp,gp 10 hp rfl,trivial⟩ fun hS=>?_)
     refine W1 13 (by kernel_rfl) rfl ?_
     refine dR (wk0 rfl) rfl hE hp rfl rfl rfl 5 rfl fB.size_ rfl (bY ⟨rfl,(aA.one hp 0 rfl),(bV.one hp 1 rfl),rfl,trivial⟩) [(.int .i64 x15.kind),vr27_model,vr27_proof,(.int .i64 x15.conflicts)] rfl ?_
     intro w hp
     have hp:=r11 hp
     refine aC (aI ⟨gp0 hp,gp 10 hp rfl,trivial⟩ fun hS=>?_)
     exact eF (by kernel_rfl) ⟨_,_,_,_,hE.cut ⟨rfl,rfl,rfl,rfl,rfl,rfl,rfl,rfl,rfl,rfl,rfl,trivial⟩,(((((((((((((hp.get 10 rfl).get 10 rfl).get 10 rfl).get 10 rfl).get 10 rfl).get 8 rfl).get 7 rfl).get 7 rfl).get 10 rfl).get 10 rfl).drop).get 9 rfl).drop)⟩
    rintro a w ⟨y164,y162,y163,yus163,hE,hp⟩
    refine aH (aB ?_)
    refine S hE 1 rfl fun a hE=>V hE hp rfl (xf hE fldty29_3 rfl rfl) fun a hE=>V hE hp rfl (xl hE bG 0 rfl rfl rfl rfl) fun a hE=>?_
    obtain⟨x16,ex16,hj1⟩:=bnd hj1
    refine V hE hp rfl (dJ rfl hE rfl rfl (bD ex16)) fun a hE=>S hE 1 rfl fun a hE=>aC (aH ?_)
    refine aB (V hE hp rfl (xf hE uY rfl rfl) fun a hE=>?_)
    refine V hE hp rfl (xl hE bG 0 rfl rfl rfl rfl) fun a hE=>aC (dH ?_)
    refine aH (aB ?_)
    refine S hE 2 rfl fun a hE=>aC ?_
    refine dO hE rfl (fun hc6=>?_) (fun hc6=>?_)
    ·replace hj1:=(it hc6).symm.trans hj1
     refine aH (aB ?_)
     refine S hE 1 rfl fun a hE=>V hE hp rfl (v:=(.agg #[(.int .i64 2),(.slice none 0 0),(.slice none 0 0),(.int .i64 x16)])) (qM rfl hE [(0,(.int .i64 2)),(3,(.int .i64 x16))] (by exact⟨⟨rfl,rfl⟩,⟨rfl,rfl⟩,trivial⟩) (fun w=>by simp[Instr.build,Instr.fill,Value.cells,go_sem])) fun a hE=>?_
     refine dR (wk0 rfl) rfl hE hp rfl rfl rfl 7 rfl fB.size_ rfl (bY ⟨rfl,rfl,rfl,rfl,trivial⟩) [(.int .i64 2),(.slice none 0 0),(.slice none 0 0),(.int .i64 x16)] rfl ?_
     intro w hp
     have hp:=r9 hp
     refine S hE 1 rfl fun a hE=>aC (dE ?_)
     obtain rfl:=Option.some.inj hj1
     refine⟨_,(Option.some.inj hl1).symm,fun hb=>?_⟩
     subst hb
     have hp:=hp.emp (aA.nil (α:=Int) 3)
     have hp:=r10 hp
     have hp:=hp.emp (bV.none (α:=Int) 25 3 none)
     have hp:=r11 hp
     have hp:=r11 hp
     obtain rfl:=Option.some.inj hm
     exact retct hE rfl rfl rfl (rZ (cs:=[(.int .i64 2),(.slice none 0 0),(.slice none 0 0),(.int .i64 x16)]) fB (Hp.cN 9 rfl 0 _ (bZ rfl) _ hp)) ⟨_,rfl,_,_,_,rfl,((((((((((((((((((((hp.get 0 rfl).get 1 rfl).get 10 rfl).drop).get 9 rfl).drop).get 8 rfl).drop).get 7 rfl).drop).get 6 rfl).drop).get 5 rfl).drop).get 4 rfl).drop).get 3 rfl).drop).get 2 rfl).drop)⟩
    replace hj1:=(ie hc6).symm.trans hj1
    refine aH (aB ?_)
    refine S hE 2 rfl fun a hE=>aC ?_
    have hE:=hE.cut (E':=[(2,(.int .i64 p2)),(3,(.pointer (some ⟨b1,0,none⟩))),(6,(.pointer (some ⟨b2,0,none⟩))),(8,(.pointer (some ⟨b3,0,none⟩))),(9,w86),(10,(.int .i64 x16)),(12,(.int .i64 x4)),(13,(.pointer (some ⟨y164,0,none⟩))),(30,vp1),(31,(.int .i64 (p1.length:Int))),(32,(.int .i64 bU)),(76,(.bool (decide (x15.kind=0))))]) ⟨rfl,rfl,rfl,rfl,rfl,rfl,rfl,rfl,rfl,rfl,rfl,rfl,trivial⟩
    refine dO hE rfl (fun hc7=>?_) (fun hc7=>?_)
    ·replace hj1:=(it hc7).symm.trans hj1
     refine aH (aB ?_)
     refine V hE hp rfl (bC rfl hE rfl (fun w hw=>iK (cs:=[(.int .i64 x15.kind),y162,y163,(.int .i64 x15.conflicts)]) fB (Hp.cN 0 rfl 0 _ (bZ rfl) w hw))) fun a hE=>?_
     refine dR (wk0 rfl) rfl hE hp rfl rfl rfl 4 rfl fB.size_ rfl (bY ⟨rfl,(aA.one hp 1 rfl),(bV.one hp 2 rfl),rfl,trivial⟩) [(.int .i64 x15.kind),y162,y163,(.int .i64 x15.conflicts)] rfl ?_
     intro w hp
     have hp:=r9 hp
     refine aC (aB ?_)
     refine S hE 2 rfl fun a hE=>?_
     obtain⟨x17,ex17,hj1⟩:=bnd hj1
     refine V hE hp rfl (oD rfl hE rfl (bD ex17)) fun a hE=>?_
     refine iW (wk0 rfl) rfl rfl hE hp rfl [(0,(.int .i64 x17))] ⟨⟨rfl,rfl⟩,trivial⟩ [(.int .i64 x17)] 3 (fun w=>by simp[Instr.buildSlice,Instr.fill,Value.cells,go_sem]) ?_
     intro a w b26 hE hp
     have hp:=r10 hp
     obtain⟨x18,ex18,hj1⟩:=bnd hj1
     refine lM (wk0 rfl) rfl rfl hE hp rfl aZ rfl rfl 4 rfl rfl (l2:=[x17]) rfl (fun j u hj=>by have:=Hp.cN 0 rfl 0 _ (bZ rfl) w hp j u hj;simpa using this) ex18 ?_
     intro v17 a w hE hp
     have hp:=r10 hp
     refine S hE 1 rfl fun a hE=>aC ?_
     have hp:=(hp.get 1 rfl).drop
     have hp:=(hp.get 5 rfl).drop
     have hp:=r8 hp
     have hp:=(hp.get 5 rfl).drop
     have hp:=r7 hp
     obtain rfl:=Option.some.inj hj1
     exact⟨_,rfl,_,_,_,_,hE.cut ⟨rfl,rfl,rfl,rfl,rfl,rfl,rfl,rfl,rfl,trivial⟩,((((((((hp.get 6 rfl).get 6 rfl).get 4 rfl).get 4 rfl).get 6 rfl).get 6 rfl).get 6 rfl).drop)⟩
    replace hj1:=(ie hc7).symm.trans hj1
    refine aB (S hE 2 rfl fun a hE=>?_)
    refine iW (wk0 rfl) rfl rfl hE hp rfl [(0,(.int .i64 x4))] ⟨⟨rfl,rfl⟩,trivial⟩ [(.int .i64 x4)] 3 (fun w=>by simp[Instr.buildSlice,Instr.fill,Value.cells,go_sem]) ?_
    intro a w b27 hE hp
    have hp:=r10 hp
    obtain⟨x19,ex19,hj1⟩:=bnd hj1
    refine lM (wk0 rfl) rfl rfl hE hp rfl aZ rfl rfl 4 rfl rfl (l2:=[x4]) rfl (fun j u hj=>by have:=Hp.cN 0 rfl 0 _ (bZ rfl) w hp j u hj;simpa using this) ex19 ?_
    intro v18 a w hE hp
    have hp:=r10 hp
    refine S hE 1 rfl fun a hE=>aC ?_
    obtain rfl:=Option.some.inj hj1
    exact⟨_,rfl,_,_,_,_,hE.cut ⟨rfl,rfl,rfl,rfl,rfl,rfl,rfl,rfl,rfl,trivial⟩,(((((((hp.get 3 rfl).drop).get 2 rfl).drop).get 1 rfl).drop).drop)⟩
   rintro a w ⟨j1s,rfl,w86,w19,w20q,us20q,hE,hp⟩
   dsimp only at hl1
   refine aB ?_
   obtain⟨x20,ex20,hl1⟩:=bnd hl1
   refine V hE hp rfl (dJ rfl hE rfl rfl (bD ex20)) fun a hE=>S hE 1 rfl fun a hE=>aC ?_
   have hE:=hE.cut (E':=[(2,(.int .i64 p2)),(3,(.pointer (some ⟨b1,0,none⟩))),(6,(.pointer (some ⟨b2,0,none⟩))),(8,(.pointer (some ⟨b3,0,none⟩))),(9,w86),(10,(.int .i64 j1s.1)),(30,vp1),(31,(.int .i64 (p1.length:Int))),(32,(.int .i64 x20))]) ⟨rfl,rfl,rfl,rfl,rfl,rfl,rfl,rfl,rfl,trivial⟩
   exact⟨_,(Option.some.inj hl1).symm,_,_,_,_,hE.cut ⟨rfl,rfl,rfl,rfl,rfl,rfl,rfl,rfl,rfl,trivial⟩,hp⟩
  replace hl1:=(ie hc4).symm.trans hl1
  refine eP ?_
  refine⟨_,(Option.some.inj hl1).symm,fun hbb=>?_⟩
  exact⟨_,hbb.symm,_,_,_,_,hE.cut ⟨rfl,rfl,rfl,trivial⟩,hp⟩
 rintro a w ⟨b4s,rfl,w86,w19,w20,us20,hE,hp⟩
 dsimp only at hm
 refine aH (aB ?_)
 refine S hE 1 rfl fun a hE=>V hE hp rfl (xf hE fldty29_3 rfl rfl) fun a hE=>?_
 refine dR (wk0 rfl) rfl hE hp rfl rfl rfl 1 rfl bG.size_ rfl (bY ⟨rfl,trivial⟩) [(.int .i64 b4s.2.2.1),w19,w20,(.int .i64 b4s.1)] rfl ?_
 intro w hp
 have hp:=r6 hp
 refine aC (aH ?_)
 refine aB (V hE hp rfl (bC rfl hE rfl (fun w hw=>iK (cs:=[(.int .i64 b4s.2.2.1),w19,w20,(.int .i64 b4s.1)]) fB (Hp.cN 1 rfl 0 _ (bZ rfl) w hw))) fun a hE=>?_)
 refine dR (wk0 rfl) rfl hE hp rfl rfl rfl 4 rfl fB.size_ rfl (bY ⟨rfl,(aA.one hp 2 rfl),(bV.one hp 3 rfl),rfl,trivial⟩) [(.int .i64 b4s.2.2.1),w19,w20,(.int .i64 b4s.1)] rfl ?_
 intro w hp
 have hp:=r6 hp
 refine S hE 1 rfl fun a hE=>aC (dE ?_)
 obtain rfl:=Option.some.inj hm
 exact retct hE rfl rfl rfl (rZ (cs:=[(.int .i64 b4s.2.2.1),w19,w20,(.int .i64 b4s.1)]) fB (Hp.cN 4 rfl 0 _ (bZ rfl) _ hp)) ⟨_,rfl,_,_,_,rfl,(((((((hp.get 5 rfl).drop).get 4 rfl).drop).get 1 rfl).drop).drop)⟩
end Go.Proofs.Ytpkhmndpeipfmaa

/- The code goes as its model: assessor/solver.Solve, assessor/solver.Least. (Printed by wip/sp/gen.py.) -/
import Derived.Test.YtpkhmndpeipfmaaKAsT
import Derived.Test.YtpkhmndpeipfmaaKAs5
import Derived.Test.YtpkhmndpeipfmaaKAs6
import Derived.Test.YtpkhmndpeipfmaaKAs13
import Derived.Test.YtpkhmndpeipfmaaKAs14
set_option linter.unusedVariables false
set_option linter.unusedSimpArgs false
namespace Go.Proofs.Ytpkhmndpeipfmaa
open Go.RowKit
set_option maxRecDepth 100000 in
set_option maxHeartbeats 4000000 in
theorem uC {Z:World} {ρ:PH} {L:List bV} {w:World} (p0:Formula) (aG:Value) (bI:bU ρ aG p0.clauses) (p1:(List Int)) (vp1:Value) (hp1:bU ρ vp1 p1) (p2:Int) (hp:Hp Z ρ (L) w) (r:(Answer×Int)) (hm:iP p0 p1 p2=some r):
  Calls Try.prog 12 #[(.agg #[(.int .i64 p0.vars),aG]),vp1,(.int .i64 p2)] w (Ret fun v w'=>∃(pW:Value) (lD:Value) (qZ:List Sl),v= .tuple #[(.agg #[(.int .i64 r.1.kind),pW,lD,(.int .i64 r.1.conflicts)]),(.int .i64 r.2)]∧Hp Z ρ (aA 3 pW r.1.model::bQ 25 3 lD qZ (r.1.proof:(List (List Int)))::L) w'):=by
 refine enter (N:=19) Try.func12 rfl rfl [(0,(.agg #[(.int .i64 p0.vars),aG])),(1,vp1),(2,(.int .i64 p2))] rfl (bP ⟨rfl,rfl,rfl,trivial⟩) fun a hE=>?_
 unfold iP at hm
 refine aH (aB ?_)
 refine qQ (wk0 rfl) rfl rfl hE hp rfl (v:=(.agg #[(.int .i64 p0.vars),aG])) rfl ?_
 intro a w b1 hE hp
 have hp:=r1 hp
 refine qB (wk0 rfl) rfl rfl hE hp rfl [(.int .i64 0),(.slice none 0 0),(.slice none 0 0),(.int .i64 0)] (fun w=>by simp[Instr.alloc,go_sem]<;>rfl) ?_
 intro a w b2 hE hp
 have hp:=r2 hp
 refine S hE 1 rfl fun a hE=>aC (aH ?_)
 refine aH (aB ?_)
 refine V hE hp rfl (aZ rfl hE rfl (fun w hw=>gQ (cs:=[(.int .i64 p0.vars),aG]) gV (Hp.cN 1 rfl 0 _ (bY rfl) w hw))) fun a hE=>S hE 2 rfl fun a hE=>?_
 obtain⟨x1,ex1,hm⟩:=bnd hm
 refine s_call (wk0 rfl) rfl rfl hE rfl [(.agg #[(.int .i64 p0.vars),aG]),vp1,(.int .i64 p2)] ⟨rfl,rfl,rfl,trivial⟩ ent28 (Y6 p0 aG bI p1 vp1 hp1 p2 hp x1 ex1) Ret.ret ?_
 intro v a w hR hE
 obtain⟨rfl,hp⟩:=Ret.of hR
 have hp:=r2 hp
 refine S hE 1 rfl fun a hE=>aC ?_
 refine dQ hE rfl (fun hc1=>?_) (fun hc1=>?_)
 ·replace hm:=(it hc1).symm.trans hm
  refine aH (aB ?_)
  refine V hE hp rfl (v:=(.agg #[(.int .i64 0),(.slice none 0 0),(.slice none 0 0),(.int .i64 0)])) (qF rfl hE [] (by exact trivial) (fun w=>by simp[Instr.build,Instr.fill,Value.cells,go_sem])) fun a hE=>?_
  refine dM (wk0 rfl) rfl hE hp rfl rfl rfl 0 rfl eY.size_ rfl (bW ⟨rfl,rfl,rfl,rfl,trivial⟩) [(.int .i64 0),(.slice none 0 0),(.slice none 0 0),(.int .i64 0)] rfl ?_
  intro w hp
  have hp:=r2 hp
  refine S hE 1 rfl fun a hE=>aC (dE ?_)
  have hp:=hp.emp (aA.nil (α:=Int) 3)
  have hp:=r3 hp
  have hp:=hp.emp (bQ.none (α:=Int) 25 3 none)
  have hp:=r4 hp
  have hp:=r4 hp
  obtain rfl:=Option.some.inj hm
  exact retct hE rfl rfl rfl (rM (cs:=[(.int .i64 0),(.slice none 0 0),(.slice none 0 0),(.int .i64 0)]) eY (Hp.cN 2 rfl 0 _ (bY rfl) _ hp)) ⟨_,rfl,_,_,_,rfl,((((((hp.get 0 rfl).get 1 rfl).get 3 rfl).drop).get 2 rfl).drop)⟩
 replace hm:=(ie hc1).symm.trans hm
 refine bT (aH ?_)
 refine aB (V hE hp rfl (aZ rfl hE rfl (fun w hw=>gQ (cs:=[(.int .i64 p0.vars),aG]) gV (Hp.cN 1 rfl 0 _ (bY rfl) w hw))) fun a hE=>?_)
 refine S hE 1 rfl fun a hE=>?_
 obtain⟨x2,ex2,hm⟩:=bnd hm
 refine s_call (wk0 rfl) rfl rfl hE rfl [(.agg #[(.int .i64 p0.vars),aG]),vp1] ⟨rfl,rfl,trivial⟩ I9 (jK p0 aG bI p1 vp1 hp1 hp x2 ex2) Ret.ret ?_
 intro v a w hR hE
 obtain⟨br2,vr2_value,vr2_level,aE9,vr2_saved,V3,E8,vr2_trail,aF0,br2_queue,yD,yC,vr2_proof,aB1,rfl,hp⟩:=Ret.of hR
 have hp:=r14 hp
 refine S hE 1 rfl fun a hE=>?_
 obtain⟨x3,ex3,hm⟩:=bnd hm
 refine s_call (wk0 rfl) rfl rfl hE rfl [(.pointer (some ⟨br2,0,none⟩)),(.int .i64 p2)] ⟨rfl,rfl,trivial⟩ yK (dP br2 x2 vr2_value vr2_level aE9 vr2_saved V3 E8 vr2_trail aF0 br2_queue yD yC vr2_proof aB1 p2 ((((((((((((hp.get 11 rfl).get 11 rfl).get 11 rfl).get 11 rfl).get 11 rfl).get 11 rfl).get 11 rfl).get 11 rfl).get 11 rfl).get 11 rfl).get 11 rfl).get 11 rfl) x3 ex3) Ret.ret ?_
 intro v a w hR hE
 obtain⟨pX,qO,usr3_proof,rfl,hp⟩:=Ret.of hR
 have hp:=r4 hp
 refine dM (wk0 rfl) rfl hE hp rfl rfl rfl 2 rfl eY.size_ rfl (bW ⟨rfl,(aA.one hp 0 rfl),(bQ.one hp 1 rfl),rfl,trivial⟩) [(.int .i64 x3.kind),pX,qO,(.int .i64 x3.conflicts)] rfl ?_
 intro w hp
 have hp:=r4 hp
 refine S hE 1 rfl fun a hE=>aC (dE ?_)
 obtain rfl:=Option.some.inj hm
 exact retct hE rfl rfl rfl (rM (cs:=[(.int .i64 x3.kind),pX,qO,(.int .i64 x3.conflicts)]) eY (Hp.cN 2 rfl 0 _ (bY rfl) _ hp)) ⟨_,rfl,_,_,_,rfl,((((hp.get 3 rfl).drop).get 2 rfl).drop)⟩
set_option maxRecDepth 100000 in
set_option maxHeartbeats 4000000 in
theorem c_solver_Least {Z:World} {ρ:PH} {L:List bV} {w:World} (p0:Formula) (aG:Value) (bI:bU ρ aG p0.clauses) (p1:(List Int)) (vp1:Value) (hp1:bU ρ vp1 p1) (p2:Int) (hp:Hp Z ρ (L) w) (r:(Answer×Int)) (hm:mM p0 p1 p2=some r):
  Calls Try.prog 17 #[(.agg #[(.int .i64 p0.vars),aG]),vp1,(.int .i64 p2)] w (Ret fun v w'=>∃(pW:Value) (lD:Value) (qZ:List Sl),v= .tuple #[(.agg #[(.int .i64 r.1.kind),pW,lD,(.int .i64 r.1.conflicts)]),(.int .i64 r.2)]∧Hp Z ρ (aA 3 pW r.1.model::bQ 25 3 lD qZ (r.1.proof:(List (List Int)))::L) w'):=by
 refine enter (N:=88) Try.func17 rfl rfl [(0,(.agg #[(.int .i64 p0.vars),aG])),(1,vp1),(2,(.int .i64 p2))] rfl (bP ⟨rfl,rfl,rfl,trivial⟩) fun a hE=>?_
 unfold mM at hm
 refine aH (aB ?_)
 refine qQ (wk0 rfl) rfl rfl hE hp rfl (v:=(.agg #[(.int .i64 p0.vars),aG])) rfl ?_
 intro a w b1 hE hp
 have hp:=r1 hp
 refine qB (wk0 rfl) rfl rfl hE hp rfl [(.int .i64 0),(.slice none 0 0),(.slice none 0 0),(.int .i64 0)] (fun w=>by simp[Instr.alloc,go_sem]<;>rfl) ?_
 intro a w b2 hE hp
 have hp:=r2 hp
 refine S hE 1 rfl fun a hE=>aC (aH ?_)
 refine aH (aB ?_)
 refine V hE hp rfl (aZ rfl hE rfl (fun w hw=>gQ (cs:=[(.int .i64 p0.vars),aG]) gV (Hp.cN 1 rfl 0 _ (bY rfl) w hw))) fun a hE=>S hE 2 rfl fun a hE=>?_
 obtain⟨x1,ex1,hm⟩:=bnd hm
 refine s_call (wk0 rfl) rfl rfl hE rfl [(.agg #[(.int .i64 p0.vars),aG]),vp1,(.int .i64 p2)] ⟨rfl,rfl,rfl,trivial⟩ ent28 (Y6 p0 aG bI p1 vp1 hp1 p2 hp x1 ex1) Ret.ret ?_
 intro v a w hR hE
 obtain⟨rfl,hp⟩:=Ret.of hR
 have hp:=r2 hp
 refine S hE 1 rfl fun a hE=>aC ?_
 refine dQ hE rfl (fun hc1=>?_) (fun hc1=>?_)
 ·replace hm:=(it hc1).symm.trans hm
  refine aH (aB ?_)
  refine V hE hp rfl (v:=(.agg #[(.int .i64 0),(.slice none 0 0),(.slice none 0 0),(.int .i64 0)])) (qF rfl hE [] (by exact trivial) (fun w=>by simp[Instr.build,Instr.fill,Value.cells,go_sem])) fun a hE=>?_
  refine dM (wk0 rfl) rfl hE hp rfl rfl rfl 0 rfl eY.size_ rfl (bW ⟨rfl,rfl,rfl,rfl,trivial⟩) [(.int .i64 0),(.slice none 0 0),(.slice none 0 0),(.int .i64 0)] rfl ?_
  intro w hp
  have hp:=r2 hp
  refine S hE 1 rfl fun a hE=>aC (dE ?_)
  have hp:=hp.emp (aA.nil (α:=Int) 3)
  have hp:=r3 hp
  have hp:=hp.emp (bQ.none (α:=Int) 25 3 none)
  have hp:=r4 hp
  have hp:=r4 hp
  obtain rfl:=Option.some.inj hm
  exact retct hE rfl rfl rfl (rM (cs:=[(.int .i64 0),(.slice none 0 0),(.slice none 0 0),(.int .i64 0)]) eY (Hp.cN 2 rfl 0 _ (bY rfl) _ hp)) ⟨_,rfl,_,_,_,rfl,((((((hp.get 0 rfl).get 1 rfl).get 3 rfl).drop).get 2 rfl).drop)⟩
 replace hm:=(ie hc1).symm.trans hm
 refine bT (aH ?_)
 refine aB (V hE hp rfl (aZ rfl hE rfl (fun w hw=>gQ (cs:=[(.int .i64 p0.vars),aG]) gV (Hp.cN 1 rfl 0 _ (bY rfl) w hw))) fun a hE=>?_)
 obtain⟨x2,ex2,hm⟩:=bnd hm
 refine s_call (wk0 rfl) rfl rfl hE rfl [(.agg #[(.int .i64 p0.vars),aG]),(.slice none 0 0)] ⟨rfl,rfl,trivial⟩ I9 (jK p0 aG bI [] (.slice none 0 0) (bU.nil _) hp x2 ex2) Ret.ret ?_
 intro v a w hR hE
 obtain⟨br2,vr2_value,vr2_level,aE9,vr2_saved,V3,E8,vr2_trail,aF0,br2_queue,yD,yC,vr2_proof,aB1,rfl,hp⟩:=Ret.of hR
 have hp:=r14 hp
 refine S hE 1 rfl fun a hE=>?_
 obtain⟨x3,ex3,hm⟩:=bnd hm
 refine s_call (wk0 rfl) rfl rfl hE rfl [(.pointer (some ⟨br2,0,none⟩)),(.int .i64 p2)] ⟨rfl,rfl,trivial⟩ yK (dP br2 x2 vr2_value vr2_level aE9 vr2_saved V3 E8 vr2_trail aF0 br2_queue yD yC vr2_proof aB1 p2 ((((((((((((hp.get 11 rfl).get 11 rfl).get 11 rfl).get 11 rfl).get 11 rfl).get 11 rfl).get 11 rfl).get 11 rfl).get 11 rfl).get 11 rfl).get 11 rfl).get 11 rfl) x3 ex3) Ret.ret ?_
 intro v a w hR hE
 obtain⟨pX,qO,usr3_proof,rfl,hp⟩:=Ret.of hR
 have hp:=r4 hp
 refine qB (wk0 rfl) rfl rfl hE hp rfl [(.int .i64 0),(.slice none 0 0),(.slice none 0 0),(.int .i64 0)] (fun w=>by simp[Instr.alloc,go_sem]<;>rfl) ?_
 intro a w b3 hE hp
 have hp:=r5 hp
 refine dM (wk0 rfl) rfl hE hp rfl rfl rfl 0 rfl eY.size_ rfl (bW ⟨rfl,(aA.one hp 1 rfl),(bQ.one hp 2 rfl),rfl,trivial⟩) [(.int .i64 x3.kind),pX,qO,(.int .i64 x3.conflicts)] rfl ?_
 intro w hp
 have hp:=r5 hp
 refine aC (aH ?_)
 refine aH (aB ?_)
 refine V hE hp rfl (xf hE tJ rfl rfl) fun a hE=>V hE hp rfl (xl hE bG 0 rfl rfl rfl rfl) fun a hE=>S hE 1 rfl fun a hE=>aC ?_
 refine dQ hE rfl (fun hc2=>?_) (fun hc2=>?_)
 ·replace hm:=(it hc2).symm.trans hm
  refine aH (aB ?_)
  refine V hE hp rfl (aZ rfl hE rfl (fun w hw=>gQ (cs:=[(.int .i64 x3.kind),pX,qO,(.int .i64 x3.conflicts)]) eY (Hp.cN 0 rfl 0 _ (bY rfl) w hw))) fun a hE=>?_
  refine dM (wk0 rfl) rfl hE hp rfl rfl rfl 3 rfl eY.size_ rfl (bW ⟨rfl,(aA.one hp 1 rfl),(bQ.one hp 2 rfl),rfl,trivial⟩) [(.int .i64 x3.kind),pX,qO,(.int .i64 x3.conflicts)] rfl ?_
  intro w hp
  have hp:=r5 hp
  refine S hE 1 rfl fun a hE=>aC (dE ?_)
  obtain rfl:=Option.some.inj hm
  exact retct hE rfl rfl rfl (rM (cs:=[(.int .i64 x3.kind),pX,qO,(.int .i64 x3.conflicts)]) eY (Hp.cN 3 rfl 0 _ (bY rfl) _ hp)) ⟨_,rfl,_,_,_,rfl,(((((hp.get 4 rfl).drop).get 3 rfl).drop).drop)⟩
 replace hm:=(ie hc2).symm.trans hm
 refine bT (aH ?_)
 refine aB (S hE 1 rfl fun a hE=>?_)
 refine aC (aH ?_)
 refine aB (V hE hp rfl (xf hE fldty29_3 rfl rfl) fun a hE=>?_)
 refine V hE hp rfl (xl hE bG 0 rfl rfl rfl rfl) fun a hE=>S hE 1 rfl fun a hE=>aC (aH ?_)
 refine aH (aB ?_)
 refine S hE 1 rfl fun a hE=>V hE hp rfl (dJ rfl hE rfl (bU.len hp1 aY)) fun a hE=>S hE 1 rfl fun a hE=>aC ?_
 have hE:=hE.cut (E':=[(2,(.int .i64 p2)),(3,(.pointer (some ⟨b1,0,none⟩))),(6,(.pointer (some ⟨b2,0,none⟩))),(8,(.pointer (some ⟨b3,0,none⟩))),(9,(.slice none 0 0)),(10,(.int .i64 x3.conflicts)),(30,vp1),(31,(.int .i64 (p1.length:Int))),(32,(.int .i64 0))]) ⟨rfl,rfl,rfl,rfl,rfl,rfl,rfl,rfl,rfl,trivial⟩
 have hp:=hp.emp (aA.nil (α:=Int) 3)
 have hp:=r6 hp
 obtain⟨b4,hc3,hm⟩:=bnd hm
 refine dN (fun a w=>∃s:(Int×(List Int)×Int×Int×(List Int)×(List (List Int))),b4= .brk s∧(∃(w86:Value) (w19:Value) (w20:Value) (us20:List Sl),Env 88 [(6,(.pointer (some ⟨b2,0,none⟩))),(8,(.pointer (some ⟨b3,0,none⟩))),(10,(.int .i64 s.1))] a∧Hp Z ρ (aA 3 w86 s.2.1::Pt b3 (.cells #[(.int .i64 s.2.2.1),w19,w20,(.int .i64 s.2.2.2.1)] 29 (0,0))::aA 3 w19 s.2.2.2.2.1::bQ 25 3 w20 us20 (s.2.2.2.2.2:(List (List Int)))::Pt b2 (.cells #[(.int .i64 0),(.slice none 0 0),(.slice none 0 0),(.int .i64 0)] 29 (0,0))::Pt b1 (.cells #[(.int .i64 p0.vars),aG] 24 (0,0))::L) w)) ?_ ?_
 ·refine fV hc3 (fun s a w=>∃(w86:Value) (w19:Value) (w20:Value) (us20:List Sl),Env 88 [(2,(.int .i64 p2)),(3,(.pointer (some ⟨b1,0,none⟩))),(6,(.pointer (some ⟨b2,0,none⟩))),(8,(.pointer (some ⟨b3,0,none⟩))),(9,w86),(10,(.int .i64 s.1)),(30,vp1),(31,(.int .i64 (p1.length:Int))),(32,(.int .i64 s.2.1))] a∧Hp Z ρ (aA 3 w86 s.2.2.1::Pt b3 (.cells #[(.int .i64 s.2.2.2.1),w19,w20,(.int .i64 s.2.2.2.2.1)] 29 (0,0))::aA 3 w19 s.2.2.2.2.2.1::bQ 25 3 w20 us20 (s.2.2.2.2.2.2:(List (List Int)))::Pt b2 (.cells #[(.int .i64 0),(.slice none 0 0),(.slice none 0 0),(.int .i64 0)] 29 (0,0))::Pt b1 (.cells #[(.int .i64 p0.vars),aG] 24 (0,0))::L) w) ?_ ?_
  ·exact⟨_,_,_,_,hE.cut ⟨rfl,rfl,rfl,rfl,rfl,rfl,rfl,rfl,rfl,trivial⟩,hp⟩
  rintro⟨bC,cZ,dG,iM,jL,kK,uQ⟩ st a w ⟨w86,w19,w20,us20,hE,hp⟩ hl1
  dsimp only at hE hp hl1
  unfold lW at hl1
  refine aH (aB ?_)
  refine S hE 1 rfl fun a hE=>aC (aH ?_)
  refine dQ hE rfl (fun hc4=>?_) (fun hc4=>?_)
  ·replace hl1:=(it hc4).symm.trans hl1
   refine bT (aH ?_)
   obtain⟨j1,hj1,hl1⟩:=bnd hl1
   refine dN (fun a w=>∃s:(Int×(List Int)×Int×Int×(List Int)×(List (List Int))),j1= .brk s∧(∃(w86:Value) (w19:Value) (w20q:Value) (us20q:List Sl),Env 88 [(2,(.int .i64 p2)),(3,(.pointer (some ⟨b1,0,none⟩))),(6,(.pointer (some ⟨b2,0,none⟩))),(8,(.pointer (some ⟨b3,0,none⟩))),(9,w86),(10,(.int .i64 s.1)),(30,vp1),(31,(.int .i64 (p1.length:Int))),(32,(.int .i64 cZ))] a∧Hp Z ρ (aA 3 w86 s.2.1::Pt b3 (.cells #[(.int .i64 s.2.2.1),w19,w20q,(.int .i64 s.2.2.2.1)] 29 (0,0))::aA 3 w19 s.2.2.2.2.1::bQ 25 3 w20q us20q (s.2.2.2.2.2:(List (List Int)))::Pt b2 (.cells #[(.int .i64 0),(.slice none 0 0),(.slice none 0 0),(.int .i64 0)] 29 (0,0))::Pt b1 (.cells #[(.int .i64 p0.vars),aG] 24 (0,0))::L) w)) ?_ ?_
   ·
    refine aH (aB ?_)
    obtain⟨x4,ex4,hj1⟩:=bnd hj1
    obtain⟨b5,b5o,b5c,b5r,b5k,b5f⟩:=bU.at hp1 aY ex4
    obtain rfl:b5c=Enc.enc x4:=b5k
    have b5f:AtP ρ b5 b5o [(.int .i64 x4)]:=b5f
    refine V hE hp rfl (aV rfl hE rfl rfl b5r) fun a hE=>V hE hp rfl (aZ rfl hE rfl (fun w hw=>bH bG (b5f.c 0 rfl w hw))) fun a hE=>S hE 1 rfl fun a hE=>aC ?_
    have hE:=hE.cut (E':=[(2,(.int .i64 p2)),(3,(.pointer (some ⟨b1,0,none⟩))),(6,(.pointer (some ⟨b2,0,none⟩))),(8,(.pointer (some ⟨b3,0,none⟩))),(9,w86),(10,(.int .i64 bC)),(12,(.int .i64 x4)),(30,vp1),(31,(.int .i64 (p1.length:Int))),(32,(.int .i64 cZ))]) ⟨rfl,rfl,rfl,rfl,rfl,rfl,rfl,rfl,rfl,rfl,trivial⟩
    refine aH (aH ?_)
    refine mY (by kernel_rfl) (by kernel_rfl) hp ?_
    refine Vq hE rfl (xf hE xI rfl rfl) fun a hE=>Vq hE rfl (xl hE bK 1 rfl rfl rfl rfl) fun a hE=>Sq hE 1 rfl fun a hE=>?_
    obtain⟨x5,ex5,hj1⟩:=bnd hj1
    refine wG (wk0 rfl) rfl rfl hE rfl [(.int .i64 x4)] ⟨rfl,trivial⟩ zH (v:=(.int .i64 x5)) (fun w hw=>Calls.mono (fC x4 hw x5 ex5) fun e w' ⟨v,he,hv,hh⟩=>⟨by rw[he,hv],hh⟩) ?_
    intro a hE
    obtain⟨x6,ex6,hj1⟩:=bnd hj1
    refine Vq hE rfl (sW rfl hE rfl rfl (bF ex6)) fun a hE=>?_
    obtain⟨x7,ex7,hj1⟩:=bnd hj1
    obtain⟨b6,b6o,b6r,b6v,b6f⟩:=aA.at hp 2 rfl aY ex7
    refine Vq hE rfl (aV rfl hE rfl rfl b6r) fun a hE=>Vq hE rfl (aZ rfl hE rfl (fun w hw=>bH bG (b6f 0 _ rfl _ _ w (hw.get 2 rfl)))) fun a hE=>Sq hE 2 rfl fun a hE=>?_
    refine oW fun w hp=>?_
    have hp:=r6 hp
    refine dQ hE rfl (fun hc5=>?_) (fun hc5=>?_)
    ·replace hj1:=(it hc5).symm.trans hj1
     refine aH (aB ?_)
     refine S hE 2 rfl fun a hE=>?_
     obtain⟨x8,ex8,hj1⟩:=bnd hj1
     refine V hE hp rfl (nZ rfl hE rfl (bF ex8)) fun a hE=>?_
     refine jM (wk0 rfl) rfl rfl hE hp rfl [(0,(.int .i64 x8))] ⟨⟨rfl,rfl⟩,trivial⟩ [(.int .i64 x8)] 3 (fun w=>by simp[Instr.buildSlice,Instr.fill,Value.cells,go_sem]) ?_
     intro a w b7 hE hp
     have hp:=r7 hp
     obtain⟨x9,ex9,hj1⟩:=bnd hj1
     refine lZ (wk0 rfl) rfl rfl hE hp rfl aY rfl rfl 1 rfl rfl (l2:=[x8]) rfl (fun j u hj=>by have:=Hp.cN 0 rfl 0 _ (bY rfl) w hp j u hj;simpa using this) ex9 ?_
     intro v1 a w hE hp
     have hp:=r7 hp
     refine S hE 1 rfl fun a hE=>aC ?_
     have hE:=hE.cut (E':=[(2,(.int .i64 p2)),(3,(.pointer (some ⟨b1,0,none⟩))),(6,(.pointer (some ⟨b2,0,none⟩))),(8,(.pointer (some ⟨b3,0,none⟩))),(9,v1),(10,(.int .i64 bC)),(30,vp1),(31,(.int .i64 (p1.length:Int))),(32,(.int .i64 cZ))]) ⟨rfl,rfl,rfl,rfl,rfl,rfl,rfl,rfl,rfl,trivial⟩
     refine eU ?_
     obtain rfl:=Option.some.inj hj1
     exact⟨_,rfl,_,_,_,_,hE.cut ⟨rfl,rfl,rfl,rfl,rfl,rfl,rfl,rfl,rfl,trivial⟩,(hp.drop)⟩
    replace hj1:=(ie hc5).symm.trans hj1
    refine bT (aH ?_)
    obtain⟨x10,ex10,hj1⟩:=bnd hj1
    obtain⟨x11,ex11,hj1⟩:=bnd hj1
    obtain⟨x12,ex12,hj1⟩:=bnd hj1
    obtain⟨x13,ex13,hj1⟩:=bnd hj1
    obtain⟨x14,ex14,hj1⟩:=bnd hj1
    obtain⟨x15,ex15,hj1⟩:=bnd hj1
    have hp:=hp.drew
    refine kC ([([],At0 Z ρ),([],At1 Z ρ (Pt b1 (.cells #[(.int .i64 p0.vars),aG] 24 (0,0))))]:Facts) (fun a w=>∃y164:Nat,∃y162:Value,∃y163:Value,∃yus163:List Sl,Env 88 [(2,(.int .i64 p2)),(3,(.pointer (some ⟨b1,0,none⟩))),(6,(.pointer (some ⟨b2,0,none⟩))),(8,(.pointer (some ⟨b3,0,none⟩))),(9,w86),(10,(.int .i64 bC)),(12,(.int .i64 x4)),(13,(.pointer (some ⟨y164,0,none⟩))),(30,vp1),(31,(.int .i64 (p1.length:Int))),(32,(.int .i64 cZ))] a∧Hp Z ρ (Pt y164 (.cells #[(.int .i64 x15.kind),y162,y163,(.int .i64 x15.conflicts)] 29 (0,0))::aA 3 y162 x15.model::bQ 25 3 y163 yus163 (x15.proof:(List (List Int)))::aA 3 w86 dG::Pt b3 (.cells #[(.int .i64 iM),w19,w20,(.int .i64 jL)] 29 (0,0))::aA 3 w19 kK::bQ 25 3 w20 us20 (uQ:(List (List Int)))::Pt b2 (.cells #[(.int .i64 0),(.slice none 0 0),(.slice none 0 0),(.int .i64 0)] 29 (0,0))::Pt b1 (.cells #[(.int .i64 p0.vars),aG] 24 (0,0))::L) w) (by kernel_rfl) ⟨fun _=>⟨_,hp⟩,fun _=>⟨_,(hp.get 5 rfl)⟩,trivial⟩ (fun hS=>?_) ?_
    ·
     generalize w.drew=w at hS hp⊢
     refine T 0 1 hE hS rfl rfl rfl (by kernel_rfl) (fun _=>aZ rfl hE rfl (fun w hw=>gQ (cs:=[(.int .i64 p0.vars),aG]) gV (Hp.cN 0 rfl 0 _ (bY rfl) w hw))) fun a hE hS=>Ts [1,3] hE hS rfl rfl (by kernel_rfl) fun a hE hS=>T0 4 hE hS rfl rfl rfl (by kernel_rfl) (fun _=>nZ rfl hE rfl (bF ex11)) fun a hE hS=>Ts [8,9] hE hS rfl rfl (by kernel_rfl) fun a hE hS=>T0 10 hE hS rfl rfl rfl (by kernel_rfl) (fun _=>sW rfl hE rfl rfl (bF ex14)) fun a hE hS=>?_
     refine iY [2,5,12] (by kernel_rfl) rfl ?_
     refine List.forall_mem_cons.2 ⟨?_,List.forall_mem_cons.2 ⟨?_,List.forall_mem_cons.2 ⟨?_,fun _ h=>absurd h (by simp)⟩⟩⟩
     ·
      refine dW rfl ?_
      obtain⟨k3,k3a,k3d,k3h⟩:=(hp.get 0 rfl).lend
      refine s_call (wk0 rfl) rfl rfl hE rfl [w86] ⟨rfl,trivial⟩ ent39 (tH dG w86 (aA.ro k3d k3a) k3h x10 ex10) Ret.ret ?_
      intro v4 a w hR hE
      obtain⟨u,hu,hp⟩:=Ret.of hR
      rw[←hu] at hp
      have hp:=Hp.back k3a k3d hp
      have hp:=r7 hp
      have hp:=r7 hp
      refine aC (aI ⟨gp0 hp,gp 6 hp rfl,trivial⟩ fun hS=>?_)
      refine iY [5,12] (by kernel_rfl) rfl ?_
      refine List.forall_mem_cons.2 ⟨?_,List.forall_mem_cons.2 ⟨?_,fun _ h=>absurd h (by simp)⟩⟩
      ·
       refine dW rfl ?_
       refine jM (wk0 rfl) rfl rfl hE hp rfl [(0,(.int .i64 x11))] ⟨⟨rfl,rfl⟩,trivial⟩ [(.int .i64 x11)] 3 (fun w=>by simp[Instr.buildSlice,Instr.fill,Value.cells,go_sem]) ?_
       intro a w b10 hE hp
       have hp:=r8 hp
       refine aC (aI ⟨gp0 hp,gp 7 hp rfl,trivial⟩ fun hS=>?_)
       refine iY [6,12] (by kernel_rfl) rfl ?_
       refine List.forall_mem_cons.2 ⟨?_,List.forall_mem_cons.2 ⟨?_,fun _ h=>absurd h (by simp)⟩⟩
       ·
        refine dW rfl ?_
        refine lZ (wk0 rfl) rfl rfl hE hp rfl aY rfl rfl 2 rfl rfl (l2:=[x11]) rfl (fun j u hj=>by have:=Hp.cN 0 rfl 0 _ (bY rfl) w hp j u hj;simpa using this) ex12 ?_
        intro v5 a w hE hp
        have hp:=r8 hp
        refine aC (aI ⟨gp0 hp,gp 7 hp rfl,trivial⟩ fun hS=>?_)
        refine iY [7,12] (by kernel_rfl) rfl ?_
        refine List.forall_mem_cons.2 ⟨?_,List.forall_mem_cons.2 ⟨?_,fun _ h=>absurd h (by simp)⟩⟩
        ·
         refine dW rfl ?_
         obtain⟨k4,k4a,k4d,k4h⟩:=(hp.get 2 rfl).lend
         refine s_call (wk0 rfl) rfl rfl hE rfl [(.agg #[(.int .i64 p0.vars),aG]),v5] ⟨rfl,rfl,trivial⟩ I9 (jK p0 aG (bU.mono bI (PH.le_un _ _)) x12 v5 (aA.ro k4d k4a) k4h x13 ex13) Ret.ret ?_
         intro v a w hR hE
         obtain⟨br6,Y3,X9,I7,Y1,yQ,xE,Y2,I8,V5,uM,uK,Y0,aB2,rfl,hp⟩:=Ret.of hR
         have hp:=Hp.back k4a k4d hp
         have hp:Hp Z ρ (_::Pt br6 (.cells #[Y3,X9,I7,Y1,yQ,Y2,I8,(.int .i64 x13.head),(.pointer (some ⟨V5,0,none⟩)),Y0,(.int .i64 x13.literals),(.bool x13.broken)] 65 (0,0))::aA 3 Y3 x13.value::aA 3 X9 x13.level::aA 71 I7 (List.map (hq (xE).2) (x13.reason:List (Option Nat)))::aA 3 Y1 x13.saved::bZ 61 71 (78,3) yQ xE (x13.watches:(List (List Nat)×List (List Int))) none none::aA 3 Y2 x13.trail::aA 3 I8 x13.starts::Pt V5 (.cells #[uM,uK] 68 (0,0))::aA 3 uM x13.queue.list::aA 4 uK x13.queue.isin::bQ 25 3 Y0 aB2 (x13.proof:(List (List Int)))::_::_::_::_::_::_::_::L) w:=hp
         refine aC (aI ⟨gp0 hp,gp 19 hp rfl,trivial⟩ fun hS=>?_)
         refine iY [11,12] (by kernel_rfl) rfl ?_
         refine List.forall_mem_cons.2 ⟨?_,List.forall_mem_cons.2 ⟨?_,fun _ h=>absurd h (by simp)⟩⟩
         ·
          refine dW rfl ?_
          refine s_call (wk0 rfl) rfl rfl hE rfl [(.pointer (some ⟨br6,0,none⟩)),(.int .i64 x14)] ⟨rfl,rfl,trivial⟩ yK (dP br6 x13 Y3 X9 I7 Y1 yQ xE Y2 I8 V5 uM uK Y0 aB2 x14 ((((((((((((hp.get 12 rfl).get 12 rfl).get 12 rfl).get 12 rfl).get 12 rfl).get 12 rfl).get 12 rfl).get 12 rfl).get 12 rfl).get 12 rfl).get 12 rfl).get 12 rfl) x15 ex15) Ret.ret ?_
          intro v a w hR hE
          obtain⟨nO,nP,yA,rfl,hp⟩:=Ret.of hR
          have hp:=r10 hp
          refine aC (aI ⟨gp0 hp,gp 9 hp rfl,trivial⟩ fun hS=>?_)
          refine W1 12 (by kernel_rfl) rfl ?_
          refine qB (wk0 rfl) rfl rfl hE hp rfl [(.int .i64 0),(.slice none 0 0),(.slice none 0 0),(.int .i64 0)] (fun w=>by simp[Instr.alloc,go_sem]<;>rfl) ?_
          intro a w b11 hE hp
          have hp:=r11 hp
          refine aC (aI ⟨gp0 hp,gp 10 hp rfl,trivial⟩ fun hS=>?_)
          refine W1 13 (by kernel_rfl) rfl ?_
          refine dM (wk0 rfl) rfl hE hp rfl rfl rfl 0 rfl eY.size_ rfl (bW ⟨rfl,(aA.one hp 1 rfl),(bQ.one hp 2 rfl),rfl,trivial⟩) [(.int .i64 x15.kind),nO,nP,(.int .i64 x15.conflicts)] rfl ?_
          intro w hp
          have hp:=r11 hp
          refine aC (aI ⟨gp0 hp,gp 10 hp rfl,trivial⟩ fun hS=>?_)
          exact dZ (by kernel_rfl) ⟨_,_,_,_,hE.cut ⟨rfl,rfl,rfl,rfl,rfl,rfl,rfl,rfl,rfl,rfl,rfl,trivial⟩,((((hp.get 4 rfl).drop).get 3 rfl).drop)⟩
         refine dW rfl ?_
         refine qB (wk0 rfl) rfl rfl hE hp rfl [(.int .i64 0),(.slice none 0 0),(.slice none 0 0),(.int .i64 0)] (fun w=>by simp[Instr.alloc,go_sem]<;>rfl) ?_
         intro a w b12 hE hp
         have hp:Hp Z ρ (Pt b12 (.cells #[(.int .i64 0),(.slice none 0 0),(.slice none 0 0),(.int .i64 0)] 29 (0,0))::_::_::_::_::_::_::_::_::_::_::_::_::_::_::_::_::_::_::_::_::L) w:=hp
         refine aC (aI ⟨gp0 hp,gp 20 hp rfl,trivial⟩ fun hS=>?_)
         refine W1 11 (by kernel_rfl) rfl ?_
         refine s_call (wk0 rfl) rfl rfl hE rfl [(.pointer (some ⟨br6,0,none⟩)),(.int .i64 x14)] ⟨rfl,rfl,trivial⟩ yK (dP br6 x13 Y3 X9 I7 Y1 yQ xE Y2 I8 V5 uM uK Y0 aB2 x14 ((((((((((((hp.get 13 rfl).get 13 rfl).get 13 rfl).get 13 rfl).get 13 rfl).get 13 rfl).get 13 rfl).get 13 rfl).get 13 rfl).get 13 rfl).get 13 rfl).get 13 rfl) x15 ex15) Ret.ret ?_
         intro v a w hR hE
         obtain⟨vr8_model,vr8_proof,usr8_proof,rfl,hp⟩:=Ret.of hR
         have hp:=r11 hp
         refine aC (aI ⟨gp0 hp,gp 10 hp rfl,trivial⟩ fun hS=>?_)
         refine W1 13 (by kernel_rfl) rfl ?_
         refine dM (wk0 rfl) rfl hE hp rfl rfl rfl 2 rfl eY.size_ rfl (bW ⟨rfl,(aA.one hp 0 rfl),(bQ.one hp 1 rfl),rfl,trivial⟩) [(.int .i64 x15.kind),vr8_model,vr8_proof,(.int .i64 x15.conflicts)] rfl ?_
         intro w hp
         have hp:=r11 hp
         refine aC (aI ⟨gp0 hp,gp 10 hp rfl,trivial⟩ fun hS=>?_)
         exact dZ (by kernel_rfl) ⟨_,_,_,_,hE.cut ⟨rfl,rfl,rfl,rfl,rfl,rfl,rfl,rfl,rfl,rfl,rfl,trivial⟩,(((((((((((((hp.get 10 rfl).get 10 rfl).get 10 rfl).get 10 rfl).get 10 rfl).get 10 rfl).get 7 rfl).get 7 rfl).get 8 rfl).get 10 rfl).drop).get 9 rfl).drop)⟩
        refine dW rfl ?_
        refine qB (wk0 rfl) rfl rfl hE hp rfl [(.int .i64 0),(.slice none 0 0),(.slice none 0 0),(.int .i64 0)] (fun w=>by simp[Instr.alloc,go_sem]<;>rfl) ?_
        intro a w b13 hE hp
        have hp:=r9 hp
        refine aC (aI ⟨gp0 hp,gp 8 hp rfl,trivial⟩ fun hS=>?_)
        refine W1 7 (by kernel_rfl) rfl ?_
        obtain⟨k5,k5a,k5d,k5h⟩:=(hp.get 3 rfl).lend
        refine s_call (wk0 rfl) rfl rfl hE rfl [(.agg #[(.int .i64 p0.vars),aG]),v5] ⟨rfl,rfl,trivial⟩ I9 (jK p0 aG (bU.mono bI (PH.le_un _ _)) x12 v5 (aA.ro k5d k5a) k5h x13 ex13) Ret.ret ?_
        intro v a w hR hE
        obtain⟨br9,vr9_value,vr9_level,aF1,vr9_saved,V4,F5,vr9_trail,aF2,br9_queue,yF,yE,vr9_proof,usr9_proof,rfl,hp⟩:=Ret.of hR
        have hp:=Hp.back k5a k5d hp
        have hp:Hp Z ρ (_::Pt br9 (.cells #[vr9_value,vr9_level,aF1,vr9_saved,V4,vr9_trail,aF2,(.int .i64 x13.head),(.pointer (some ⟨br9_queue,0,none⟩)),vr9_proof,(.int .i64 x13.literals),(.bool x13.broken)] 65 (0,0))::aA 3 vr9_value x13.value::aA 3 vr9_level x13.level::aA 71 aF1 (List.map (hq (F5).2) (x13.reason:List (Option Nat)))::aA 3 vr9_saved x13.saved::bZ 61 71 (78,3) V4 F5 (x13.watches:(List (List Nat)×List (List Int))) none none::aA 3 vr9_trail x13.trail::aA 3 aF2 x13.starts::Pt br9_queue (.cells #[yF,yE] 68 (0,0))::aA 3 yF x13.queue.list::aA 4 yE x13.queue.isin::bQ 25 3 vr9_proof usr9_proof (x13.proof:(List (List Int)))::_::_::_::_::_::_::_::_::L) w:=hp
        refine aC (aI ⟨gp0 hp,gp 20 hp rfl,trivial⟩ fun hS=>?_)
        refine W1 11 (by kernel_rfl) rfl ?_
        refine s_call (wk0 rfl) rfl rfl hE rfl [(.pointer (some ⟨br9,0,none⟩)),(.int .i64 x14)] ⟨rfl,rfl,trivial⟩ yK (dP br9 x13 vr9_value vr9_level aF1 vr9_saved V4 F5 vr9_trail aF2 br9_queue yF yE vr9_proof usr9_proof x14 ((((((((((((hp.get 12 rfl).get 12 rfl).get 12 rfl).get 12 rfl).get 12 rfl).get 12 rfl).get 12 rfl).get 12 rfl).get 12 rfl).get 12 rfl).get 12 rfl).get 12 rfl) x15 ex15) Ret.ret ?_
        intro v a w hR hE
        obtain⟨vr10_model,vr10_proof,usr10_proof,rfl,hp⟩:=Ret.of hR
        have hp:=r11 hp
        refine aC (aI ⟨gp0 hp,gp 10 hp rfl,trivial⟩ fun hS=>?_)
        refine W1 13 (by kernel_rfl) rfl ?_
        refine dM (wk0 rfl) rfl hE hp rfl rfl rfl 3 rfl eY.size_ rfl (bW ⟨rfl,(aA.one hp 0 rfl),(bQ.one hp 1 rfl),rfl,trivial⟩) [(.int .i64 x15.kind),vr10_model,vr10_proof,(.int .i64 x15.conflicts)] rfl ?_
        intro w hp
        have hp:=r11 hp
        refine aC (aI ⟨gp0 hp,gp 10 hp rfl,trivial⟩ fun hS=>?_)
        exact dZ (by kernel_rfl) ⟨_,_,_,_,hE.cut ⟨rfl,rfl,rfl,rfl,rfl,rfl,rfl,rfl,rfl,rfl,rfl,trivial⟩,(((((((((((((hp.get 10 rfl).get 10 rfl).get 10 rfl).get 10 rfl).get 10 rfl).get 10 rfl).get 7 rfl).get 7 rfl).get 9 rfl).get 10 rfl).drop).get 9 rfl).drop)⟩
       refine dW rfl ?_
       refine qB (wk0 rfl) rfl rfl hE hp rfl [(.int .i64 0),(.slice none 0 0),(.slice none 0 0),(.int .i64 0)] (fun w=>by simp[Instr.alloc,go_sem]<;>rfl) ?_
       intro a w b14 hE hp
       have hp:=r9 hp
       refine aC (aI ⟨gp0 hp,gp 8 hp rfl,trivial⟩ fun hS=>?_)
       refine W1 6 (by kernel_rfl) rfl ?_
       refine lZ (wk0 rfl) rfl rfl hE hp rfl aY rfl rfl 3 rfl rfl (l2:=[x11]) rfl (fun j u hj=>by have:=Hp.cN 1 rfl 0 _ (bY rfl) w hp j u hj;simpa using this) ex12 ?_
       intro v6 a w hE hp
       have hp:=r9 hp
       refine aC (aI ⟨gp0 hp,gp 8 hp rfl,trivial⟩ fun hS=>?_)
       refine W1 7 (by kernel_rfl) rfl ?_
       obtain⟨k6,k6a,k6d,k6h⟩:=(hp.get 3 rfl).lend
       refine s_call (wk0 rfl) rfl rfl hE rfl [(.agg #[(.int .i64 p0.vars),aG]),v6] ⟨rfl,rfl,trivial⟩ I9 (jK p0 aG (bU.mono bI (PH.le_un _ _)) x12 v6 (aA.ro k6d k6a) k6h x13 ex13) Ret.ret ?_
       intro v a w hR hE
       obtain⟨br11,aB8,aB4,Q3,aB6,G5,yU,aB7,Q4,Z5,wJ,wI,aB5,usr11_proof,rfl,hp⟩:=Ret.of hR
       have hp:=Hp.back k6a k6d hp
       have hp:Hp Z ρ (_::Pt br11 (.cells #[aB8,aB4,Q3,aB6,G5,aB7,Q4,(.int .i64 x13.head),(.pointer (some ⟨Z5,0,none⟩)),aB5,(.int .i64 x13.literals),(.bool x13.broken)] 65 (0,0))::aA 3 aB8 x13.value::aA 3 aB4 x13.level::aA 71 Q3 (List.map (hq (yU).2) (x13.reason:List (Option Nat)))::aA 3 aB6 x13.saved::bZ 61 71 (78,3) G5 yU (x13.watches:(List (List Nat)×List (List Int))) none none::aA 3 aB7 x13.trail::aA 3 Q4 x13.starts::Pt Z5 (.cells #[wJ,wI] 68 (0,0))::aA 3 wJ x13.queue.list::aA 4 wI x13.queue.isin::bQ 25 3 aB5 usr11_proof (x13.proof:(List (List Int)))::_::_::_::_::_::_::_::_::L) w:=hp
       refine aC (aI ⟨gp0 hp,gp 20 hp rfl,trivial⟩ fun hS=>?_)
       refine W1 11 (by kernel_rfl) rfl ?_
       refine s_call (wk0 rfl) rfl rfl hE rfl [(.pointer (some ⟨br11,0,none⟩)),(.int .i64 x14)] ⟨rfl,rfl,trivial⟩ yK (dP br11 x13 aB8 aB4 Q3 aB6 G5 yU aB7 Q4 Z5 wJ wI aB5 usr11_proof x14 ((((((((((((hp.get 12 rfl).get 12 rfl).get 12 rfl).get 12 rfl).get 12 rfl).get 12 rfl).get 12 rfl).get 12 rfl).get 12 rfl).get 12 rfl).get 12 rfl).get 12 rfl) x15 ex15) Ret.ret ?_
       intro v a w hR hE
       obtain⟨vr12_model,vr12_proof,usr12_proof,rfl,hp⟩:=Ret.of hR
       have hp:=r11 hp
       refine aC (aI ⟨gp0 hp,gp 10 hp rfl,trivial⟩ fun hS=>?_)
       refine W1 13 (by kernel_rfl) rfl ?_
       refine dM (wk0 rfl) rfl hE hp rfl rfl rfl 3 rfl eY.size_ rfl (bW ⟨rfl,(aA.one hp 0 rfl),(bQ.one hp 1 rfl),rfl,trivial⟩) [(.int .i64 x15.kind),vr12_model,vr12_proof,(.int .i64 x15.conflicts)] rfl ?_
       intro w hp
       have hp:=r11 hp
       refine aC (aI ⟨gp0 hp,gp 10 hp rfl,trivial⟩ fun hS=>?_)
       exact dZ (by kernel_rfl) ⟨_,_,_,_,hE.cut ⟨rfl,rfl,rfl,rfl,rfl,rfl,rfl,rfl,rfl,rfl,rfl,trivial⟩,(((((((((((((hp.get 10 rfl).get 10 rfl).get 10 rfl).get 10 rfl).get 10 rfl).get 10 rfl).get 7 rfl).get 7 rfl).get 9 rfl).get 10 rfl).drop).get 9 rfl).drop)⟩
      refine dW rfl ?_
      refine qB (wk0 rfl) rfl rfl hE hp rfl [(.int .i64 0),(.slice none 0 0),(.slice none 0 0),(.int .i64 0)] (fun w=>by simp[Instr.alloc,go_sem]<;>rfl) ?_
      intro a w b15 hE hp
      have hp:=r8 hp
      refine aC (aI ⟨gp0 hp,gp 7 hp rfl,trivial⟩ fun hS=>?_)
      refine W1 5 (by kernel_rfl) rfl ?_
      refine jM (wk0 rfl) rfl rfl hE hp rfl [(0,(.int .i64 x11))] ⟨⟨rfl,rfl⟩,trivial⟩ [(.int .i64 x11)] 3 (fun w=>by simp[Instr.buildSlice,Instr.fill,Value.cells,go_sem]) ?_
      intro a w b16 hE hp
      have hp:=r9 hp
      refine aC (aI ⟨gp0 hp,gp 8 hp rfl,trivial⟩ fun hS=>?_)
      refine W1 6 (by kernel_rfl) rfl ?_
      refine lZ (wk0 rfl) rfl rfl hE hp rfl aY rfl rfl 3 rfl rfl (l2:=[x11]) rfl (fun j u hj=>by have:=Hp.cN 0 rfl 0 _ (bY rfl) w hp j u hj;simpa using this) ex12 ?_
      intro v7 a w hE hp
      have hp:=r9 hp
      refine aC (aI ⟨gp0 hp,gp 8 hp rfl,trivial⟩ fun hS=>?_)
      refine W1 7 (by kernel_rfl) rfl ?_
      obtain⟨k7,k7a,k7d,k7h⟩:=(hp.get 3 rfl).lend
      refine s_call (wk0 rfl) rfl rfl hE rfl [(.agg #[(.int .i64 p0.vars),aG]),v7] ⟨rfl,rfl,trivial⟩ I9 (jK p0 aG (bU.mono bI (PH.le_un _ _)) x12 v7 (aA.ro k7d k7a) k7h x13 ex13) Ret.ret ?_
      intro v a w hR hE
      obtain⟨br13,aC3,aB9,Q5,aC1,G6,yV,aC2,Q7,Z7,wL,wK,aC0,usr13_proof,rfl,hp⟩:=Ret.of hR
      have hp:=Hp.back k7a k7d hp
      have hp:Hp Z ρ (_::Pt br13 (.cells #[aC3,aB9,Q5,aC1,G6,aC2,Q7,(.int .i64 x13.head),(.pointer (some ⟨Z7,0,none⟩)),aC0,(.int .i64 x13.literals),(.bool x13.broken)] 65 (0,0))::aA 3 aC3 x13.value::aA 3 aB9 x13.level::aA 71 Q5 (List.map (hq (yV).2) (x13.reason:List (Option Nat)))::aA 3 aC1 x13.saved::bZ 61 71 (78,3) G6 yV (x13.watches:(List (List Nat)×List (List Int))) none none::aA 3 aC2 x13.trail::aA 3 Q7 x13.starts::Pt Z7 (.cells #[wL,wK] 68 (0,0))::aA 3 wL x13.queue.list::aA 4 wK x13.queue.isin::bQ 25 3 aC0 usr13_proof (x13.proof:(List (List Int)))::_::_::_::_::_::_::_::_::L) w:=hp
      refine aC (aI ⟨gp0 hp,gp 20 hp rfl,trivial⟩ fun hS=>?_)
      refine W1 11 (by kernel_rfl) rfl ?_
      refine s_call (wk0 rfl) rfl rfl hE rfl [(.pointer (some ⟨br13,0,none⟩)),(.int .i64 x14)] ⟨rfl,rfl,trivial⟩ yK (dP br13 x13 aC3 aB9 Q5 aC1 G6 yV aC2 Q7 Z7 wL wK aC0 usr13_proof x14 ((((((((((((hp.get 12 rfl).get 12 rfl).get 12 rfl).get 12 rfl).get 12 rfl).get 12 rfl).get 12 rfl).get 12 rfl).get 12 rfl).get 12 rfl).get 12 rfl).get 12 rfl) x15 ex15) Ret.ret ?_
      intro v a w hR hE
      obtain⟨vr14_model,vr14_proof,usr14_proof,rfl,hp⟩:=Ret.of hR
      have hp:=r11 hp
      refine aC (aI ⟨gp0 hp,gp 10 hp rfl,trivial⟩ fun hS=>?_)
      refine W1 13 (by kernel_rfl) rfl ?_
      refine dM (wk0 rfl) rfl hE hp rfl rfl rfl 4 rfl eY.size_ rfl (bW ⟨rfl,(aA.one hp 0 rfl),(bQ.one hp 1 rfl),rfl,trivial⟩) [(.int .i64 x15.kind),vr14_model,vr14_proof,(.int .i64 x15.conflicts)] rfl ?_
      intro w hp
      have hp:=r11 hp
      refine aC (aI ⟨gp0 hp,gp 10 hp rfl,trivial⟩ fun hS=>?_)
      exact dZ (by kernel_rfl) ⟨_,_,_,_,hE.cut ⟨rfl,rfl,rfl,rfl,rfl,rfl,rfl,rfl,rfl,rfl,rfl,trivial⟩,(((((((((((((hp.get 10 rfl).get 10 rfl).get 10 rfl).get 10 rfl).get 10 rfl).get 10 rfl).get 7 rfl).get 7 rfl).get 10 rfl).get 10 rfl).drop).get 9 rfl).drop)⟩
     ·
      refine dW rfl ?_
      refine jM (wk0 rfl) rfl rfl hE hp rfl [(0,(.int .i64 x11))] ⟨⟨rfl,rfl⟩,trivial⟩ [(.int .i64 x11)] 3 (fun w=>by simp[Instr.buildSlice,Instr.fill,Value.cells,go_sem]) ?_
      intro a w b17 hE hp
      have hp:=r7 hp
      refine aC (aI ⟨gp0 hp,gp 6 hp rfl,trivial⟩ fun hS=>?_)
      refine iY [2,12] (by kernel_rfl) rfl ?_
      refine List.forall_mem_cons.2 ⟨?_,List.forall_mem_cons.2 ⟨?_,fun _ h=>absurd h (by simp)⟩⟩
      ·
       refine dW rfl ?_
       obtain⟨k8,k8a,k8d,k8h⟩:=(hp.get 1 rfl).lend
       refine s_call (wk0 rfl) rfl rfl hE rfl [w86] ⟨rfl,trivial⟩ ent39 (tH dG w86 (aA.ro k8d k8a) k8h x10 ex10) Ret.ret ?_
       intro v8 a w hR hE
       obtain⟨u,hu,hp⟩:=Ret.of hR
       rw[←hu] at hp
       have hp:=Hp.back k8a k8d hp
       have hp:=r8 hp
       have hp:=r8 hp
       refine aC (aI ⟨gp0 hp,gp 7 hp rfl,trivial⟩ fun hS=>?_)
       refine iY [6,12] (by kernel_rfl) rfl ?_
       refine List.forall_mem_cons.2 ⟨?_,List.forall_mem_cons.2 ⟨?_,fun _ h=>absurd h (by simp)⟩⟩
       ·
        refine dW rfl ?_
        refine lZ (wk0 rfl) rfl rfl hE hp rfl aY rfl rfl 1 rfl rfl (l2:=[x11]) rfl (fun j u hj=>by have:=Hp.cN 2 rfl 0 _ (bY rfl) w hp j u hj;simpa using this) ex12 ?_
        intro v9 a w hE hp
        have hp:=r8 hp
        refine aC (aI ⟨gp0 hp,gp 7 hp rfl,trivial⟩ fun hS=>?_)
        refine iY [7,12] (by kernel_rfl) rfl ?_
        refine List.forall_mem_cons.2 ⟨?_,List.forall_mem_cons.2 ⟨?_,fun _ h=>absurd h (by simp)⟩⟩
        ·
         refine dW rfl ?_
         obtain⟨k9,k9a,k9d,k9h⟩:=(hp.get 1 rfl).lend
         refine s_call (wk0 rfl) rfl rfl hE rfl [(.agg #[(.int .i64 p0.vars),aG]),v9] ⟨rfl,rfl,trivial⟩ I9 (jK p0 aG (bU.mono bI (PH.le_un _ _)) x12 v9 (aA.ro k9d k9a) k9h x13 ex13) Ret.ret ?_
         intro v a w hR hE
         obtain⟨br15,H6,G7,yO,G9,xG,vJ,H5,yP,zY,sQ,sO,G8,P8,rfl,hp⟩:=Ret.of hR
         have hp:=Hp.back k9a k9d hp
         have hp:Hp Z ρ (_::Pt br15 (.cells #[H6,G7,yO,G9,xG,H5,yP,(.int .i64 x13.head),(.pointer (some ⟨zY,0,none⟩)),G8,(.int .i64 x13.literals),(.bool x13.broken)] 65 (0,0))::aA 3 H6 x13.value::aA 3 G7 x13.level::aA 71 yO (List.map (hq (vJ).2) (x13.reason:List (Option Nat)))::aA 3 G9 x13.saved::bZ 61 71 (78,3) xG vJ (x13.watches:(List (List Nat)×List (List Int))) none none::aA 3 H5 x13.trail::aA 3 yP x13.starts::Pt zY (.cells #[sQ,sO] 68 (0,0))::aA 3 sQ x13.queue.list::aA 4 sO x13.queue.isin::bQ 25 3 G8 P8 (x13.proof:(List (List Int)))::_::_::_::_::_::_::_::L) w:=hp
         refine aC (aI ⟨gp0 hp,gp 19 hp rfl,trivial⟩ fun hS=>?_)
         refine iY [11,12] (by kernel_rfl) rfl ?_
         refine List.forall_mem_cons.2 ⟨?_,List.forall_mem_cons.2 ⟨?_,fun _ h=>absurd h (by simp)⟩⟩
         ·
          refine dW rfl ?_
          refine s_call (wk0 rfl) rfl rfl hE rfl [(.pointer (some ⟨br15,0,none⟩)),(.int .i64 x14)] ⟨rfl,rfl,trivial⟩ yK (dP br15 x13 H6 G7 yO G9 xG vJ H5 yP zY sQ sO G8 P8 x14 ((((((((((((hp.get 12 rfl).get 12 rfl).get 12 rfl).get 12 rfl).get 12 rfl).get 12 rfl).get 12 rfl).get 12 rfl).get 12 rfl).get 12 rfl).get 12 rfl).get 12 rfl) x15 ex15) Ret.ret ?_
          intro v a w hR hE
          obtain⟨vr16_model,vr16_proof,usr16_proof,rfl,hp⟩:=Ret.of hR
          have hp:=r10 hp
          refine aC (aI ⟨gp0 hp,gp 9 hp rfl,trivial⟩ fun hS=>?_)
          refine W1 12 (by kernel_rfl) rfl ?_
          refine qB (wk0 rfl) rfl rfl hE hp rfl [(.int .i64 0),(.slice none 0 0),(.slice none 0 0),(.int .i64 0)] (fun w=>by simp[Instr.alloc,go_sem]<;>rfl) ?_
          intro a w b18 hE hp
          have hp:=r11 hp
          refine aC (aI ⟨gp0 hp,gp 10 hp rfl,trivial⟩ fun hS=>?_)
          refine W1 13 (by kernel_rfl) rfl ?_
          refine dM (wk0 rfl) rfl hE hp rfl rfl rfl 0 rfl eY.size_ rfl (bW ⟨rfl,(aA.one hp 1 rfl),(bQ.one hp 2 rfl),rfl,trivial⟩) [(.int .i64 x15.kind),vr16_model,vr16_proof,(.int .i64 x15.conflicts)] rfl ?_
          intro w hp
          have hp:=r11 hp
          refine aC (aI ⟨gp0 hp,gp 10 hp rfl,trivial⟩ fun hS=>?_)
          exact dZ (by kernel_rfl) ⟨_,_,_,_,hE.cut ⟨rfl,rfl,rfl,rfl,rfl,rfl,rfl,rfl,rfl,rfl,rfl,trivial⟩,((((hp.get 5 rfl).drop).get 3 rfl).drop)⟩
         refine dW rfl ?_
         refine qB (wk0 rfl) rfl rfl hE hp rfl [(.int .i64 0),(.slice none 0 0),(.slice none 0 0),(.int .i64 0)] (fun w=>by simp[Instr.alloc,go_sem]<;>rfl) ?_
         intro a w b19 hE hp
         have hp:Hp Z ρ (Pt b19 (.cells #[(.int .i64 0),(.slice none 0 0),(.slice none 0 0),(.int .i64 0)] 29 (0,0))::_::_::_::_::_::_::_::_::_::_::_::_::_::_::_::_::_::_::_::_::L) w:=hp
         refine aC (aI ⟨gp0 hp,gp 20 hp rfl,trivial⟩ fun hS=>?_)
         refine W1 11 (by kernel_rfl) rfl ?_
         refine s_call (wk0 rfl) rfl rfl hE rfl [(.pointer (some ⟨br15,0,none⟩)),(.int .i64 x14)] ⟨rfl,rfl,trivial⟩ yK (dP br15 x13 H6 G7 yO G9 xG vJ H5 yP zY sQ sO G8 P8 x14 ((((((((((((hp.get 13 rfl).get 13 rfl).get 13 rfl).get 13 rfl).get 13 rfl).get 13 rfl).get 13 rfl).get 13 rfl).get 13 rfl).get 13 rfl).get 13 rfl).get 13 rfl) x15 ex15) Ret.ret ?_
         intro v a w hR hE
         obtain⟨vr17_model,vr17_proof,usr17_proof,rfl,hp⟩:=Ret.of hR
         have hp:=r11 hp
         refine aC (aI ⟨gp0 hp,gp 10 hp rfl,trivial⟩ fun hS=>?_)
         refine W1 13 (by kernel_rfl) rfl ?_
         refine dM (wk0 rfl) rfl hE hp rfl rfl rfl 2 rfl eY.size_ rfl (bW ⟨rfl,(aA.one hp 0 rfl),(bQ.one hp 1 rfl),rfl,trivial⟩) [(.int .i64 x15.kind),vr17_model,vr17_proof,(.int .i64 x15.conflicts)] rfl ?_
         intro w hp
         have hp:=r11 hp
         refine aC (aI ⟨gp0 hp,gp 10 hp rfl,trivial⟩ fun hS=>?_)
         exact dZ (by kernel_rfl) ⟨_,_,_,_,hE.cut ⟨rfl,rfl,rfl,rfl,rfl,rfl,rfl,rfl,rfl,rfl,rfl,trivial⟩,(((((((((((((hp.get 10 rfl).get 10 rfl).get 10 rfl).get 10 rfl).get 10 rfl).get 9 rfl).get 7 rfl).get 7 rfl).get 8 rfl).get 10 rfl).drop).get 9 rfl).drop)⟩
        refine dW rfl ?_
        refine qB (wk0 rfl) rfl rfl hE hp rfl [(.int .i64 0),(.slice none 0 0),(.slice none 0 0),(.int .i64 0)] (fun w=>by simp[Instr.alloc,go_sem]<;>rfl) ?_
        intro a w b20 hE hp
        have hp:=r9 hp
        refine aC (aI ⟨gp0 hp,gp 8 hp rfl,trivial⟩ fun hS=>?_)
        refine W1 7 (by kernel_rfl) rfl ?_
        obtain⟨k10,k10a,k10d,k10h⟩:=(hp.get 2 rfl).lend
        refine s_call (wk0 rfl) rfl rfl hE rfl [(.agg #[(.int .i64 p0.vars),aG]),v9] ⟨rfl,rfl,trivial⟩ I9 (jK p0 aG (bU.mono bI (PH.le_un _ _)) x12 v9 (aA.ro k10d k10a) k10h x13 ex13) Ret.ret ?_
        intro v a w hR hE
        obtain⟨br18,aC8,aC4,Q8,aC6,H7,yX,aC7,Q9,Z8,wO,wM,aC5,usr18_proof,rfl,hp⟩:=Ret.of hR
        have hp:=Hp.back k10a k10d hp
        have hp:Hp Z ρ (_::Pt br18 (.cells #[aC8,aC4,Q8,aC6,H7,aC7,Q9,(.int .i64 x13.head),(.pointer (some ⟨Z8,0,none⟩)),aC5,(.int .i64 x13.literals),(.bool x13.broken)] 65 (0,0))::aA 3 aC8 x13.value::aA 3 aC4 x13.level::aA 71 Q8 (List.map (hq (yX).2) (x13.reason:List (Option Nat)))::aA 3 aC6 x13.saved::bZ 61 71 (78,3) H7 yX (x13.watches:(List (List Nat)×List (List Int))) none none::aA 3 aC7 x13.trail::aA 3 Q9 x13.starts::Pt Z8 (.cells #[wO,wM] 68 (0,0))::aA 3 wO x13.queue.list::aA 4 wM x13.queue.isin::bQ 25 3 aC5 usr18_proof (x13.proof:(List (List Int)))::_::_::_::_::_::_::_::_::L) w:=hp
        refine aC (aI ⟨gp0 hp,gp 20 hp rfl,trivial⟩ fun hS=>?_)
        refine W1 11 (by kernel_rfl) rfl ?_
        refine s_call (wk0 rfl) rfl rfl hE rfl [(.pointer (some ⟨br18,0,none⟩)),(.int .i64 x14)] ⟨rfl,rfl,trivial⟩ yK (dP br18 x13 aC8 aC4 Q8 aC6 H7 yX aC7 Q9 Z8 wO wM aC5 usr18_proof x14 ((((((((((((hp.get 12 rfl).get 12 rfl).get 12 rfl).get 12 rfl).get 12 rfl).get 12 rfl).get 12 rfl).get 12 rfl).get 12 rfl).get 12 rfl).get 12 rfl).get 12 rfl) x15 ex15) Ret.ret ?_
        intro v a w hR hE
        obtain⟨vr19_model,vr19_proof,usr19_proof,rfl,hp⟩:=Ret.of hR
        have hp:=r11 hp
        refine aC (aI ⟨gp0 hp,gp 10 hp rfl,trivial⟩ fun hS=>?_)
        refine W1 13 (by kernel_rfl) rfl ?_
        refine dM (wk0 rfl) rfl hE hp rfl rfl rfl 3 rfl eY.size_ rfl (bW ⟨rfl,(aA.one hp 0 rfl),(bQ.one hp 1 rfl),rfl,trivial⟩) [(.int .i64 x15.kind),vr19_model,vr19_proof,(.int .i64 x15.conflicts)] rfl ?_
        intro w hp
        have hp:=r11 hp
        refine aC (aI ⟨gp0 hp,gp 10 hp rfl,trivial⟩ fun hS=>?_)
        exact dZ (by kernel_rfl) ⟨_,_,_,_,hE.cut ⟨rfl,rfl,rfl,rfl,rfl,rfl,rfl,rfl,rfl,rfl,rfl,trivial⟩,(((((((((((((hp.get 10 rfl).get 10 rfl).get 10 rfl).get 10 rfl).get 10 rfl).get 9 rfl).get 7 rfl).get 7 rfl).get 9 rfl).get 10 rfl).drop).get 9 rfl).drop)⟩
       refine dW rfl ?_
       refine qB (wk0 rfl) rfl rfl hE hp rfl [(.int .i64 0),(.slice none 0 0),(.slice none 0 0),(.int .i64 0)] (fun w=>by simp[Instr.alloc,go_sem]<;>rfl) ?_
       intro a w b21 hE hp
       have hp:=r9 hp
       refine aC (aI ⟨gp0 hp,gp 8 hp rfl,trivial⟩ fun hS=>?_)
       refine W1 6 (by kernel_rfl) rfl ?_
       refine lZ (wk0 rfl) rfl rfl hE hp rfl aY rfl rfl 2 rfl rfl (l2:=[x11]) rfl (fun j u hj=>by have:=Hp.cN 3 rfl 0 _ (bY rfl) w hp j u hj;simpa using this) ex12 ?_
       intro v10 a w hE hp
       have hp:=r9 hp
       refine aC (aI ⟨gp0 hp,gp 8 hp rfl,trivial⟩ fun hS=>?_)
       refine W1 7 (by kernel_rfl) rfl ?_
       obtain⟨k11,k11a,k11d,k11h⟩:=(hp.get 2 rfl).lend
       refine s_call (wk0 rfl) rfl rfl hE rfl [(.agg #[(.int .i64 p0.vars),aG]),v10] ⟨rfl,rfl,trivial⟩ I9 (jK p0 aG (bU.mono bI (PH.le_un _ _)) x12 v10 (aA.ro k11d k11a) k11h x13 ex13) Ret.ret ?_
       intro v a w hR hE
       obtain⟨br20,aD3,aC9,U1,aD1,H8,yY,aD2,U2,Z9,wQ,wP,aD0,usr20_proof,rfl,hp⟩:=Ret.of hR
       have hp:=Hp.back k11a k11d hp
       have hp:Hp Z ρ (_::Pt br20 (.cells #[aD3,aC9,U1,aD1,H8,aD2,U2,(.int .i64 x13.head),(.pointer (some ⟨Z9,0,none⟩)),aD0,(.int .i64 x13.literals),(.bool x13.broken)] 65 (0,0))::aA 3 aD3 x13.value::aA 3 aC9 x13.level::aA 71 U1 (List.map (hq (yY).2) (x13.reason:List (Option Nat)))::aA 3 aD1 x13.saved::bZ 61 71 (78,3) H8 yY (x13.watches:(List (List Nat)×List (List Int))) none none::aA 3 aD2 x13.trail::aA 3 U2 x13.starts::Pt Z9 (.cells #[wQ,wP] 68 (0,0))::aA 3 wQ x13.queue.list::aA 4 wP x13.queue.isin::bQ 25 3 aD0 usr20_proof (x13.proof:(List (List Int)))::_::_::_::_::_::_::_::_::L) w:=hp
       refine aC (aI ⟨gp0 hp,gp 20 hp rfl,trivial⟩ fun hS=>?_)
       refine W1 11 (by kernel_rfl) rfl ?_
       refine s_call (wk0 rfl) rfl rfl hE rfl [(.pointer (some ⟨br20,0,none⟩)),(.int .i64 x14)] ⟨rfl,rfl,trivial⟩ yK (dP br20 x13 aD3 aC9 U1 aD1 H8 yY aD2 U2 Z9 wQ wP aD0 usr20_proof x14 ((((((((((((hp.get 12 rfl).get 12 rfl).get 12 rfl).get 12 rfl).get 12 rfl).get 12 rfl).get 12 rfl).get 12 rfl).get 12 rfl).get 12 rfl).get 12 rfl).get 12 rfl) x15 ex15) Ret.ret ?_
       intro v a w hR hE
       obtain⟨vr21_model,vr21_proof,usr21_proof,rfl,hp⟩:=Ret.of hR
       have hp:=r11 hp
       refine aC (aI ⟨gp0 hp,gp 10 hp rfl,trivial⟩ fun hS=>?_)
       refine W1 13 (by kernel_rfl) rfl ?_
       refine dM (wk0 rfl) rfl hE hp rfl rfl rfl 3 rfl eY.size_ rfl (bW ⟨rfl,(aA.one hp 0 rfl),(bQ.one hp 1 rfl),rfl,trivial⟩) [(.int .i64 x15.kind),vr21_model,vr21_proof,(.int .i64 x15.conflicts)] rfl ?_
       intro w hp
       have hp:=r11 hp
       refine aC (aI ⟨gp0 hp,gp 10 hp rfl,trivial⟩ fun hS=>?_)
       exact dZ (by kernel_rfl) ⟨_,_,_,_,hE.cut ⟨rfl,rfl,rfl,rfl,rfl,rfl,rfl,rfl,rfl,rfl,rfl,trivial⟩,(((((((((((((hp.get 10 rfl).get 10 rfl).get 10 rfl).get 10 rfl).get 10 rfl).get 9 rfl).get 7 rfl).get 7 rfl).get 9 rfl).get 10 rfl).drop).get 9 rfl).drop)⟩
      refine dW rfl ?_
      refine qB (wk0 rfl) rfl rfl hE hp rfl [(.int .i64 0),(.slice none 0 0),(.slice none 0 0),(.int .i64 0)] (fun w=>by simp[Instr.alloc,go_sem]<;>rfl) ?_
      intro a w b22 hE hp
      have hp:=r8 hp
      refine aC (aI ⟨gp0 hp,gp 7 hp rfl,trivial⟩ fun hS=>?_)
      refine W1 2 (by kernel_rfl) rfl ?_
      obtain⟨k12,k12a,k12d,k12h⟩:=(hp.get 2 rfl).lend
      refine s_call (wk0 rfl) rfl rfl hE rfl [w86] ⟨rfl,trivial⟩ ent39 (tH dG w86 (aA.ro k12d k12a) k12h x10 ex10) Ret.ret ?_
      intro v11 a w hR hE
      obtain⟨u,hu,hp⟩:=Ret.of hR
      rw[←hu] at hp
      have hp:=Hp.back k12a k12d hp
      have hp:=r9 hp
      have hp:=r9 hp
      refine aC (aI ⟨gp0 hp,gp 8 hp rfl,trivial⟩ fun hS=>?_)
      refine W1 6 (by kernel_rfl) rfl ?_
      refine lZ (wk0 rfl) rfl rfl hE hp rfl aY rfl rfl 1 rfl rfl (l2:=[x11]) rfl (fun j u hj=>by have:=Hp.cN 3 rfl 0 _ (bY rfl) w hp j u hj;simpa using this) ex12 ?_
      intro v12 a w hE hp
      have hp:=r9 hp
      refine aC (aI ⟨gp0 hp,gp 8 hp rfl,trivial⟩ fun hS=>?_)
      refine W1 7 (by kernel_rfl) rfl ?_
      obtain⟨k13,k13a,k13d,k13h⟩:=(hp.get 1 rfl).lend
      refine s_call (wk0 rfl) rfl rfl hE rfl [(.agg #[(.int .i64 p0.vars),aG]),v12] ⟨rfl,rfl,trivial⟩ I9 (jK p0 aG (bU.mono bI (PH.le_un _ _)) x12 v12 (aA.ro k13d k13a) k13h x13 ex13) Ret.ret ?_
      intro v a w hR hE
      obtain⟨br22,aD8,aD4,U3,aD6,H9,yZ,aD7,U4,aA0,wS,wR,aD5,usr22_proof,rfl,hp⟩:=Ret.of hR
      have hp:=Hp.back k13a k13d hp
      have hp:Hp Z ρ (_::Pt br22 (.cells #[aD8,aD4,U3,aD6,H9,aD7,U4,(.int .i64 x13.head),(.pointer (some ⟨aA0,0,none⟩)),aD5,(.int .i64 x13.literals),(.bool x13.broken)] 65 (0,0))::aA 3 aD8 x13.value::aA 3 aD4 x13.level::aA 71 U3 (List.map (hq (yZ).2) (x13.reason:List (Option Nat)))::aA 3 aD6 x13.saved::bZ 61 71 (78,3) H9 yZ (x13.watches:(List (List Nat)×List (List Int))) none none::aA 3 aD7 x13.trail::aA 3 U4 x13.starts::Pt aA0 (.cells #[wS,wR] 68 (0,0))::aA 3 wS x13.queue.list::aA 4 wR x13.queue.isin::bQ 25 3 aD5 usr22_proof (x13.proof:(List (List Int)))::_::_::_::_::_::_::_::_::L) w:=hp
      refine aC (aI ⟨gp0 hp,gp 20 hp rfl,trivial⟩ fun hS=>?_)
      refine W1 11 (by kernel_rfl) rfl ?_
      refine s_call (wk0 rfl) rfl rfl hE rfl [(.pointer (some ⟨br22,0,none⟩)),(.int .i64 x14)] ⟨rfl,rfl,trivial⟩ yK (dP br22 x13 aD8 aD4 U3 aD6 H9 yZ aD7 U4 aA0 wS wR aD5 usr22_proof x14 ((((((((((((hp.get 12 rfl).get 12 rfl).get 12 rfl).get 12 rfl).get 12 rfl).get 12 rfl).get 12 rfl).get 12 rfl).get 12 rfl).get 12 rfl).get 12 rfl).get 12 rfl) x15 ex15) Ret.ret ?_
      intro v a w hR hE
      obtain⟨vr23_model,vr23_proof,usr23_proof,rfl,hp⟩:=Ret.of hR
      have hp:=r11 hp
      refine aC (aI ⟨gp0 hp,gp 10 hp rfl,trivial⟩ fun hS=>?_)
      refine W1 13 (by kernel_rfl) rfl ?_
      refine dM (wk0 rfl) rfl hE hp rfl rfl rfl 4 rfl eY.size_ rfl (bW ⟨rfl,(aA.one hp 0 rfl),(bQ.one hp 1 rfl),rfl,trivial⟩) [(.int .i64 x15.kind),vr23_model,vr23_proof,(.int .i64 x15.conflicts)] rfl ?_
      intro w hp
      have hp:=r11 hp
      refine aC (aI ⟨gp0 hp,gp 10 hp rfl,trivial⟩ fun hS=>?_)
      exact dZ (by kernel_rfl) ⟨_,_,_,_,hE.cut ⟨rfl,rfl,rfl,rfl,rfl,rfl,rfl,rfl,rfl,rfl,rfl,trivial⟩,(((((((((((((hp.get 10 rfl).get 10 rfl).get 10 rfl).get 10 rfl).get 10 rfl).get 8 rfl).get 7 rfl).get 7 rfl).get 9 rfl).get 10 rfl).drop).get 9 rfl).drop)⟩
     refine dW rfl ?_
     refine qB (wk0 rfl) rfl rfl hE hp rfl [(.int .i64 0),(.slice none 0 0),(.slice none 0 0),(.int .i64 0)] (fun w=>by simp[Instr.alloc,go_sem]<;>rfl) ?_
     intro a w b23 hE hp
     have hp:=r7 hp
     refine aC (aI ⟨gp0 hp,gp 6 hp rfl,trivial⟩ fun hS=>?_)
     refine iY [2,5] (by kernel_rfl) rfl ?_
     refine List.forall_mem_cons.2 ⟨?_,List.forall_mem_cons.2 ⟨?_,fun _ h=>absurd h (by simp)⟩⟩
     ·
      refine dW rfl ?_
      obtain⟨k14,k14a,k14d,k14h⟩:=(hp.get 1 rfl).lend
      refine s_call (wk0 rfl) rfl rfl hE rfl [w86] ⟨rfl,trivial⟩ ent39 (tH dG w86 (aA.ro k14d k14a) k14h x10 ex10) Ret.ret ?_
      intro v13 a w hR hE
      obtain⟨u,hu,hp⟩:=Ret.of hR
      rw[←hu] at hp
      have hp:=Hp.back k14a k14d hp
      have hp:=r8 hp
      have hp:=r8 hp
      refine aC (aI ⟨gp0 hp,gp 7 hp rfl,trivial⟩ fun hS=>?_)
      refine W1 5 (by kernel_rfl) rfl ?_
      refine jM (wk0 rfl) rfl rfl hE hp rfl [(0,(.int .i64 x11))] ⟨⟨rfl,rfl⟩,trivial⟩ [(.int .i64 x11)] 3 (fun w=>by simp[Instr.buildSlice,Instr.fill,Value.cells,go_sem]) ?_
      intro a w b24 hE hp
      have hp:=r9 hp
      refine aC (aI ⟨gp0 hp,gp 8 hp rfl,trivial⟩ fun hS=>?_)
      refine W1 6 (by kernel_rfl) rfl ?_
      refine lZ (wk0 rfl) rfl rfl hE hp rfl aY rfl rfl 2 rfl rfl (l2:=[x11]) rfl (fun j u hj=>by have:=Hp.cN 0 rfl 0 _ (bY rfl) w hp j u hj;simpa using this) ex12 ?_
      intro v14 a w hE hp
      have hp:=r9 hp
      refine aC (aI ⟨gp0 hp,gp 8 hp rfl,trivial⟩ fun hS=>?_)
      refine W1 7 (by kernel_rfl) rfl ?_
      obtain⟨k15,k15a,k15d,k15h⟩:=(hp.get 2 rfl).lend
      refine s_call (wk0 rfl) rfl rfl hE rfl [(.agg #[(.int .i64 p0.vars),aG]),v14] ⟨rfl,rfl,trivial⟩ I9 (jK p0 aG (bU.mono bI (PH.le_un _ _)) x12 v14 (aA.ro k15d k15a) k15h x13 ex13) Ret.ret ?_
      intro v a w hR hE
      obtain⟨br24,aE3,aD9,U5,aE1,I4,zA,aE2,U6,aA1,wV,wU,aE0,usr24_proof,rfl,hp⟩:=Ret.of hR
      have hp:=Hp.back k15a k15d hp
      have hp:Hp Z ρ (_::Pt br24 (.cells #[aE3,aD9,U5,aE1,I4,aE2,U6,(.int .i64 x13.head),(.pointer (some ⟨aA1,0,none⟩)),aE0,(.int .i64 x13.literals),(.bool x13.broken)] 65 (0,0))::aA 3 aE3 x13.value::aA 3 aD9 x13.level::aA 71 U5 (List.map (hq (zA).2) (x13.reason:List (Option Nat)))::aA 3 aE1 x13.saved::bZ 61 71 (78,3) I4 zA (x13.watches:(List (List Nat)×List (List Int))) none none::aA 3 aE2 x13.trail::aA 3 U6 x13.starts::Pt aA1 (.cells #[wV,wU] 68 (0,0))::aA 3 wV x13.queue.list::aA 4 wU x13.queue.isin::bQ 25 3 aE0 usr24_proof (x13.proof:(List (List Int)))::_::_::_::_::_::_::_::_::L) w:=hp
      refine aC (aI ⟨gp0 hp,gp 20 hp rfl,trivial⟩ fun hS=>?_)
      refine W1 11 (by kernel_rfl) rfl ?_
      refine s_call (wk0 rfl) rfl rfl hE rfl [(.pointer (some ⟨br24,0,none⟩)),(.int .i64 x14)] ⟨rfl,rfl,trivial⟩ yK (dP br24 x13 aE3 aD9 U5 aE1 I4 zA aE2 U6 aA1 wV wU aE0 usr24_proof x14 ((((((((((((hp.get 12 rfl).get 12 rfl).get 12 rfl).get 12 rfl).get 12 rfl).get 12 rfl).get 12 rfl).get 12 rfl).get 12 rfl).get 12 rfl).get 12 rfl).get 12 rfl) x15 ex15) Ret.ret ?_
      intro v a w hR hE
      obtain⟨vr25_model,vr25_proof,usr25_proof,rfl,hp⟩:=Ret.of hR
      have hp:=r11 hp
      refine aC (aI ⟨gp0 hp,gp 10 hp rfl,trivial⟩ fun hS=>?_)
      refine W1 13 (by kernel_rfl) rfl ?_
      refine dM (wk0 rfl) rfl hE hp rfl rfl rfl 5 rfl eY.size_ rfl (bW ⟨rfl,(aA.one hp 0 rfl),(bQ.one hp 1 rfl),rfl,trivial⟩) [(.int .i64 x15.kind),vr25_model,vr25_proof,(.int .i64 x15.conflicts)] rfl ?_
      intro w hp
      have hp:=r11 hp
      refine aC (aI ⟨gp0 hp,gp 10 hp rfl,trivial⟩ fun hS=>?_)
      exact dZ (by kernel_rfl) ⟨_,_,_,_,hE.cut ⟨rfl,rfl,rfl,rfl,rfl,rfl,rfl,rfl,rfl,rfl,rfl,trivial⟩,(((((((((((((hp.get 10 rfl).get 10 rfl).get 10 rfl).get 10 rfl).get 10 rfl).get 9 rfl).get 7 rfl).get 7 rfl).get 10 rfl).get 10 rfl).drop).get 9 rfl).drop)⟩
     refine dW rfl ?_
     refine jM (wk0 rfl) rfl rfl hE hp rfl [(0,(.int .i64 x11))] ⟨⟨rfl,rfl⟩,trivial⟩ [(.int .i64 x11)] 3 (fun w=>by simp[Instr.buildSlice,Instr.fill,Value.cells,go_sem]) ?_
     intro a w b25 hE hp
     have hp:=r8 hp
     refine aC (aI ⟨gp0 hp,gp 7 hp rfl,trivial⟩ fun hS=>?_)
     refine W1 2 (by kernel_rfl) rfl ?_
     obtain⟨k16,k16a,k16d,k16h⟩:=(hp.get 2 rfl).lend
     refine s_call (wk0 rfl) rfl rfl hE rfl [w86] ⟨rfl,trivial⟩ ent39 (tH dG w86 (aA.ro k16d k16a) k16h x10 ex10) Ret.ret ?_
     intro v15 a w hR hE
     obtain⟨u,hu,hp⟩:=Ret.of hR
     rw[←hu] at hp
     have hp:=Hp.back k16a k16d hp
     have hp:=r9 hp
     have hp:=r9 hp
     refine aC (aI ⟨gp0 hp,gp 8 hp rfl,trivial⟩ fun hS=>?_)
     refine W1 6 (by kernel_rfl) rfl ?_
     refine lZ (wk0 rfl) rfl rfl hE hp rfl aY rfl rfl 1 rfl rfl (l2:=[x11]) rfl (fun j u hj=>by have:=Hp.cN 2 rfl 0 _ (bY rfl) w hp j u hj;simpa using this) ex12 ?_
     intro v16 a w hE hp
     have hp:=r9 hp
     refine aC (aI ⟨gp0 hp,gp 8 hp rfl,trivial⟩ fun hS=>?_)
     refine W1 7 (by kernel_rfl) rfl ?_
     obtain⟨k17,k17a,k17d,k17h⟩:=(hp.get 1 rfl).lend
     refine s_call (wk0 rfl) rfl rfl hE rfl [(.agg #[(.int .i64 p0.vars),aG]),v16] ⟨rfl,rfl,trivial⟩ I9 (jK p0 aG (bU.mono bI (PH.le_un _ _)) x12 v16 (aA.ro k17d k17a) k17h x13 ex13) Ret.ret ?_
     intro v a w hR hE
     obtain⟨br26,aE8,aE4,U7,aE6,I5,zB,aE7,U9,aA2,wX,wW,aE5,usr26_proof,rfl,hp⟩:=Ret.of hR
     have hp:=Hp.back k17a k17d hp
     have hp:Hp Z ρ (_::Pt br26 (.cells #[aE8,aE4,U7,aE6,I5,aE7,U9,(.int .i64 x13.head),(.pointer (some ⟨aA2,0,none⟩)),aE5,(.int .i64 x13.literals),(.bool x13.broken)] 65 (0,0))::aA 3 aE8 x13.value::aA 3 aE4 x13.level::aA 71 U7 (List.map (hq (zB).2) (x13.reason:List (Option Nat)))::aA 3 aE6 x13.saved::bZ 61 71 (78,3) I5 zB (x13.watches:(List (List Nat)×List (List Int))) none none::aA 3 aE7 x13.trail::aA 3 U9 x13.starts::Pt aA2 (.cells #[wX,wW] 68 (0,0))::aA 3 wX x13.queue.list::aA 4 wW x13.queue.isin::bQ 25 3 aE5 usr26_proof (x13.proof:(List (List Int)))::_::_::_::_::_::_::_::_::L) w:=hp
     refine aC (aI ⟨gp0 hp,gp 20 hp rfl,trivial⟩ fun hS=>?_)
     refine W1 11 (by kernel_rfl) rfl ?_
     refine s_call (wk0 rfl) rfl rfl hE rfl [(.pointer (some ⟨br26,0,none⟩)),(.int .i64 x14)] ⟨rfl,rfl,trivial⟩ yK (dP br26 x13 aE8 aE4 U7 aE6 I5 zB aE7 U9 aA2 wX wW aE5 usr26_proof x14 ((((((((((((hp.get 12 rfl).get 12 rfl).get 12 rfl).get 12 rfl).get 12 rfl).get 12 rfl).get 12 rfl).get 12 rfl).get 12 rfl).get 12 rfl).get 12 rfl).get 12 rfl) x15 ex15) Ret.ret ?_
     intro v a w hR hE
     obtain⟨vr27_model,vr27_proof,usr27_proof,rfl,hp⟩:=Ret.of hR
     have hp:=r11 hp
     refine aC (aI ⟨gp0 hp,gp 10 hp rfl,trivial⟩ fun hS=>?_)
     refine W1 13 (by kernel_rfl) rfl ?_
     refine dM (wk0 rfl) rfl hE hp rfl rfl rfl 5 rfl eY.size_ rfl (bW ⟨rfl,(aA.one hp 0 rfl),(bQ.one hp 1 rfl),rfl,trivial⟩) [(.int .i64 x15.kind),vr27_model,vr27_proof,(.int .i64 x15.conflicts)] rfl ?_
     intro w hp
     have hp:=r11 hp
     refine aC (aI ⟨gp0 hp,gp 10 hp rfl,trivial⟩ fun hS=>?_)
     exact dZ (by kernel_rfl) ⟨_,_,_,_,hE.cut ⟨rfl,rfl,rfl,rfl,rfl,rfl,rfl,rfl,rfl,rfl,rfl,trivial⟩,(((((((((((((hp.get 10 rfl).get 10 rfl).get 10 rfl).get 10 rfl).get 10 rfl).get 8 rfl).get 7 rfl).get 7 rfl).get 10 rfl).get 10 rfl).drop).get 9 rfl).drop)⟩
    rintro a w ⟨y164,y162,y163,yus163,hE,hp⟩
    refine aH (aB ?_)
    refine S hE 1 rfl fun a hE=>V hE hp rfl (xf hE fldty29_3 rfl rfl) fun a hE=>V hE hp rfl (xl hE bG 0 rfl rfl rfl rfl) fun a hE=>?_
    obtain⟨x16,ex16,hj1⟩:=bnd hj1
    refine V hE hp rfl (dS rfl hE rfl rfl (bF ex16)) fun a hE=>S hE 1 rfl fun a hE=>aC (aH ?_)
    refine aB (V hE hp rfl (xf hE tJ rfl rfl) fun a hE=>?_)
    refine V hE hp rfl (xl hE bG 0 rfl rfl rfl rfl) fun a hE=>aC (dL ?_)
    refine aH (aB ?_)
    refine S hE 2 rfl fun a hE=>aC ?_
    refine dQ hE rfl (fun hc6=>?_) (fun hc6=>?_)
    ·replace hj1:=(it hc6).symm.trans hj1
     refine aH (aB ?_)
     refine S hE 1 rfl fun a hE=>V hE hp rfl (v:=(.agg #[(.int .i64 2),(.slice none 0 0),(.slice none 0 0),(.int .i64 x16)])) (qF rfl hE [(0,(.int .i64 2)),(3,(.int .i64 x16))] (by exact⟨⟨rfl,rfl⟩,⟨rfl,rfl⟩,trivial⟩) (fun w=>by simp[Instr.build,Instr.fill,Value.cells,go_sem])) fun a hE=>?_
     refine dM (wk0 rfl) rfl hE hp rfl rfl rfl 7 rfl eY.size_ rfl (bW ⟨rfl,rfl,rfl,rfl,trivial⟩) [(.int .i64 2),(.slice none 0 0),(.slice none 0 0),(.int .i64 x16)] rfl ?_
     intro w hp
     have hp:=r9 hp
     refine S hE 1 rfl fun a hE=>aC (dE ?_)
     obtain rfl:=Option.some.inj hj1
     refine⟨_,(Option.some.inj hl1).symm,fun hb=>?_⟩
     subst hb
     have hp:=hp.emp (aA.nil (α:=Int) 3)
     have hp:=r10 hp
     have hp:=hp.emp (bQ.none (α:=Int) 25 3 none)
     have hp:=r11 hp
     have hp:=r11 hp
     obtain rfl:=Option.some.inj hm
     exact retct hE rfl rfl rfl (rM (cs:=[(.int .i64 2),(.slice none 0 0),(.slice none 0 0),(.int .i64 x16)]) eY (Hp.cN 9 rfl 0 _ (bY rfl) _ hp)) ⟨_,rfl,_,_,_,rfl,((((((((((((((((((((hp.get 0 rfl).get 1 rfl).get 10 rfl).drop).get 9 rfl).drop).get 8 rfl).drop).get 7 rfl).drop).get 6 rfl).drop).get 5 rfl).drop).get 4 rfl).drop).get 3 rfl).drop).get 2 rfl).drop)⟩
    replace hj1:=(ie hc6).symm.trans hj1
    refine aH (aB ?_)
    refine S hE 2 rfl fun a hE=>aC ?_
    have hE:=hE.cut (E':=[(2,(.int .i64 p2)),(3,(.pointer (some ⟨b1,0,none⟩))),(6,(.pointer (some ⟨b2,0,none⟩))),(8,(.pointer (some ⟨b3,0,none⟩))),(9,w86),(10,(.int .i64 x16)),(12,(.int .i64 x4)),(13,(.pointer (some ⟨y164,0,none⟩))),(30,vp1),(31,(.int .i64 (p1.length:Int))),(32,(.int .i64 cZ)),(76,(.bool (decide (x15.kind=0))))]) ⟨rfl,rfl,rfl,rfl,rfl,rfl,rfl,rfl,rfl,rfl,rfl,rfl,trivial⟩
    refine dQ hE rfl (fun hc7=>?_) (fun hc7=>?_)
    ·replace hj1:=(it hc7).symm.trans hj1
     refine aH (aB ?_)
     refine V hE hp rfl (aZ rfl hE rfl (fun w hw=>gQ (cs:=[(.int .i64 x15.kind),y162,y163,(.int .i64 x15.conflicts)]) eY (Hp.cN 0 rfl 0 _ (bY rfl) w hw))) fun a hE=>?_
     refine dM (wk0 rfl) rfl hE hp rfl rfl rfl 4 rfl eY.size_ rfl (bW ⟨rfl,(aA.one hp 1 rfl),(bQ.one hp 2 rfl),rfl,trivial⟩) [(.int .i64 x15.kind),y162,y163,(.int .i64 x15.conflicts)] rfl ?_
     intro w hp
     have hp:=r9 hp
     refine aC (aB ?_)
     refine S hE 2 rfl fun a hE=>?_
     obtain⟨x17,ex17,hj1⟩:=bnd hj1
     refine V hE hp rfl (nZ rfl hE rfl (bF ex17)) fun a hE=>?_
     refine jM (wk0 rfl) rfl rfl hE hp rfl [(0,(.int .i64 x17))] ⟨⟨rfl,rfl⟩,trivial⟩ [(.int .i64 x17)] 3 (fun w=>by simp[Instr.buildSlice,Instr.fill,Value.cells,go_sem]) ?_
     intro a w b26 hE hp
     have hp:=r10 hp
     obtain⟨x18,ex18,hj1⟩:=bnd hj1
     refine lZ (wk0 rfl) rfl rfl hE hp rfl aY rfl rfl 4 rfl rfl (l2:=[x17]) rfl (fun j u hj=>by have:=Hp.cN 0 rfl 0 _ (bY rfl) w hp j u hj;simpa using this) ex18 ?_
     intro v17 a w hE hp
     have hp:=r10 hp
     refine S hE 1 rfl fun a hE=>aC ?_
     have hp:=(hp.get 1 rfl).drop
     have hp:=(hp.get 5 rfl).drop
     have hp:=r8 hp
     have hp:=(hp.get 5 rfl).drop
     have hp:=r7 hp
     obtain rfl:=Option.some.inj hj1
     exact⟨_,rfl,_,_,_,_,hE.cut ⟨rfl,rfl,rfl,rfl,rfl,rfl,rfl,rfl,rfl,trivial⟩,((((((((hp.get 6 rfl).get 6 rfl).get 4 rfl).get 4 rfl).get 6 rfl).get 6 rfl).get 6 rfl).drop)⟩
    replace hj1:=(ie hc7).symm.trans hj1
    refine aB (S hE 2 rfl fun a hE=>?_)
    refine jM (wk0 rfl) rfl rfl hE hp rfl [(0,(.int .i64 x4))] ⟨⟨rfl,rfl⟩,trivial⟩ [(.int .i64 x4)] 3 (fun w=>by simp[Instr.buildSlice,Instr.fill,Value.cells,go_sem]) ?_
    intro a w b27 hE hp
    have hp:=r10 hp
    obtain⟨x19,ex19,hj1⟩:=bnd hj1
    refine lZ (wk0 rfl) rfl rfl hE hp rfl aY rfl rfl 4 rfl rfl (l2:=[x4]) rfl (fun j u hj=>by have:=Hp.cN 0 rfl 0 _ (bY rfl) w hp j u hj;simpa using this) ex19 ?_
    intro v18 a w hE hp
    have hp:=r10 hp
    refine S hE 1 rfl fun a hE=>aC ?_
    obtain rfl:=Option.some.inj hj1
    exact⟨_,rfl,_,_,_,_,hE.cut ⟨rfl,rfl,rfl,rfl,rfl,rfl,rfl,rfl,rfl,trivial⟩,(((((((hp.get 3 rfl).drop).get 2 rfl).drop).get 1 rfl).drop).drop)⟩
   rintro a w ⟨j1s,rfl,w86,w19,w20q,us20q,hE,hp⟩
   dsimp only at hl1
   refine aB ?_
   obtain⟨x20,ex20,hl1⟩:=bnd hl1
   refine V hE hp rfl (dS rfl hE rfl rfl (bF ex20)) fun a hE=>S hE 1 rfl fun a hE=>aC ?_
   have hE:=hE.cut (E':=[(2,(.int .i64 p2)),(3,(.pointer (some ⟨b1,0,none⟩))),(6,(.pointer (some ⟨b2,0,none⟩))),(8,(.pointer (some ⟨b3,0,none⟩))),(9,w86),(10,(.int .i64 j1s.1)),(30,vp1),(31,(.int .i64 (p1.length:Int))),(32,(.int .i64 x20))]) ⟨rfl,rfl,rfl,rfl,rfl,rfl,rfl,rfl,rfl,trivial⟩
   exact⟨_,(Option.some.inj hl1).symm,_,_,_,_,hE.cut ⟨rfl,rfl,rfl,rfl,rfl,rfl,rfl,rfl,rfl,trivial⟩,hp⟩
  replace hl1:=(ie hc4).symm.trans hl1
  refine eU ?_
  refine⟨_,(Option.some.inj hl1).symm,fun hbb=>?_⟩
  exact⟨_,hbb.symm,_,_,_,_,hE.cut ⟨rfl,rfl,rfl,trivial⟩,hp⟩
 rintro a w ⟨b4s,rfl,w86,w19,w20,us20,hE,hp⟩
 dsimp only at hm
 refine aH (aB ?_)
 refine S hE 1 rfl fun a hE=>V hE hp rfl (xf hE fldty29_3 rfl rfl) fun a hE=>?_
 refine dM (wk0 rfl) rfl hE hp rfl rfl rfl 1 rfl bG.size_ rfl (bW ⟨rfl,trivial⟩) [(.int .i64 b4s.2.2.1),w19,w20,(.int .i64 b4s.1)] rfl ?_
 intro w hp
 have hp:=r6 hp
 refine aC (aH ?_)
 refine aB (V hE hp rfl (aZ rfl hE rfl (fun w hw=>gQ (cs:=[(.int .i64 b4s.2.2.1),w19,w20,(.int .i64 b4s.1)]) eY (Hp.cN 1 rfl 0 _ (bY rfl) w hw))) fun a hE=>?_)
 refine dM (wk0 rfl) rfl hE hp rfl rfl rfl 4 rfl eY.size_ rfl (bW ⟨rfl,(aA.one hp 2 rfl),(bQ.one hp 3 rfl),rfl,trivial⟩) [(.int .i64 b4s.2.2.1),w19,w20,(.int .i64 b4s.1)] rfl ?_
 intro w hp
 have hp:=r6 hp
 refine S hE 1 rfl fun a hE=>aC (dE ?_)
 obtain rfl:=Option.some.inj hm
 exact retct hE rfl rfl rfl (rM (cs:=[(.int .i64 b4s.2.2.1),w19,w20,(.int .i64 b4s.1)]) eY (Hp.cN 4 rfl 0 _ (bY rfl) _ hp)) ⟨_,rfl,_,_,_,rfl,(((((((hp.get 5 rfl).drop).get 4 rfl).drop).get 1 rfl).drop).drop)⟩
end Go.Proofs.Ytpkhmndpeipfmaa

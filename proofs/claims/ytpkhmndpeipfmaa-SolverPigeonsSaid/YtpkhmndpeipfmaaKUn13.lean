/- The code goes as its model: (*assessor/solver.solver).run. (Printed by wip/sp/gen.py.) -/
import Derived.Test.YtpkhmndpeipfmaaKUnT
import Derived.Test.YtpkhmndpeipfmaaKUn5
import Derived.Test.YtpkhmndpeipfmaaKUn6
import Derived.Test.YtpkhmndpeipfmaaKUn10
import Derived.Test.YtpkhmndpeipfmaaKUn11
import Derived.Test.YtpkhmndpeipfmaaKUn12
set_option linter.unusedVariables false
set_option linter.unusedSimpArgs false
set_option maxRecDepth 100000
set_option maxHeartbeats 4000000
namespace Go.Proofs.Ytpkhmndpeipfmaa
open Go.RowKit
theorem dW {Z:World} {ρ:PH} {L:List bZ} {w:World} (bp0:Nat) (p0:Sol) (aV:Value) (aX:Value) (aY:Value) (aS:Value) (aN:Value) (aF:List Sl×List Pc) (aT:Value) (aP:Value) (aO:Nat) (aK:Value) (aJ:Value) (aQ:Value) (bF:List Sl) (p1:Int) (hp:Hp Z ρ (Pt bp0 (.cells #[aV,aX,aY,aS,aN,aT,aP,(Iv p0.head),(Pv aO 0),aQ,(Iv p0.literals),(.bool p0.broken)] 65 (0,0))::aA 3 aV p0.value::aA 3 aX p0.level::aA 71 aY (List.map (hq (aF).2) (p0.reason:List (Option Nat)))::aA 3 aS p0.saved::cO 61 71 (78,3) aN aF (p0.watches:WD) none none::aA 3 aT p0.trail::aA 3 aP p0.starts::Pt aO (.cells #[aK,aJ] 68 (0,0))::aA 3 aK p0.queue.list::aA 4 aJ p0.queue.isin::bT 25 3 aQ bF (p0.proof:(List (List Int)))::L) w) (r:Answer) (hm:fZ p0 p1=some r):
  Calls Try.prog 30 #[(Pv bp0 0),(Iv p1)] w (Ret fun v w'=>∃(qU:Value) (nS:Value) (sN:List Sl),v=(.agg #[(Iv r.kind),qU,nS,(Iv r.conflicts)])∧Hp Z ρ (aA 3 qU r.model::bT 25 3 nS sN (r.proof:(List (List Int)))::L) w'):=by
 refine enter (N:=88) Try.func30 rfl rfl [(0,(Pv bp0 0)),(1,(Iv p1))] rfl (bM ⟨rfl,rfl,trivial⟩) fun a hE=>?_
 unfold fZ at hm
 refine aG (aB ?_)
 refine qB (wk0 rfl) rfl rfl hE hp rfl [(Iv 0),N0,N0,(Iv 0)] (fun w=>by simp[Instr.alloc,go_sem]<;>rfl) ?_
 intro a w b1 hE hp
 have hp:=r13 hp
 refine aC (aG ?_)
 refine aB (S hE 1 rfl fun a hE=>?_)
 refine aC ?_
 obtain⟨b2,hc1,hm⟩:=bnd hm
 refine dH (fun a w=>∃s:(Int×Int×Bool×(List Int)×(List Int)×(List (Option Nat))×(List Int)×WD×(List Int)×(List Int)×(List Int)×(List Bool)×(List (List Int))),b2= .brk s∧(∃(w2:Value) (w3:Value) (w4:Value) (w5:Value) (w6:Value) (utw6:List Sl×List Pc) (w7:Value) (w8:Value) (w10:Value) (w11:Value) (w12:Value) (us12:List Sl),Env 88 [(4,(Pv b1 0))] a∧Hp Z ρ (Pt b1 (.cells #[(Iv 0),N0,N0,(Iv 0)] 29 (0,0))::Pt bp0 (.cells #[w2,w3,w4,w5,w6,w7,w8,(Iv s.1),(Pv aO 0),w12,(Iv s.2.1),(.bool s.2.2.1)] 65 (0,0))::aA 3 w2 s.2.2.2.1::aA 3 w3 s.2.2.2.2.1::aA 71 w4 (List.map (hq (utw6).2) (s.2.2.2.2.2.1:List (Option Nat)))::aA 3 w5 s.2.2.2.2.2.2.1::cO 61 71 (78,3) w6 utw6 (s.2.2.2.2.2.2.2.1:WD) none none::aA 3 w7 s.2.2.2.2.2.2.2.2.1::aA 3 w8 s.2.2.2.2.2.2.2.2.2.1::Pt aO (.cells #[w10,w11] 68 (0,0))::aA 3 w10 s.2.2.2.2.2.2.2.2.2.2.1::aA 4 w11 s.2.2.2.2.2.2.2.2.2.2.2.1::bT 25 3 w12 us12 (s.2.2.2.2.2.2.2.2.2.2.2.2:(List (List Int)))::L) w)) ?_ ?_
 ·refine eU hc1 (fun s a w=>∃(w2:Value) (w3:Value) (w4:Value) (w5:Value) (w6:Value) (utw6:List Sl×List Pc) (w7:Value) (w8:Value) (w10:Value) (w11:Value) (w12:Value) (us12:List Sl),Env 88 [(0,(Pv bp0 0)),(1,(Iv p1)),(4,(Pv b1 0)),(5,(Iv s.1))] a∧Hp Z ρ (Pt b1 (.cells #[(Iv 0),N0,N0,(Iv 0)] 29 (0,0))::Pt bp0 (.cells #[w2,w3,w4,w5,w6,w7,w8,(Iv s.2.1),(Pv aO 0),w12,(Iv s.2.2.1),(.bool s.2.2.2.1)] 65 (0,0))::aA 3 w2 s.2.2.2.2.1::aA 3 w3 s.2.2.2.2.2.1::aA 71 w4 (List.map (hq (utw6).2) (s.2.2.2.2.2.2.1:List (Option Nat)))::aA 3 w5 s.2.2.2.2.2.2.2.1::cO 61 71 (78,3) w6 utw6 (s.2.2.2.2.2.2.2.2.1:WD) none none::aA 3 w7 s.2.2.2.2.2.2.2.2.2.1::aA 3 w8 s.2.2.2.2.2.2.2.2.2.2.1::Pt aO (.cells #[w10,w11] 68 (0,0))::aA 3 w10 s.2.2.2.2.2.2.2.2.2.2.2.1::aA 4 w11 s.2.2.2.2.2.2.2.2.2.2.2.2.1::bT 25 3 w12 us12 (s.2.2.2.2.2.2.2.2.2.2.2.2.2:(List (List Int)))::L) w) ?_ ?_
  ·exact⟨_,_,_,_,_,aF,_,_,_,_,_,_,hE.cut ⟨rfl,rfl,rfl,rfl,trivial⟩,hp⟩
  rintro⟨aW,bU,dJ,jB,kD,lF,vU,vI,lp1_8,lp1_9,sG,wE,wF,wG⟩ st a w ⟨w2,w3,w4,w5,w6,utw6,w7,w8,w10,w11,w12,us12,hE,hp⟩ hl1
  dsimp only at hE hp hl1
  unfold fP at hl1
  obtain⟨j1,hj1,hl1⟩:=bnd hl1
  refine dH (fun a w=>∃s:(Int×Int×Int×Bool×(List Int)×(List Int)×(List (Option Nat))×(List Int)×WD×(List Int)×(List Int)×(List Int)×(List Bool)×(List (List Int))),j1= .brk s∧(∃(w2:Value) (w3:Value) (w4:Value) (w5:Value) (w6q:Value) (utw6q:List Sl×List Pc) (w7:Value) (w8:Value) (w10:Value) (w11:Value) (w12q:Value) (us12q:List Sl),Env 88 [(0,(Pv bp0 0)),(1,(Iv p1)),(4,(Pv b1 0)),(5,(Iv s.1))] a∧Hp Z ρ (Pt b1 (.cells #[(Iv 0),N0,N0,(Iv 0)] 29 (0,0))::Pt bp0 (.cells #[w2,w3,w4,w5,w6q,w7,w8,(Iv s.2.1),(Pv aO 0),w12q,(Iv s.2.2.1),(.bool s.2.2.2.1)] 65 (0,0))::aA 3 w2 s.2.2.2.2.1::aA 3 w3 s.2.2.2.2.2.1::aA 71 w4 (List.map (hq (utw6q).2) (s.2.2.2.2.2.2.1:List (Option Nat)))::aA 3 w5 s.2.2.2.2.2.2.2.1::cO 61 71 (78,3) w6q utw6q (s.2.2.2.2.2.2.2.2.1:WD) none none::aA 3 w7 s.2.2.2.2.2.2.2.2.2.1::aA 3 w8 s.2.2.2.2.2.2.2.2.2.2.1::Pt aO (.cells #[w10,w11] 68 (0,0))::aA 3 w10 s.2.2.2.2.2.2.2.2.2.2.2.1::aA 4 w11 s.2.2.2.2.2.2.2.2.2.2.2.2.1::bT 25 3 w12q us12q (s.2.2.2.2.2.2.2.2.2.2.2.2.2:(List (List Int)))::L) w)) ?_ ?_
  ·
   refine aG (aB ?_)
   refine S hE 1 rfl fun a hE=>?_
   obtain⟨x1,ex1,hj1⟩:=bnd hj1
   refine Cl hE rfl rfl ent50 (zG bp0 (Sol.mk kD lF vU vI lp1_8 lp1_9 sG bU (Que.mk wE wF) wG dJ jB) w2 w3 w4 w5 w6 utw6 w7 w8 aO w10 w11 w12 us12 ((((((((((((hp.get 12 rfl).get 12 rfl).get 12 rfl).get 12 rfl).get 12 rfl).get 12 rfl).get 12 rfl).get 12 rfl).get 12 rfl).get 12 rfl).get 12 rfl).get 12 rfl) x1 ex1) ⟨rfl,trivial⟩ fun v a w hR hE=>?_
   obtain⟨lD,rW,qE,mQ,iK,lC,rfl,hp⟩:=hR
   have hp:=r13 hp
   refine S hE 1 rfl fun a hE=>aC (aG ?_)
   refine aG (aB ?_)
   refine S hE 1 rfl fun a hE=>V hE hp rfl (v:=(.bool x1.1.isNone)) (ex_qnil (e:=x1.1) (au:=((iK,utw6.2)).2) pty71 rfl hE rfl rfl) fun a hE=>S hE 1 rfl fun a hE=>?_
   refine lZ [_,_,_,_,_,_] (fun a w=>Env 88 [(20,(.bool (x1.1.isNone&&(!x1.2.broken)))),(0,(Pv bp0 0)),(1,(Iv p1)),(4,(Pv b1 0)),(5,(Iv aW)),(6,(pqv (hq ((iK,utw6.2)).2 x1.1)))] a∧Hp Z ρ (Pt bp0 (.cells #[lD,rW,qE,w5,mQ,lC,w8,(Iv x1.2.head),(Pv aO 0),w12,(Iv x1.2.literals),(.bool x1.2.broken)] 65 (0,0))::aA 3 lD x1.2.value::aA 3 rW x1.2.level::aA 71 qE (List.map (hq ((iK,utw6.2)).2) (x1.2.reason:List (Option Nat)))::aA 3 w5 vI::cO 61 71 (78,3) mQ (iK,utw6.2) (x1.2.watches:WD) none none::aA 3 lC x1.2.trail::aA 3 w8 sG::Pt aO (.cells #[w10,w11] 68 (0,0))::aA 3 w10 wE::aA 4 w11 wF::bT 25 3 w12 us12 (wG:(List (List Int)))::Pt b1 (.cells #[(Iv 0),N0,N0,(Iv 0)] 29 (0,0))::L) w) ?_ ?_
   ·rcases Bool.eq_false_or_eq_true x1.1.isNone with hc2|hc2
    ·
     refine Gs hE hc2 rfl rfl fun a hE=>Gs hE hc2 rfl rfl fun a hE=>G hE hp hc2 rfl (xf hE J4 rfl rfl) fun a hE=>G hE hp hc2 rfl (xl hE sO 0 rfl rfl rfl rfl) fun a hE=>Gs hE hc2 rfl rfl fun a hE=>pk1 hE hc2 rfl rfl rfl rfl fun a hE=>?_
     have hE:=hE.eqv (v':=(.bool (x1.1.isNone&&(!x1.2.broken)))) (by rw[hc2];rfl)
     exact aC ⟨hE.cut ⟨rfl,rfl,rfl,rfl,rfl,rfl,trivial⟩,hp⟩
    refine Gk hE hc2 rfl fun a hE=>Gk hE hc2 rfl fun a hE=>Gk hE hc2 rfl fun a hE=>Gk hE hc2 rfl fun a hE=>Gk hE hc2 rfl fun a hE=>pk0 hE hc2 rfl rfl rfl rfl fun a hE=>?_
    have hE:=hE.eqv (v':=(.bool (x1.1.isNone&&(!x1.2.broken)))) (by rw[hc2];rfl)
    exact aC ⟨hE.cut ⟨rfl,rfl,rfl,rfl,rfl,rfl,trivial⟩,hp⟩
   rintro a w ⟨hE,hp⟩
   refine aC ?_
   refine dK hE rfl (fun hc3=>?_) (fun hc3=>?_)
   ·replace hj1:=(it hc3).symm.trans hj1
    refine aG (aG ?_)
    refine aB (S hE 1 rfl fun a hE=>?_)
    obtain⟨x2,ex2,hj1⟩:=bnd hj1
    refine Cl hE rfl rfl ent51 (I8 bp0 (Sol.mk x1.2.value x1.2.level x1.2.reason vI x1.2.watches x1.2.trail sG x1.2.head (Que.mk wE wF) wG x1.2.literals x1.2.broken) lD rW qE w5 mQ (iK,utw6.2) lC w8 aO w10 w11 w12 us12 ((((((((((((hp.get 11 rfl).get 11 rfl).get 11 rfl).get 11 rfl).get 11 rfl).get 11 rfl).get 11 rfl).get 11 rfl).get 11 rfl).get 11 rfl).get 11 rfl).get 11 rfl) x2 ex2) ⟨rfl,trivial⟩ fun v a w hR hE=>?_
    obtain⟨H8,vz2_level,vz2_reason,vz2_saved,xC,rH,H7,vz2_starts,vz2_queue_list,vz2_queue_isin,vz2_proof,usz2_proof,rfl,hp⟩:=hR
    have hp:=r13 hp
    refine aC ?_
    refine dK hE rfl (fun hc4=>?_) (fun hc4=>?_)
    ·replace hj1:=(it hc4).symm.trans hj1
     refine dR ?_
     obtain rfl:=oj hj1
     exact⟨_,rfl,_,_,_,_,_,rH,_,_,_,_,_,_,hE.cut ⟨rfl,rfl,rfl,rfl,trivial⟩,(((((((((((((hp.get 11 rfl).get 11 rfl).get 11 rfl).get 11 rfl).get 11 rfl).get 11 rfl).get 11 rfl).get 11 rfl).get 11 rfl).get 11 rfl).get 11 rfl).get 11 rfl).get 12 rfl)⟩
    replace hj1:=(ie hc4).symm.trans hj1
    refine bP (aG ?_)
    refine aB (S hE 2 rfl fun a hE=>?_)
    refine V hE hp rfl (xf hE E8 rfl rfl) fun a hE=>V hE hp rfl (xl hE bJ 0 rfl rfl rfl rfl) fun a hE=>?_
    obtain⟨x3,ex3,hj1⟩:=bnd hj1
    obtain⟨v1,v1r,hp⟩:=aA.part (hp.get 1 rfl) bC (some (.i64,1)) none rfl rfl ex3
    have hp:=r13 hp
    refine V hE hp rfl (wV rfl hE rfl (some (.i64,1)) none (by exact rfl) (by exact trivial) v1r) fun a hE=>?_
    obtain⟨k1,k1a,k1d,k1h⟩:=(hp.get 0 rfl).lend
    obtain⟨x4,ex4,hj1⟩:=bnd hj1
    refine s_call (wk0 rfl) rfl rfl hE rfl [v1] ⟨rfl,trivial⟩ ent39 (uS x3 v1 (aA.ro k1d k1a) k1h x4 ex4) Ret.ret ?_
    intro v2 a w hR hE
    obtain⟨u,hu,hp⟩:=Ret.of hR
    rw[←hu] at hp
    have hp:=Hp.back k1a k1d hp
    have hp:=r14 hp
    have hp:=r14 hp
    refine S hE 1 rfl fun a hE=>V hE hp rfl (v:=(.agg #[(Iv 0),v2,N0,(Iv aW)])) (qN rfl hE [(0,(Iv 0)),(1,v2),(3,(Iv aW))] (by exact⟨⟨rfl,rfl⟩,⟨rfl,rfl⟩,⟨rfl,rfl⟩,trivial⟩) (fun w=>by have hc0:=aA.cells hp 1 rfl;simp only[Value.cells] at hc0;simp[Instr.build,Instr.fill,Value.cells,hc0,go_sem])) fun a hE=>?_
    refine dO (wk0 rfl) rfl hE hp rfl rfl rfl 13 rfl fE.size_ rfl (bY ⟨rfl,(aA.one hp 1 rfl),rfl,rfl,trivial⟩) [(Iv 0),v2,N0,(Iv aW)] rfl ?_
    intro w hp
    have hp:=r14 hp
    refine aC (dE ?_)
    obtain rfl:=oj hj1
    refine⟨_,(oj hl1).symm,fun hb=>?_⟩
    subst hb
    have hp:=hp.emp (bT.none (α:=Int) 25 3 none)
    have hp:=r15 hp
    have hp:=r15 hp
    obtain rfl:=oj hm
    exact retc1 hE rfl rfl (rZ (cs:=[(Iv 0),v2,N0,(Iv aW)]) fE (Hp.cN 14 rfl 0 _ (bV rfl) _ hp)) ⟨_,rfl,_,_,_,rfl,((((((((((((((((((((((((((((hp.get 0 rfl).get 2 rfl).get 14 rfl).drop).get 13 rfl).drop).get 12 rfl).drop).get 11 rfl).drop).get 10 rfl).drop).get 9 rfl).drop).get 8 rfl).drop).get 7 rfl).drop).get 6 rfl).drop).get 5 rfl).drop).get 4 rfl).drop).get 3 rfl).drop).get 2 rfl).drop)⟩
   replace hj1:=(ie hc3).symm.trans hj1
   refine bP (aG ?_)
   refine aG (aB ?_)
   refine S hE 3 rfl fun a hE=>aC ?_
   refine dK hE rfl (fun hc5=>?_) (fun hc5=>?_)
   ·replace hj1:=(it hc5).symm.trans hj1
    refine aG (aB ?_)
    refine S hE 1 rfl fun a hE=>V hE hp rfl (v:=(.agg #[(Iv 2),N0,N0,(Iv aW)])) (qN rfl hE [(0,(Iv 2)),(3,(Iv aW))] (by exact⟨⟨rfl,rfl⟩,⟨rfl,rfl⟩,trivial⟩) (fun w=>by simp[Instr.build,Instr.fill,Value.cells,go_sem])) fun a hE=>?_
    refine dO (wk0 rfl) rfl hE hp rfl rfl rfl 12 rfl fE.size_ rfl (bY ⟨rfl,rfl,rfl,rfl,trivial⟩) [(Iv 2),N0,N0,(Iv aW)] rfl ?_
    intro w hp
    have hp:=r13 hp
    refine aC (dE ?_)
    obtain rfl:=oj hj1
    refine⟨_,(oj hl1).symm,fun hb=>?_⟩
    subst hb
    have hp:=hp.emp (aA.nil (α:=Int) 3)
    have hp:=r14 hp
    have hp:=hp.emp (bT.none (α:=Int) 25 3 none)
    have hp:=r15 hp
    have hp:=r15 hp
    obtain rfl:=oj hm
    exact retc1 hE rfl rfl (rZ (cs:=[(Iv 2),N0,N0,(Iv aW)]) fE (Hp.cN 14 rfl 0 _ (bV rfl) _ hp)) ⟨_,rfl,_,_,_,rfl,((((((((((((((((((((((((((((hp.get 0 rfl).get 1 rfl).get 14 rfl).drop).get 13 rfl).drop).get 12 rfl).drop).get 11 rfl).drop).get 10 rfl).drop).get 9 rfl).drop).get 8 rfl).drop).get 7 rfl).drop).get 6 rfl).drop).get 5 rfl).drop).get 4 rfl).drop).get 3 rfl).drop).get 2 rfl).drop)⟩
   replace hj1:=(ie hc5).symm.trans hj1
   refine bP (aG ?_)
   refine aB (S hE 1 rfl fun a hE=>?_)
   obtain⟨x5,ex5,hj1⟩:=bnd hj1
   refine V hE hp rfl (dD rfl hE rfl rfl (aZ ex5)) fun a hE=>S hE 1 rfl fun a hE=>aC (aG ?_)
   refine aG (aB ?_)
   refine S hE 2 rfl fun a hE=>V hE hp rfl (xf hE J4 rfl rfl) fun a hE=>V hE hp rfl (xl hE sO 0 rfl rfl rfl rfl) fun a hE=>S hE 1 rfl fun a hE=>?_
   refine lZ [_,_,_,_,_,_,_] (fun a w=>Env 88 [(49,(.bool (x1.2.broken||(decide ((sG.length:Int)=0))))),(0,(Pv bp0 0)),(1,(Iv p1)),(4,(Pv b1 0)),(5,(Iv x5)),(6,(pqv (hq ((iK,utw6.2)).2 x1.1)))] a∧Hp Z ρ (Pt bp0 (.cells #[lD,rW,qE,w5,mQ,lC,w8,(Iv x1.2.head),(Pv aO 0),w12,(Iv x1.2.literals),(.bool x1.2.broken)] 65 (0,0))::aA 3 lD x1.2.value::aA 3 rW x1.2.level::aA 71 qE (List.map (hq ((iK,utw6.2)).2) (x1.2.reason:List (Option Nat)))::aA 3 w5 vI::cO 61 71 (78,3) mQ (iK,utw6.2) (x1.2.watches:WD) none none::aA 3 lC x1.2.trail::aA 3 w8 sG::Pt aO (.cells #[w10,w11] 68 (0,0))::aA 3 w10 wE::aA 4 w11 wF::bT 25 3 w12 us12 (wG:(List (List Int)))::Pt b1 (.cells #[(Iv 0),N0,N0,(Iv 0)] 29 (0,0))::L) w) ?_ ?_
   ·rcases Bool.eq_false_or_eq_true x1.2.broken with hc6|hc6
    ·
     refine Gk hE hc6 rfl fun a hE=>Gk hE hc6 rfl fun a hE=>Gk hE hc6 rfl fun a hE=>Gk hE hc6 rfl fun a hE=>Gk hE hc6 rfl fun a hE=>Gk hE hc6 rfl fun a hE=>pk1 hE hc6 rfl rfl rfl rfl fun a hE=>?_
     have hE:=hE.eqv (v':=(.bool (x1.2.broken||(decide ((sG.length:Int)=0))))) (by rw[hc6];rfl)
     exact aC ⟨hE.cut ⟨rfl,rfl,rfl,rfl,rfl,rfl,trivial⟩,hp⟩
    refine Gs hE hc6 rfl rfl fun a hE=>Gs hE hc6 rfl rfl fun a hE=>G hE hp hc6 rfl (xf hE pU rfl rfl) fun a hE=>G hE hp hc6 rfl (xl hE bJ 0 rfl rfl rfl rfl) fun a hE=>G hE hp hc6 rfl (dL rfl hE rfl (aA.len hp 7 rfl bC)) fun a hE=>Gs hE hc6 rfl rfl fun a hE=>pk0 hE hc6 rfl rfl rfl rfl fun a hE=>?_
    have hE:=hE.eqv (v':=(.bool (x1.2.broken||(decide ((sG.length:Int)=0))))) (by rw[hc6];rfl)
    exact aC ⟨hE.cut ⟨rfl,rfl,rfl,rfl,rfl,rfl,trivial⟩,hp⟩
   rintro a w ⟨hE,hp⟩
   refine aC ?_
   refine dK hE rfl (fun hc7=>?_) (fun hc7=>?_)
   ·replace hj1:=(it hc7).symm.trans hj1
    refine aG (aB ?_)
    refine S hE 1 rfl fun a hE=>?_
    obtain⟨x6,ex6,hj1⟩:=bnd hj1
    refine Cl hE rfl rfl ent52 (wU bp0 (Sol.mk x1.2.value x1.2.level x1.2.reason vI x1.2.watches x1.2.trail sG x1.2.head (Que.mk wE wF) wG x1.2.literals x1.2.broken) lD rW qE w5 mQ (iK,utw6.2) lC w8 aO w10 w11 w12 us12 [] N0 (bW.nil _) ((((((((((((hp.get 11 rfl).get 11 rfl).get 11 rfl).get 11 rfl).get 11 rfl).get 11 rfl).get 11 rfl).get 11 rfl).get 11 rfl).get 11 rfl).get 11 rfl).get 11 rfl) x6 ex6) ⟨rfl,rfl,trivial⟩ fun v a w hR hE=>?_
    obtain⟨vz3_value,vz3_level,vz3_reason,vz3_saved,vz3_watches,aJ4,vz3_trail,vz3_starts,vz3_queue_list,vz3_queue_isin,aB7,usz3_proof,rfl,hp⟩:=hR
    have hp:=r13 hp
    refine aC (aG ?_)
    refine aB (S hE 2 rfl fun a hE=>?_)
    refine V hE hp rfl (xf hE fldty65_9 rfl rfl) fun a hE=>V hE hp rfl (xl hE jD 0 rfl rfl rfl rfl) fun a hE=>S hE 1 rfl fun a hE=>V hE hp rfl (v:=(.agg #[(Iv 1),N0,aB7,(Iv x5)])) (qN rfl hE [(0,(Iv 1)),(2,aB7),(3,(Iv x5))] (by exact⟨⟨rfl,rfl⟩,⟨rfl,rfl⟩,⟨rfl,rfl⟩,trivial⟩) (fun w=>by have hc0:=bT.cells hp 11 rfl;simp only[Value.cells] at hc0;simp[Instr.build,Instr.fill,Value.cells,hc0,go_sem])) fun a hE=>?_
    refine dO (wk0 rfl) rfl hE hp rfl rfl rfl 12 rfl fE.size_ rfl (bY ⟨rfl,rfl,(bT.one hp 11 rfl),rfl,trivial⟩) [(Iv 1),N0,aB7,(Iv x5)] rfl ?_
    intro w hp
    have hp:=r13 hp
    refine aC (dE ?_)
    obtain rfl:=oj hj1
    refine⟨_,(oj hl1).symm,fun hb=>?_⟩
    subst hb
    have hp:=hp.emp (aA.nil (α:=Int) 3)
    have hp:=r14 hp
    have hp:=r14 hp
    obtain rfl:=oj hm
    exact retc1 hE rfl rfl (rZ (cs:=[(Iv 1),N0,aB7,(Iv x5)]) fE (Hp.cN 13 rfl 0 _ (bV rfl) _ hp)) ⟨_,rfl,_,_,_,rfl,((((((((((((((((((((((((hp.get 13 rfl).drop).get 11 rfl).drop).get 10 rfl).drop).get 9 rfl).drop).get 8 rfl).drop).get 7 rfl).drop).get 6 rfl).drop).get 5 rfl).drop).get 4 rfl).drop).get 3 rfl).drop).get 2 rfl).drop).get 1 rfl).drop)⟩
   replace hj1:=(ie hc7).symm.trans hj1
   refine bP (aG ?_)
   refine aB (S hE 2 rfl fun a hE=>?_)
   obtain⟨x7,ex7,hj1⟩:=bnd hj1
   refine Cl hE rfl rfl ent53 (U3 bp0 (Sol.mk x1.2.value x1.2.level x1.2.reason vI x1.2.watches x1.2.trail sG x1.2.head (Que.mk wE wF) wG x1.2.literals x1.2.broken) lD rW qE w5 mQ (iK,utw6.2) lC w8 aO w10 w11 w12 us12 x1.1 ((((((((((((hp.get 11 rfl).get 11 rfl).get 11 rfl).get 11 rfl).get 11 rfl).get 11 rfl).get 11 rfl).get 11 rfl).get 11 rfl).get 11 rfl).get 11 rfl).get 11 rfl) x7 ex7) ⟨rfl,rfl,trivial⟩ fun v a w hR hE=>?_
   obtain⟨vr4,rfl,hp⟩:=hR
   have hp:=r14 hp
   refine S hE 5 rfl fun a hE=>aC (aG ?_)
   refine aG (aB ?_)
   refine S hE 2 rfl fun a hE=>?_
   obtain⟨k2,k2a,k2d,k2h⟩:=(hp.get 0 rfl).lend
   obtain⟨x8,ex8,hj1⟩:=bnd hj1
   refine Cl hE rfl rfl ent52 (wU bp0 (Sol.mk x1.2.value x1.2.level x1.2.reason vI x1.2.watches x1.2.trail sG x1.2.head (Que.mk wE wF) wG x1.2.literals x1.2.broken) lD rW qE w5 mQ (iK,utw6.2) lC w8 aO w10 w11 w12 us12 x7.1 vr4 (aA.ro k2d k2a) ((((((((((((k2h.get 11 rfl).get 11 rfl).get 11 rfl).get 11 rfl).get 11 rfl).get 11 rfl).get 11 rfl).get 11 rfl).get 11 rfl).get 11 rfl).get 11 rfl).get 11 rfl) x8 ex8) ⟨rfl,rfl,trivial⟩ fun v a w hR hE=>?_
   obtain⟨vz4_value,vz4_level,vz4_reason,vz4_saved,vz4_watches,utz4_watches,vz4_trail,vz4_starts,vz4_queue_list,vz4_queue_isin,vz4_proof,usz4_proof,rfl,hp⟩:=hR
   have hp:=Hp.back k2a k2d hp
   have hp:=r14 hp
   refine S hE 1 rfl fun a hE=>aC ?_
   have hE:=hE.cut (E':=[(0,(Pv bp0 0)),(1,(Iv p1)),(4,(Pv b1 0)),(5,(Iv x5)),(7,vr4),(8,(Iv x7.2)),(67,(.bool (!x8.1)))]) ⟨rfl,rfl,rfl,rfl,rfl,rfl,rfl,trivial⟩
   refine dK hE rfl (fun hc8=>?_) (fun hc8=>?_)
   ·replace hj1:=(it hc8).symm.trans hj1
    refine aG (aB ?_)
    refine S hE 1 rfl fun a hE=>V hE hp rfl (v:=(.agg #[(Iv 2),N0,N0,(Iv x5)])) (qN rfl hE [(0,(Iv 2)),(3,(Iv x5))] (by exact⟨⟨rfl,rfl⟩,⟨rfl,rfl⟩,trivial⟩) (fun w=>by simp[Instr.build,Instr.fill,Value.cells,go_sem])) fun a hE=>?_
    refine dO (wk0 rfl) rfl hE hp rfl rfl rfl 13 rfl fE.size_ rfl (bY ⟨rfl,rfl,rfl,rfl,trivial⟩) [(Iv 2),N0,N0,(Iv x5)] rfl ?_
    intro w hp
    have hp:=r14 hp
    refine aC (dE ?_)
    obtain rfl:=oj hj1
    refine⟨_,(oj hl1).symm,fun hb=>?_⟩
    subst hb
    have hp:=hp.emp (aA.nil (α:=Int) 3)
    have hp:=r15 hp
    have hp:=hp.emp (bT.none (α:=Int) 25 3 none)
    have hp:=r16 hp
    have hp:=r16 hp
    obtain rfl:=oj hm
    exact retc1 hE rfl rfl (rZ (cs:=[(Iv 2),N0,N0,(Iv x5)]) fE (Hp.cN 15 rfl 0 _ (bV rfl) _ hp)) ⟨_,rfl,_,_,_,rfl,((((((((((((((((((((((((((((((hp.get 0 rfl).get 1 rfl).get 15 rfl).drop).get 14 rfl).drop).get 13 rfl).drop).get 12 rfl).drop).get 11 rfl).drop).get 10 rfl).drop).get 9 rfl).drop).get 8 rfl).drop).get 7 rfl).drop).get 6 rfl).drop).get 5 rfl).drop).get 4 rfl).drop).get 3 rfl).drop).get 2 rfl).drop)⟩
   replace hj1:=(ie hc8).symm.trans hj1
   refine bP (aG ?_)
   refine aB (S hE 2 rfl fun a hE=>?_)
   obtain⟨x9,ex9,hj1⟩:=bnd hj1
   refine Cl hE rfl rfl ent54 (U9 bp0 x8.2 vz4_value vz4_level vz4_reason vz4_saved vz4_watches utz4_watches vz4_trail vz4_starts aO vz4_queue_list vz4_queue_isin vz4_proof usz4_proof x7.2 ((((((((((((hp.get 12 rfl).get 12 rfl).get 12 rfl).get 12 rfl).get 12 rfl).get 12 rfl).get 12 rfl).get 12 rfl).get 12 rfl).get 12 rfl).get 12 rfl).get 12 rfl) x9 ex9) ⟨rfl,rfl,trivial⟩ fun v a w hR hE=>?_
   obtain⟨vz5_value,vz5_level,aH9,vz5_saved,vz5_watches,aJ5,vz5_trail,aI0,zF,zD,vz5_proof,aD9,rfl,hp⟩:=hR
   have hp:=r14 hp
   refine aC (aG ?_)
   refine aB (S hE 1 rfl fun a hE=>?_)
   refine aC (aG ?_)
   refine aG (aB ?_)
   refine S hE 1 rfl fun a hE=>V hE hp rfl (dL rfl hE rfl (aA.len hp 12 rfl bC)) fun a hE=>S hE 1 rfl fun a hE=>aC ?_
   refine dK hE rfl (fun hc9=>?_) (fun hc9=>?_)
   ·replace hj1:=(it hc9).symm.trans hj1
    refine aG (aB ?_)
    refine S hE 1 rfl fun a hE=>V hE hp rfl (v:=(.agg #[vr4])) (qN rfl hE [(0,vr4)] (by exact⟨⟨rfl,rfl⟩,trivial⟩) (fun w=>by have hc0:=aA.cells hp 12 rfl;simp only[Value.cells] at hc0;simp[Instr.build,Instr.fill,Value.cells,hc0,go_sem])) fun a hE=>?_
    refine rO (wk0 rfl) rfl rfl hE hp rfl (v:=(.agg #[vr4])) rfl ?_
    intro a w b3 hE hp
    have hp:=r15 hp
    refine S hE 1 rfl fun a hE=>aC (aB ?_)
    refine S hE 2 rfl fun a hE=>?_
    obtain⟨x10,ex10,hj1⟩:=bnd hj1
    obtain⟨x11,ex11,hj1⟩:=bnd hj1
    obtain⟨ut1,pc1,pc1b,pc1s,hp⟩:=cO.give (Tc:=(78,3)) ex10 ex11 ((((hp.get 4 rfl).get 6 rfl).get 2 rfl).get 13 rfl)
    subst pc1b
    subst pc1s
    have hp:=r15 hp
    obtain⟨hp,hbk1⟩:=cO.back (Tc:=(78,3)) (((hp.get 2 rfl).get 2 rfl).get 2 rfl)
    rw[←hbk1] at hE
    have hp:=r13 hp
    obtain⟨x12,ex12,hj1⟩:=bnd hj1
    refine Cl hE rfl rfl ent55 (vT bp0 (Sol.mk x9.value x9.level x9.reason x9.saved ((x9.watches.1,x10).1,(x9.watches.1,x10).2.set x9.watches.2.length x7.1) x9.trail x9.starts x9.head x9.queue x9.proof x9.literals x9.broken) vz5_value vz5_level aH9 vz5_saved vz5_watches ut1 vz5_trail aI0 aO zF zD vz5_proof aD9 (some x9.watches.2.length) ((((((((((((hp.get 11 rfl).get 11 rfl).get 11 rfl).get 11 rfl).get 11 rfl).get 11 rfl).get 6 rfl).get 11 rfl).get 8 rfl).get 11 rfl).get 11 rfl).get 11 rfl) x12 ex12) ⟨rfl,rfl,trivial⟩ fun v a w hR hE=>?_
    obtain⟨vz6_watches,L9,rfl,hp⟩:=hR
    have hp:=r13 hp
    refine aC (aB ?_)
    refine S hE 2 rfl fun a hE=>?_
    obtain⟨x13,ex13,hj1⟩:=bnd hj1
    obtain⟨pc2,pc2h,hp⟩:=cO.take ex13 (hp.get 5 rfl)
    rw[pc2h] at hE
    have hp:=r15 hp
    obtain⟨x14,ex14,hj1⟩:=bnd hj1
    obtain⟨b4,b4o,b4r,b4v,b4f⟩:=aA.at hp 0 rfl bC ex14
    refine V hE hp rfl (aU rfl hE rfl rfl b4r) fun a hE=>V hE hp rfl (bD rfl hE rfl (fun w hw=>bH bG (b4f 0 _ rfl _ _ w (hw.get 0 rfl)))) fun a hE=>S hE 1 rfl fun a hE=>?_
    have hawc:=cO.away hp 2 rfl
    obtain⟨x15,ex15,hj1⟩:=bnd hj1
    refine s_call (wk0 rfl) rfl rfl hE rfl [(Pv bp0 0),(Iv x14),(Pc.v (hdP ((L9,ut1.2)).2 x9.watches.2.length))] ⟨rfl,rfl,(by rw[hawc];rfl),trivial⟩ ent56 (nU bp0 (Sol.mk x9.value x9.level x9.reason x9.saved x12.watches x9.trail x9.starts x12.head x9.queue x9.proof x12.literals x12.broken) vz5_value vz5_level aH9 vz5_saved vz6_watches (L9,ut1.2) vz5_trail aI0 aO zF zD vz5_proof aD9 x14 (some x9.watches.2.length) ((((((((((((hp.get 13 rfl).get 13 rfl).get 13 rfl).get 13 rfl).get 13 rfl).get 13 rfl).get 8 rfl).get 13 rfl).get 13 rfl).get 13 rfl).get 13 rfl).get 13 rfl) x15 ex15) Ret.ret ?_
    intro v a w hR hE
    obtain⟨vz7_value,vz7_level,vz7_reason,vz7_trail,rfl,hp⟩:=Ret.of hR
    have hp:=r15 hp
    refine aC ?_
    have hE:=hE.cut (E':=[(0,(Pv bp0 0)),(1,(Iv p1)),(4,(Pv b1 0)),(5,(Iv x5))]) ⟨rfl,rfl,rfl,rfl,trivial⟩
    obtain⟨hp,hbk2⟩:=cO.back0 (Tc:=(78,3)) ex13 (((hp.get 5 rfl).get 13 rfl).get 13 rfl)
    have hp:=r13 hp
    obtain rfl:=oj hj1
    exact⟨_,rfl,_,_,_,_,_,(L9,ut1.2),_,_,_,_,_,_,hE.cut ⟨rfl,rfl,rfl,rfl,trivial⟩,(((((((((((((hp.get 11 rfl).get 11 rfl).get 11 rfl).get 11 rfl).get 11 rfl).get 11 rfl).get 6 rfl).get 11 rfl).get 11 rfl).get 11 rfl).get 11 rfl).get 11 rfl).get 12 rfl)⟩
   replace hj1:=(ie hc9).symm.trans hj1
   refine bP (aB ?_)
   refine S hE 2 rfl fun a hE=>?_
   obtain⟨x16,ex16,hj1⟩:=bnd hj1
   obtain⟨b5,b5o,b5r,b5v,b5f⟩:=aA.at hp 12 rfl bC ex16
   refine V hE hp rfl (aU rfl hE rfl rfl b5r) fun a hE=>V hE hp rfl (bD rfl hE rfl (fun w hw=>bH bG (b5f 0 _ rfl _ _ w (hw.get 12 rfl)))) fun a hE=>S hE 1 rfl fun a hE=>?_
   obtain⟨x17,ex17,hj1⟩:=bnd hj1
   refine Cl hE rfl rfl ent56 (nU bp0 x9 vz5_value vz5_level aH9 vz5_saved vz5_watches aJ5 vz5_trail aI0 aO zF zD vz5_proof aD9 x16 none ((((((((((((hp.get 11 rfl).get 11 rfl).get 11 rfl).get 11 rfl).get 11 rfl).get 11 rfl).get 11 rfl).get 11 rfl).get 11 rfl).get 11 rfl).get 11 rfl).get 11 rfl) x17 ex17) ⟨rfl,rfl,rfl,trivial⟩ fun v a w hR hE=>?_
   obtain⟨vz8_value,vz8_level,vz8_reason,vz8_trail,rfl,hp⟩:=hR
   have hp:=r14 hp
   refine aC ?_
   obtain rfl:=oj hj1
   exact⟨_,rfl,_,_,_,_,_,aJ5,_,_,_,_,_,_,hE.cut ⟨rfl,rfl,rfl,rfl,trivial⟩,(((((((((((((((hp.get 11 rfl).get 11 rfl).get 11 rfl).get 11 rfl).get 11 rfl).get 11 rfl).get 11 rfl).get 11 rfl).get 11 rfl).get 11 rfl).get 11 rfl).get 11 rfl).get 13 rfl).get 13 rfl).drop)⟩
  rintro a w ⟨j1s,rfl,w2,w3,w4,w5,w6q,utw6q,w7,w8,w10,w11,w12q,us12q,hE,hp⟩
  dsimp only at hl1
  exact⟨_,(oj hl1).symm,_,_,_,_,_,utw6q,_,_,_,_,_,_,hE.cut ⟨rfl,rfl,rfl,rfl,trivial⟩,hp⟩
 rintro a w ⟨b2s,rfl,w2,w3,w4,w5,w6,utw6,w7,w8,w10,w11,w12,us12,hE,hp⟩
 dsimp only at hm
 have hp:=hp.emp (aA.nil (α:=Int) 3)
 have hp:=r14 hp
 have hp:=hp.emp (bT.none (α:=Int) 25 3 none)
 have hp:=r15 hp
 have hp:=r15 hp
 obtain rfl:=oj hm
 exact retc1n hE rfl rfl (rZ (cs:=[(Iv 0),N0,N0,(Iv 0)]) fE (Hp.cN 2 rfl 0 _ (bV rfl) _ hp)) ⟨_,rfl,_,_,_,rfl,((((((((((((((((((((((((((((hp.get 0 rfl).get 1 rfl).get 14 rfl).drop).get 13 rfl).drop).get 12 rfl).drop).get 11 rfl).drop).get 10 rfl).drop).get 9 rfl).drop).get 8 rfl).drop).get 7 rfl).drop).get 6 rfl).drop).get 5 rfl).drop).get 4 rfl).drop).get 3 rfl).drop).get 2 rfl).drop)⟩
end Go.Proofs.Ytpkhmndpeipfmaa

/- The code goes as its model: (*assessor/solver.solver).run. (Printed by wip/sp/gen.py.) -/
import Derived.Test.YtpkhmndpeipfmaaKAsT
import Derived.Test.YtpkhmndpeipfmaaKAs5
import Derived.Test.YtpkhmndpeipfmaaKAs6
import Derived.Test.YtpkhmndpeipfmaaKAs10
import Derived.Test.YtpkhmndpeipfmaaKAs11
import Derived.Test.YtpkhmndpeipfmaaKAs12
set_option linter.unusedVariables false
set_option linter.unusedSimpArgs false
namespace Go.Proofs.Ytpkhmndpeipfmaa
open Go.RowKit
set_option maxRecDepth 100000 in
set_option maxHeartbeats 4000000 in
theorem dP {Z:World} {ρ:PH} {L:List bV} {w:World} (bp0:Nat) (p0:Sol) (aU:Value) (aW:Value) (aX:Value) (aS:Value) (aO:Value) (aF:List Sl×List Pc) (aT:Value) (aP:Value) (aN:Nat) (aK:Value) (aJ:Value) (aQ:Value) (bD:List Sl) (p1:Int) (hp:Hp Z ρ (Pt bp0 (.cells #[aU,aW,aX,aS,aO,aT,aP,(.int .i64 p0.head),(.pointer (some ⟨aN,0,none⟩)),aQ,(.int .i64 p0.literals),(.bool p0.broken)] 65 (0,0))::aA 3 aU p0.value::aA 3 aW p0.level::aA 71 aX (List.map (hq (aF).2) (p0.reason:List (Option Nat)))::aA 3 aS p0.saved::bZ 61 71 (78,3) aO aF (p0.watches:(List (List Nat)×List (List Int))) none none::aA 3 aT p0.trail::aA 3 aP p0.starts::Pt aN (.cells #[aK,aJ] 68 (0,0))::aA 3 aK p0.queue.list::aA 4 aJ p0.queue.isin::bQ 25 3 aQ bD (p0.proof:(List (List Int)))::L) w) (r:Answer) (hm:fJ p0 p1=some r):
  Calls Try.prog 30 #[(.pointer (some ⟨bp0,0,none⟩)),(.int .i64 p1)] w (Ret fun v w'=>∃(pW:Value) (lD:Value) (qZ:List Sl),v=(.agg #[(.int .i64 r.kind),pW,lD,(.int .i64 r.conflicts)])∧Hp Z ρ (aA 3 pW r.model::bQ 25 3 lD qZ (r.proof:(List (List Int)))::L) w'):=by
 refine enter (N:=88) Try.func30 rfl rfl [(0,(.pointer (some ⟨bp0,0,none⟩))),(1,(.int .i64 p1))] rfl (bP ⟨rfl,rfl,trivial⟩) fun a hE=>?_
 unfold fJ at hm
 refine aH (aB ?_)
 refine qB (wk0 rfl) rfl rfl hE hp rfl [(.int .i64 0),(.slice none 0 0),(.slice none 0 0),(.int .i64 0)] (fun w=>by simp[Instr.alloc,go_sem]<;>rfl) ?_
 intro a w b1 hE hp
 have hp:=r13 hp
 refine aC (aH ?_)
 refine aB (S hE 1 rfl fun a hE=>?_)
 refine aC ?_
 obtain⟨b2,hc1,hm⟩:=bnd hm
 refine dN (fun a w=>∃s:(Int×Int×Bool×(List Int)×(List Int)×(List (Option Nat))×(List Int)×(List (List Nat)×List (List Int))×(List Int)×(List Int)×(List Int)×(List Bool)×(List (List Int))),b2= .brk s∧(∃(w2:Value) (w3:Value) (w4:Value) (w5:Value) (w6:Value) (utw6:List Sl×List Pc) (w7:Value) (w8:Value) (w10:Value) (w11:Value) (w12:Value) (us12:List Sl),Env 88 [(4,(.pointer (some ⟨b1,0,none⟩)))] a∧Hp Z ρ (Pt b1 (.cells #[(.int .i64 0),(.slice none 0 0),(.slice none 0 0),(.int .i64 0)] 29 (0,0))::Pt bp0 (.cells #[w2,w3,w4,w5,w6,w7,w8,(.int .i64 s.1),(.pointer (some ⟨aN,0,none⟩)),w12,(.int .i64 s.2.1),(.bool s.2.2.1)] 65 (0,0))::aA 3 w2 s.2.2.2.1::aA 3 w3 s.2.2.2.2.1::aA 71 w4 (List.map (hq (utw6).2) (s.2.2.2.2.2.1:List (Option Nat)))::aA 3 w5 s.2.2.2.2.2.2.1::bZ 61 71 (78,3) w6 utw6 (s.2.2.2.2.2.2.2.1:(List (List Nat)×List (List Int))) none none::aA 3 w7 s.2.2.2.2.2.2.2.2.1::aA 3 w8 s.2.2.2.2.2.2.2.2.2.1::Pt aN (.cells #[w10,w11] 68 (0,0))::aA 3 w10 s.2.2.2.2.2.2.2.2.2.2.1::aA 4 w11 s.2.2.2.2.2.2.2.2.2.2.2.1::bQ 25 3 w12 us12 (s.2.2.2.2.2.2.2.2.2.2.2.2:(List (List Int)))::L) w)) ?_ ?_
 ·refine fV hc1 (fun s a w=>∃(w2:Value) (w3:Value) (w4:Value) (w5:Value) (w6:Value) (utw6:List Sl×List Pc) (w7:Value) (w8:Value) (w10:Value) (w11:Value) (w12:Value) (us12:List Sl),Env 88 [(0,(.pointer (some ⟨bp0,0,none⟩))),(1,(.int .i64 p1)),(4,(.pointer (some ⟨b1,0,none⟩))),(5,(.int .i64 s.1))] a∧Hp Z ρ (Pt b1 (.cells #[(.int .i64 0),(.slice none 0 0),(.slice none 0 0),(.int .i64 0)] 29 (0,0))::Pt bp0 (.cells #[w2,w3,w4,w5,w6,w7,w8,(.int .i64 s.2.1),(.pointer (some ⟨aN,0,none⟩)),w12,(.int .i64 s.2.2.1),(.bool s.2.2.2.1)] 65 (0,0))::aA 3 w2 s.2.2.2.2.1::aA 3 w3 s.2.2.2.2.2.1::aA 71 w4 (List.map (hq (utw6).2) (s.2.2.2.2.2.2.1:List (Option Nat)))::aA 3 w5 s.2.2.2.2.2.2.2.1::bZ 61 71 (78,3) w6 utw6 (s.2.2.2.2.2.2.2.2.1:(List (List Nat)×List (List Int))) none none::aA 3 w7 s.2.2.2.2.2.2.2.2.2.1::aA 3 w8 s.2.2.2.2.2.2.2.2.2.2.1::Pt aN (.cells #[w10,w11] 68 (0,0))::aA 3 w10 s.2.2.2.2.2.2.2.2.2.2.2.1::aA 4 w11 s.2.2.2.2.2.2.2.2.2.2.2.2.1::bQ 25 3 w12 us12 (s.2.2.2.2.2.2.2.2.2.2.2.2.2:(List (List Int)))::L) w) ?_ ?_
  ·exact⟨_,_,_,_,_,aF,_,_,_,_,_,_,hE.cut ⟨rfl,rfl,rfl,rfl,trivial⟩,hp⟩
  rintro⟨bC,cZ,dG,iM,jL,kK,uQ,uF,lp1_8,lp1_9,qV,uV,uX,uY⟩ st a w ⟨w2,w3,w4,w5,w6,utw6,w7,w8,w10,w11,w12,us12,hE,hp⟩ hl1
  dsimp only at hE hp hl1
  unfold fE at hl1
  obtain⟨j1,hj1,hl1⟩:=bnd hl1
  refine dN (fun a w=>∃s:(Int×Int×Int×Bool×(List Int)×(List Int)×(List (Option Nat))×(List Int)×(List (List Nat)×List (List Int))×(List Int)×(List Int)×(List Int)×(List Bool)×(List (List Int))),j1= .brk s∧(∃(w2:Value) (w3:Value) (w4:Value) (w5:Value) (w6q:Value) (utw6q:List Sl×List Pc) (w7:Value) (w8:Value) (w10:Value) (w11:Value) (w12q:Value) (us12q:List Sl),Env 88 [(0,(.pointer (some ⟨bp0,0,none⟩))),(1,(.int .i64 p1)),(4,(.pointer (some ⟨b1,0,none⟩))),(5,(.int .i64 s.1))] a∧Hp Z ρ (Pt b1 (.cells #[(.int .i64 0),(.slice none 0 0),(.slice none 0 0),(.int .i64 0)] 29 (0,0))::Pt bp0 (.cells #[w2,w3,w4,w5,w6q,w7,w8,(.int .i64 s.2.1),(.pointer (some ⟨aN,0,none⟩)),w12q,(.int .i64 s.2.2.1),(.bool s.2.2.2.1)] 65 (0,0))::aA 3 w2 s.2.2.2.2.1::aA 3 w3 s.2.2.2.2.2.1::aA 71 w4 (List.map (hq (utw6q).2) (s.2.2.2.2.2.2.1:List (Option Nat)))::aA 3 w5 s.2.2.2.2.2.2.2.1::bZ 61 71 (78,3) w6q utw6q (s.2.2.2.2.2.2.2.2.1:(List (List Nat)×List (List Int))) none none::aA 3 w7 s.2.2.2.2.2.2.2.2.2.1::aA 3 w8 s.2.2.2.2.2.2.2.2.2.2.1::Pt aN (.cells #[w10,w11] 68 (0,0))::aA 3 w10 s.2.2.2.2.2.2.2.2.2.2.2.1::aA 4 w11 s.2.2.2.2.2.2.2.2.2.2.2.2.1::bQ 25 3 w12q us12q (s.2.2.2.2.2.2.2.2.2.2.2.2.2:(List (List Int)))::L) w)) ?_ ?_
  ·
   refine aH (aB ?_)
   refine S hE 1 rfl fun a hE=>?_
   obtain⟨x1,ex1,hj1⟩:=bnd hj1
   refine s_call (wk0 rfl) rfl rfl hE rfl [(.pointer (some ⟨bp0,0,none⟩))] ⟨rfl,trivial⟩ ent50 (yI bp0 (Sol.mk jL kK uQ uF lp1_8 lp1_9 qV cZ (Que.mk uV uX) uY dG iM) w2 w3 w4 w5 w6 utw6 w7 w8 aN w10 w11 w12 us12 ((((((((((((hp.get 12 rfl).get 12 rfl).get 12 rfl).get 12 rfl).get 12 rfl).get 12 rfl).get 12 rfl).get 12 rfl).get 12 rfl).get 12 rfl).get 12 rfl).get 12 rfl) x1 ex1) Ret.ret ?_
   intro v a w hR hE
   obtain⟨kJ,qP,oP,lG,gU,kH,rfl,hp⟩:=Ret.of hR
   have hp:=r13 hp
   refine S hE 1 rfl fun a hE=>aC (aH ?_)
   refine aH (aB ?_)
   refine S hE 1 rfl fun a hE=>V hE hp rfl (v:=(.bool x1.1.isNone)) (ex_qnil (e:=x1.1) (au:=((gU,utw6.2)).2) pty71 rfl hE rfl rfl) fun a hE=>S hE 1 rfl fun a hE=>?_
   refine kV [_,_,_,_,_,_] (fun a w=>Env 88 [(20,(.bool (x1.1.isNone&&(!x1.2.broken)))),(0,(.pointer (some ⟨bp0,0,none⟩))),(1,(.int .i64 p1)),(4,(.pointer (some ⟨b1,0,none⟩))),(5,(.int .i64 bC)),(6,(pqv (hq ((gU,utw6.2)).2 x1.1)))] a∧Hp Z ρ (Pt bp0 (.cells #[kJ,qP,oP,w5,lG,kH,w8,(.int .i64 x1.2.head),(.pointer (some ⟨aN,0,none⟩)),w12,(.int .i64 x1.2.literals),(.bool x1.2.broken)] 65 (0,0))::aA 3 kJ x1.2.value::aA 3 qP x1.2.level::aA 71 oP (List.map (hq ((gU,utw6.2)).2) (x1.2.reason:List (Option Nat)))::aA 3 w5 uF::bZ 61 71 (78,3) lG (gU,utw6.2) (x1.2.watches:(List (List Nat)×List (List Int))) none none::aA 3 kH x1.2.trail::aA 3 w8 qV::Pt aN (.cells #[w10,w11] 68 (0,0))::aA 3 w10 uV::aA 4 w11 uX::bQ 25 3 w12 us12 (uY:(List (List Int)))::Pt b1 (.cells #[(.int .i64 0),(.slice none 0 0),(.slice none 0 0),(.int .i64 0)] 29 (0,0))::L) w) ?_ ?_
   ·rcases Bool.eq_false_or_eq_true x1.1.isNone with hc2|hc2
    ·
     refine Gs hE hc2 rfl rfl fun a hE=>Gs hE hc2 rfl rfl fun a hE=>G hE hp hc2 rfl (xf hE D5 rfl rfl) fun a hE=>G hE hp hc2 rfl (xl hE rC 0 rfl rfl rfl rfl) fun a hE=>Gs hE hc2 rfl rfl fun a hE=>pk1 hE hc2 rfl rfl rfl rfl fun a hE=>?_
     have hE:=hE.eqv (v':=(.bool (x1.1.isNone&&(!x1.2.broken)))) (by rw[hc2];rfl)
     exact aC ⟨hE.cut ⟨rfl,rfl,rfl,rfl,rfl,rfl,trivial⟩,hp⟩
    refine Gk hE hc2 rfl fun a hE=>Gk hE hc2 rfl fun a hE=>Gk hE hc2 rfl fun a hE=>Gk hE hc2 rfl fun a hE=>Gk hE hc2 rfl fun a hE=>pk0 hE hc2 rfl rfl rfl rfl fun a hE=>?_
    have hE:=hE.eqv (v':=(.bool (x1.1.isNone&&(!x1.2.broken)))) (by rw[hc2];rfl)
    exact aC ⟨hE.cut ⟨rfl,rfl,rfl,rfl,rfl,rfl,trivial⟩,hp⟩
   rintro a w ⟨hE,hp⟩
   refine aC ?_
   refine dQ hE rfl (fun hc3=>?_) (fun hc3=>?_)
   ·replace hj1:=(it hc3).symm.trans hj1
    refine aH (aH ?_)
    refine aB (S hE 1 rfl fun a hE=>?_)
    obtain⟨x2,ex2,hj1⟩:=bnd hj1
    refine s_call (wk0 rfl) rfl rfl hE rfl [(.pointer (some ⟨bp0,0,none⟩))] ⟨rfl,trivial⟩ ent51 (A7 bp0 (Sol.mk x1.2.value x1.2.level x1.2.reason uF x1.2.watches x1.2.trail qV x1.2.head (Que.mk uV uX) uY x1.2.literals x1.2.broken) kJ qP oP w5 lG (gU,utw6.2) kH w8 aN w10 w11 w12 us12 ((((((((((((hp.get 11 rfl).get 11 rfl).get 11 rfl).get 11 rfl).get 11 rfl).get 11 rfl).get 11 rfl).get 11 rfl).get 11 rfl).get 11 rfl).get 11 rfl).get 11 rfl) x2 ex2) Ret.ret ?_
    intro v a w hR hE
    obtain⟨zW,vz2_level,vz2_reason,vz2_saved,wB,qI,zV,vz2_starts,vz2_queue_list,vz2_queue_isin,vz2_proof,usz2_proof,rfl,hp⟩:=Ret.of hR
    have hp:=r13 hp
    refine aC ?_
    refine dQ hE rfl (fun hc4=>?_) (fun hc4=>?_)
    ·replace hj1:=(it hc4).symm.trans hj1
     refine eU ?_
     obtain rfl:=Option.some.inj hj1
     exact⟨_,rfl,_,_,_,_,_,qI,_,_,_,_,_,_,hE.cut ⟨rfl,rfl,rfl,rfl,trivial⟩,(((((((((((((hp.get 11 rfl).get 11 rfl).get 11 rfl).get 11 rfl).get 11 rfl).get 11 rfl).get 11 rfl).get 11 rfl).get 11 rfl).get 11 rfl).get 11 rfl).get 11 rfl).get 12 rfl)⟩
    replace hj1:=(ie hc4).symm.trans hj1
    refine bT (aH ?_)
    refine aB (S hE 2 rfl fun a hE=>?_)
    refine V hE hp rfl (xf hE zI rfl rfl) fun a hE=>V hE hp rfl (xl hE bK 0 rfl rfl rfl rfl) fun a hE=>?_
    obtain⟨x3,ex3,hj1⟩:=bnd hj1
    obtain⟨v1,v1r,hp⟩:=aA.part (hp.get 1 rfl) aY (some (.i64,1)) none rfl rfl ex3
    have hp:=r13 hp
    refine V hE hp rfl (uP rfl hE rfl (some (.i64,1)) none (by exact rfl) (by exact trivial) v1r) fun a hE=>?_
    obtain⟨k1,k1a,k1d,k1h⟩:=(hp.get 0 rfl).lend
    obtain⟨x4,ex4,hj1⟩:=bnd hj1
    refine s_call (wk0 rfl) rfl rfl hE rfl [v1] ⟨rfl,trivial⟩ ent39 (tH x3 v1 (aA.ro k1d k1a) k1h x4 ex4) Ret.ret ?_
    intro v2 a w hR hE
    obtain⟨u,hu,hp⟩:=Ret.of hR
    rw[←hu] at hp
    have hp:=Hp.back k1a k1d hp
    have hp:=r14 hp
    have hp:=r14 hp
    refine S hE 1 rfl fun a hE=>V hE hp rfl (v:=(.agg #[(.int .i64 0),v2,(.slice none 0 0),(.int .i64 bC)])) (qF rfl hE [(0,(.int .i64 0)),(1,v2),(3,(.int .i64 bC))] (by exact⟨⟨rfl,rfl⟩,⟨rfl,rfl⟩,⟨rfl,rfl⟩,trivial⟩) (fun w=>by have hc0:=aA.cells hp 1 rfl;simp only[Value.cells] at hc0;simp[Instr.build,Instr.fill,Value.cells,hc0,go_sem])) fun a hE=>?_
    refine dM (wk0 rfl) rfl hE hp rfl rfl rfl 13 rfl eY.size_ rfl (bW ⟨rfl,(aA.one hp 1 rfl),rfl,rfl,trivial⟩) [(.int .i64 0),v2,(.slice none 0 0),(.int .i64 bC)] rfl ?_
    intro w hp
    have hp:=r14 hp
    refine aC (dE ?_)
    obtain rfl:=Option.some.inj hj1
    refine⟨_,(Option.some.inj hl1).symm,fun hb=>?_⟩
    subst hb
    have hp:=hp.emp (bQ.none (α:=Int) 25 3 none)
    have hp:=r15 hp
    have hp:=r15 hp
    obtain rfl:=Option.some.inj hm
    exact retc1 hE rfl rfl (rM (cs:=[(.int .i64 0),v2,(.slice none 0 0),(.int .i64 bC)]) eY (Hp.cN 14 rfl 0 _ (bY rfl) _ hp)) ⟨_,rfl,_,_,_,rfl,((((((((((((((((((((((((((((hp.get 0 rfl).get 2 rfl).get 14 rfl).drop).get 13 rfl).drop).get 12 rfl).drop).get 11 rfl).drop).get 10 rfl).drop).get 9 rfl).drop).get 8 rfl).drop).get 7 rfl).drop).get 6 rfl).drop).get 5 rfl).drop).get 4 rfl).drop).get 3 rfl).drop).get 2 rfl).drop)⟩
   replace hj1:=(ie hc3).symm.trans hj1
   refine bT (aH ?_)
   refine aH (aB ?_)
   refine S hE 3 rfl fun a hE=>aC ?_
   refine dQ hE rfl (fun hc5=>?_) (fun hc5=>?_)
   ·replace hj1:=(it hc5).symm.trans hj1
    refine aH (aB ?_)
    refine S hE 1 rfl fun a hE=>V hE hp rfl (v:=(.agg #[(.int .i64 2),(.slice none 0 0),(.slice none 0 0),(.int .i64 bC)])) (qF rfl hE [(0,(.int .i64 2)),(3,(.int .i64 bC))] (by exact⟨⟨rfl,rfl⟩,⟨rfl,rfl⟩,trivial⟩) (fun w=>by simp[Instr.build,Instr.fill,Value.cells,go_sem])) fun a hE=>?_
    refine dM (wk0 rfl) rfl hE hp rfl rfl rfl 12 rfl eY.size_ rfl (bW ⟨rfl,rfl,rfl,rfl,trivial⟩) [(.int .i64 2),(.slice none 0 0),(.slice none 0 0),(.int .i64 bC)] rfl ?_
    intro w hp
    have hp:=r13 hp
    refine aC (dE ?_)
    obtain rfl:=Option.some.inj hj1
    refine⟨_,(Option.some.inj hl1).symm,fun hb=>?_⟩
    subst hb
    have hp:=hp.emp (aA.nil (α:=Int) 3)
    have hp:=r14 hp
    have hp:=hp.emp (bQ.none (α:=Int) 25 3 none)
    have hp:=r15 hp
    have hp:=r15 hp
    obtain rfl:=Option.some.inj hm
    exact retc1 hE rfl rfl (rM (cs:=[(.int .i64 2),(.slice none 0 0),(.slice none 0 0),(.int .i64 bC)]) eY (Hp.cN 14 rfl 0 _ (bY rfl) _ hp)) ⟨_,rfl,_,_,_,rfl,((((((((((((((((((((((((((((hp.get 0 rfl).get 1 rfl).get 14 rfl).drop).get 13 rfl).drop).get 12 rfl).drop).get 11 rfl).drop).get 10 rfl).drop).get 9 rfl).drop).get 8 rfl).drop).get 7 rfl).drop).get 6 rfl).drop).get 5 rfl).drop).get 4 rfl).drop).get 3 rfl).drop).get 2 rfl).drop)⟩
   replace hj1:=(ie hc5).symm.trans hj1
   refine bT (aH ?_)
   refine aB (S hE 1 rfl fun a hE=>?_)
   obtain⟨x5,ex5,hj1⟩:=bnd hj1
   refine V hE hp rfl (dS rfl hE rfl rfl (bF ex5)) fun a hE=>S hE 1 rfl fun a hE=>aC (aH ?_)
   refine aH (aB ?_)
   refine S hE 2 rfl fun a hE=>V hE hp rfl (xf hE D5 rfl rfl) fun a hE=>V hE hp rfl (xl hE rC 0 rfl rfl rfl rfl) fun a hE=>S hE 1 rfl fun a hE=>?_
   refine kV [_,_,_,_,_,_,_] (fun a w=>Env 88 [(49,(.bool (x1.2.broken||(decide ((qV.length:Int)=0))))),(0,(.pointer (some ⟨bp0,0,none⟩))),(1,(.int .i64 p1)),(4,(.pointer (some ⟨b1,0,none⟩))),(5,(.int .i64 x5)),(6,(pqv (hq ((gU,utw6.2)).2 x1.1)))] a∧Hp Z ρ (Pt bp0 (.cells #[kJ,qP,oP,w5,lG,kH,w8,(.int .i64 x1.2.head),(.pointer (some ⟨aN,0,none⟩)),w12,(.int .i64 x1.2.literals),(.bool x1.2.broken)] 65 (0,0))::aA 3 kJ x1.2.value::aA 3 qP x1.2.level::aA 71 oP (List.map (hq ((gU,utw6.2)).2) (x1.2.reason:List (Option Nat)))::aA 3 w5 uF::bZ 61 71 (78,3) lG (gU,utw6.2) (x1.2.watches:(List (List Nat)×List (List Int))) none none::aA 3 kH x1.2.trail::aA 3 w8 qV::Pt aN (.cells #[w10,w11] 68 (0,0))::aA 3 w10 uV::aA 4 w11 uX::bQ 25 3 w12 us12 (uY:(List (List Int)))::Pt b1 (.cells #[(.int .i64 0),(.slice none 0 0),(.slice none 0 0),(.int .i64 0)] 29 (0,0))::L) w) ?_ ?_
   ·rcases Bool.eq_false_or_eq_true x1.2.broken with hc6|hc6
    ·
     refine Gk hE hc6 rfl fun a hE=>Gk hE hc6 rfl fun a hE=>Gk hE hc6 rfl fun a hE=>Gk hE hc6 rfl fun a hE=>Gk hE hc6 rfl fun a hE=>Gk hE hc6 rfl fun a hE=>pk1 hE hc6 rfl rfl rfl rfl fun a hE=>?_
     have hE:=hE.eqv (v':=(.bool (x1.2.broken||(decide ((qV.length:Int)=0))))) (by rw[hc6];rfl)
     exact aC ⟨hE.cut ⟨rfl,rfl,rfl,rfl,rfl,rfl,trivial⟩,hp⟩
    refine Gs hE hc6 rfl rfl fun a hE=>Gs hE hc6 rfl rfl fun a hE=>G hE hp hc6 rfl (xf hE oI rfl rfl) fun a hE=>G hE hp hc6 rfl (xl hE bK 0 rfl rfl rfl rfl) fun a hE=>G hE hp hc6 rfl (dJ rfl hE rfl (aA.len hp 7 rfl aY)) fun a hE=>Gs hE hc6 rfl rfl fun a hE=>pk0 hE hc6 rfl rfl rfl rfl fun a hE=>?_
    have hE:=hE.eqv (v':=(.bool (x1.2.broken||(decide ((qV.length:Int)=0))))) (by rw[hc6];rfl)
    exact aC ⟨hE.cut ⟨rfl,rfl,rfl,rfl,rfl,rfl,trivial⟩,hp⟩
   rintro a w ⟨hE,hp⟩
   refine aC ?_
   refine dQ hE rfl (fun hc7=>?_) (fun hc7=>?_)
   ·replace hj1:=(it hc7).symm.trans hj1
    refine aH (aB ?_)
    refine S hE 1 rfl fun a hE=>?_
    obtain⟨x6,ex6,hj1⟩:=bnd hj1
    refine s_call (wk0 rfl) rfl rfl hE rfl [(.pointer (some ⟨bp0,0,none⟩)),(.slice none 0 0)] ⟨rfl,rfl,trivial⟩ ent52 (vP bp0 (Sol.mk x1.2.value x1.2.level x1.2.reason uF x1.2.watches x1.2.trail qV x1.2.head (Que.mk uV uX) uY x1.2.literals x1.2.broken) kJ qP oP w5 lG (gU,utw6.2) kH w8 aN w10 w11 w12 us12 [] (.slice none 0 0) (bU.nil _) ((((((((((((hp.get 11 rfl).get 11 rfl).get 11 rfl).get 11 rfl).get 11 rfl).get 11 rfl).get 11 rfl).get 11 rfl).get 11 rfl).get 11 rfl).get 11 rfl).get 11 rfl) x6 ex6) Ret.ret ?_
    intro v a w hR hE
    obtain⟨vz3_value,vz3_level,vz3_reason,vz3_saved,vz3_watches,aG7,vz3_trail,vz3_starts,vz3_queue_list,vz3_queue_isin,Y4,usz3_proof,rfl,hp⟩:=Ret.of hR
    have hp:=r13 hp
    refine aC (aH ?_)
    refine aB (S hE 2 rfl fun a hE=>?_)
    refine V hE hp rfl (xf hE fldty65_9 rfl rfl) fun a hE=>V hE hp rfl (xl hE mF 0 rfl rfl rfl rfl) fun a hE=>S hE 1 rfl fun a hE=>V hE hp rfl (v:=(.agg #[(.int .i64 1),(.slice none 0 0),Y4,(.int .i64 x5)])) (qF rfl hE [(0,(.int .i64 1)),(2,Y4),(3,(.int .i64 x5))] (by exact⟨⟨rfl,rfl⟩,⟨rfl,rfl⟩,⟨rfl,rfl⟩,trivial⟩) (fun w=>by have hc0:=bQ.cells hp 11 rfl;simp only[Value.cells] at hc0;simp[Instr.build,Instr.fill,Value.cells,hc0,go_sem])) fun a hE=>?_
    refine dM (wk0 rfl) rfl hE hp rfl rfl rfl 12 rfl eY.size_ rfl (bW ⟨rfl,rfl,(bQ.one hp 11 rfl),rfl,trivial⟩) [(.int .i64 1),(.slice none 0 0),Y4,(.int .i64 x5)] rfl ?_
    intro w hp
    have hp:=r13 hp
    refine aC (dE ?_)
    obtain rfl:=Option.some.inj hj1
    refine⟨_,(Option.some.inj hl1).symm,fun hb=>?_⟩
    subst hb
    have hp:=hp.emp (aA.nil (α:=Int) 3)
    have hp:=r14 hp
    have hp:=r14 hp
    obtain rfl:=Option.some.inj hm
    exact retc1 hE rfl rfl (rM (cs:=[(.int .i64 1),(.slice none 0 0),Y4,(.int .i64 x5)]) eY (Hp.cN 13 rfl 0 _ (bY rfl) _ hp)) ⟨_,rfl,_,_,_,rfl,((((((((((((((((((((((((hp.get 13 rfl).drop).get 11 rfl).drop).get 10 rfl).drop).get 9 rfl).drop).get 8 rfl).drop).get 7 rfl).drop).get 6 rfl).drop).get 5 rfl).drop).get 4 rfl).drop).get 3 rfl).drop).get 2 rfl).drop).get 1 rfl).drop)⟩
   replace hj1:=(ie hc7).symm.trans hj1
   refine bT (aH ?_)
   refine aB (S hE 2 rfl fun a hE=>?_)
   obtain⟨x7,ex7,hj1⟩:=bnd hj1
   refine s_call (wk0 rfl) rfl rfl hE rfl [(.pointer (some ⟨bp0,0,none⟩)),(pqv (hq ((gU,utw6.2)).2 x1.1))] ⟨rfl,rfl,trivial⟩ ent53 (L9 bp0 (Sol.mk x1.2.value x1.2.level x1.2.reason uF x1.2.watches x1.2.trail qV x1.2.head (Que.mk uV uX) uY x1.2.literals x1.2.broken) kJ qP oP w5 lG (gU,utw6.2) kH w8 aN w10 w11 w12 us12 x1.1 ((((((((((((hp.get 11 rfl).get 11 rfl).get 11 rfl).get 11 rfl).get 11 rfl).get 11 rfl).get 11 rfl).get 11 rfl).get 11 rfl).get 11 rfl).get 11 rfl).get 11 rfl) x7 ex7) Ret.ret ?_
   intro v a w hR hE
   obtain⟨vr4,rfl,hp⟩:=Ret.of hR
   have hp:=r14 hp
   refine S hE 5 rfl fun a hE=>aC (aH ?_)
   refine aH (aB ?_)
   refine S hE 2 rfl fun a hE=>?_
   obtain⟨k2,k2a,k2d,k2h⟩:=(hp.get 0 rfl).lend
   obtain⟨x8,ex8,hj1⟩:=bnd hj1
   refine s_call (wk0 rfl) rfl rfl hE rfl [(.pointer (some ⟨bp0,0,none⟩)),vr4] ⟨rfl,rfl,trivial⟩ ent52 (vP bp0 (Sol.mk x1.2.value x1.2.level x1.2.reason uF x1.2.watches x1.2.trail qV x1.2.head (Que.mk uV uX) uY x1.2.literals x1.2.broken) kJ qP oP w5 lG (gU,utw6.2) kH w8 aN w10 w11 w12 us12 x7.1 vr4 (aA.ro k2d k2a) ((((((((((((k2h.get 11 rfl).get 11 rfl).get 11 rfl).get 11 rfl).get 11 rfl).get 11 rfl).get 11 rfl).get 11 rfl).get 11 rfl).get 11 rfl).get 11 rfl).get 11 rfl) x8 ex8) Ret.ret ?_
   intro v a w hR hE
   obtain⟨vz4_value,vz4_level,vz4_reason,vz4_saved,vz4_watches,utz4_watches,vz4_trail,vz4_starts,vz4_queue_list,vz4_queue_isin,vz4_proof,usz4_proof,rfl,hp⟩:=Ret.of hR
   have hp:=Hp.back k2a k2d hp
   have hp:=r14 hp
   refine S hE 1 rfl fun a hE=>aC ?_
   have hE:=hE.cut (E':=[(0,(.pointer (some ⟨bp0,0,none⟩))),(1,(.int .i64 p1)),(4,(.pointer (some ⟨b1,0,none⟩))),(5,(.int .i64 x5)),(7,vr4),(8,(.int .i64 x7.2)),(67,(.bool (!x8.1)))]) ⟨rfl,rfl,rfl,rfl,rfl,rfl,rfl,trivial⟩
   refine dQ hE rfl (fun hc8=>?_) (fun hc8=>?_)
   ·replace hj1:=(it hc8).symm.trans hj1
    refine aH (aB ?_)
    refine S hE 1 rfl fun a hE=>V hE hp rfl (v:=(.agg #[(.int .i64 2),(.slice none 0 0),(.slice none 0 0),(.int .i64 x5)])) (qF rfl hE [(0,(.int .i64 2)),(3,(.int .i64 x5))] (by exact⟨⟨rfl,rfl⟩,⟨rfl,rfl⟩,trivial⟩) (fun w=>by simp[Instr.build,Instr.fill,Value.cells,go_sem])) fun a hE=>?_
    refine dM (wk0 rfl) rfl hE hp rfl rfl rfl 13 rfl eY.size_ rfl (bW ⟨rfl,rfl,rfl,rfl,trivial⟩) [(.int .i64 2),(.slice none 0 0),(.slice none 0 0),(.int .i64 x5)] rfl ?_
    intro w hp
    have hp:=r14 hp
    refine aC (dE ?_)
    obtain rfl:=Option.some.inj hj1
    refine⟨_,(Option.some.inj hl1).symm,fun hb=>?_⟩
    subst hb
    have hp:=hp.emp (aA.nil (α:=Int) 3)
    have hp:=r15 hp
    have hp:=hp.emp (bQ.none (α:=Int) 25 3 none)
    have hp:=r16 hp
    have hp:=r16 hp
    obtain rfl:=Option.some.inj hm
    exact retc1 hE rfl rfl (rM (cs:=[(.int .i64 2),(.slice none 0 0),(.slice none 0 0),(.int .i64 x5)]) eY (Hp.cN 15 rfl 0 _ (bY rfl) _ hp)) ⟨_,rfl,_,_,_,rfl,((((((((((((((((((((((((((((((hp.get 0 rfl).get 1 rfl).get 15 rfl).drop).get 14 rfl).drop).get 13 rfl).drop).get 12 rfl).drop).get 11 rfl).drop).get 10 rfl).drop).get 9 rfl).drop).get 8 rfl).drop).get 7 rfl).drop).get 6 rfl).drop).get 5 rfl).drop).get 4 rfl).drop).get 3 rfl).drop).get 2 rfl).drop)⟩
   replace hj1:=(ie hc8).symm.trans hj1
   refine bT (aH ?_)
   refine aB (S hE 2 rfl fun a hE=>?_)
   obtain⟨x9,ex9,hj1⟩:=bnd hj1
   refine s_call (wk0 rfl) rfl rfl hE rfl [(.pointer (some ⟨bp0,0,none⟩)),(.int .i64 x7.2)] ⟨rfl,rfl,trivial⟩ ent54 (O4 bp0 x8.2 vz4_value vz4_level vz4_reason vz4_saved vz4_watches utz4_watches vz4_trail vz4_starts aN vz4_queue_list vz4_queue_isin vz4_proof usz4_proof x7.2 ((((((((((((hp.get 12 rfl).get 12 rfl).get 12 rfl).get 12 rfl).get 12 rfl).get 12 rfl).get 12 rfl).get 12 rfl).get 12 rfl).get 12 rfl).get 12 rfl).get 12 rfl) x9 ex9) Ret.ret ?_
   intro v a w hR hE
   obtain⟨vz5_value,vz5_level,aF3,vz5_saved,vz5_watches,aG8,vz5_trail,aF4,yH,yG,vz5_proof,aB3,rfl,hp⟩:=Ret.of hR
   have hp:=r14 hp
   refine aC (aH ?_)
   refine aB (S hE 1 rfl fun a hE=>?_)
   refine aC (aH ?_)
   refine aH (aB ?_)
   refine S hE 1 rfl fun a hE=>V hE hp rfl (dJ rfl hE rfl (aA.len hp 12 rfl aY)) fun a hE=>S hE 1 rfl fun a hE=>aC ?_
   refine dQ hE rfl (fun hc9=>?_) (fun hc9=>?_)
   ·replace hj1:=(it hc9).symm.trans hj1
    refine aH (aB ?_)
    refine S hE 1 rfl fun a hE=>V hE hp rfl (v:=(.agg #[vr4])) (qF rfl hE [(0,vr4)] (by exact⟨⟨rfl,rfl⟩,trivial⟩) (fun w=>by have hc0:=aA.cells hp 12 rfl;simp only[Value.cells] at hc0;simp[Instr.build,Instr.fill,Value.cells,hc0,go_sem])) fun a hE=>?_
    refine qQ (wk0 rfl) rfl rfl hE hp rfl (v:=(.agg #[vr4])) rfl ?_
    intro a w b3 hE hp
    have hp:=r15 hp
    refine S hE 1 rfl fun a hE=>aC (aB ?_)
    refine S hE 2 rfl fun a hE=>?_
    obtain⟨x10,ex10,hj1⟩:=bnd hj1
    obtain⟨x11,ex11,hj1⟩:=bnd hj1
    obtain⟨ut1,pc1,pc1b,pc1s,hp⟩:=bZ.give (Tc:=(78,3)) ex10 ex11 ((((hp.get 4 rfl).get 6 rfl).get 2 rfl).get 13 rfl)
    subst pc1b
    subst pc1s
    have hp:=r15 hp
    obtain⟨hp,hbk1⟩:=bZ.back (Tc:=(78,3)) (((hp.get 2 rfl).get 2 rfl).get 2 rfl)
    rw[←hbk1] at hE
    have hp:=r13 hp
    obtain⟨x12,ex12,hj1⟩:=bnd hj1
    refine s_call (wk0 rfl) rfl rfl hE rfl [(.pointer (some ⟨bp0,0,none⟩)),(Pc.v (hdP (ut1).2 x9.watches.2.length))] ⟨rfl,rfl,trivial⟩ ent55 (uO bp0 (Sol.mk x9.value x9.level x9.reason x9.saved ((x9.watches.1,x10).1,(x9.watches.1,x10).2.set x9.watches.2.length x7.1) x9.trail x9.starts x9.head x9.queue x9.proof x9.literals x9.broken) vz5_value vz5_level aF3 vz5_saved vz5_watches ut1 vz5_trail aF4 aN yH yG vz5_proof aB3 (some x9.watches.2.length) ((((((((((((hp.get 11 rfl).get 11 rfl).get 11 rfl).get 11 rfl).get 11 rfl).get 11 rfl).get 6 rfl).get 11 rfl).get 8 rfl).get 11 rfl).get 11 rfl).get 11 rfl) x12 ex12) Ret.ret ?_
    intro v a w hR hE
    obtain⟨vz6_watches,F6,rfl,hp⟩:=Ret.of hR
    have hp:=r13 hp
    refine aC (aB ?_)
    refine S hE 2 rfl fun a hE=>?_
    obtain⟨x13,ex13,hj1⟩:=bnd hj1
    obtain⟨pc2,pc2h,hp⟩:=bZ.take ex13 (hp.get 5 rfl)
    rw[pc2h] at hE
    have hp:=r15 hp
    obtain⟨x14,ex14,hj1⟩:=bnd hj1
    obtain⟨b4,b4o,b4r,b4v,b4f⟩:=aA.at hp 0 rfl aY ex14
    refine V hE hp rfl (aV rfl hE rfl rfl b4r) fun a hE=>V hE hp rfl (aZ rfl hE rfl (fun w hw=>bH bG (b4f 0 _ rfl _ _ w (hw.get 0 rfl)))) fun a hE=>S hE 1 rfl fun a hE=>?_
    have hawc:=bZ.away hp 2 rfl
    obtain⟨x15,ex15,hj1⟩:=bnd hj1
    refine s_call (wk0 rfl) rfl rfl hE rfl [(.pointer (some ⟨bp0,0,none⟩)),(.int .i64 x14),(Pc.v (hdP ((F6,ut1.2)).2 x9.watches.2.length))] ⟨rfl,rfl,(by rw[hawc];rfl),trivial⟩ ent56 (mG bp0 (Sol.mk x9.value x9.level x9.reason x9.saved x12.watches x9.trail x9.starts x12.head x9.queue x9.proof x12.literals x12.broken) vz5_value vz5_level aF3 vz5_saved vz6_watches (F6,ut1.2) vz5_trail aF4 aN yH yG vz5_proof aB3 x14 (some x9.watches.2.length) ((((((((((((hp.get 13 rfl).get 13 rfl).get 13 rfl).get 13 rfl).get 13 rfl).get 13 rfl).get 8 rfl).get 13 rfl).get 13 rfl).get 13 rfl).get 13 rfl).get 13 rfl) x15 ex15) Ret.ret ?_
    intro v a w hR hE
    obtain⟨vz7_value,vz7_level,vz7_reason,vz7_trail,rfl,hp⟩:=Ret.of hR
    have hp:=r15 hp
    refine aC ?_
    have hE:=hE.cut (E':=[(0,(.pointer (some ⟨bp0,0,none⟩))),(1,(.int .i64 p1)),(4,(.pointer (some ⟨b1,0,none⟩))),(5,(.int .i64 x5))]) ⟨rfl,rfl,rfl,rfl,trivial⟩
    obtain⟨hp,hbk2⟩:=bZ.back0 (Tc:=(78,3)) ex13 (((hp.get 5 rfl).get 13 rfl).get 13 rfl)
    have hp:=r13 hp
    obtain rfl:=Option.some.inj hj1
    exact⟨_,rfl,_,_,_,_,_,(F6,ut1.2),_,_,_,_,_,_,hE.cut ⟨rfl,rfl,rfl,rfl,trivial⟩,(((((((((((((hp.get 11 rfl).get 11 rfl).get 11 rfl).get 11 rfl).get 11 rfl).get 11 rfl).get 6 rfl).get 11 rfl).get 11 rfl).get 11 rfl).get 11 rfl).get 11 rfl).get 12 rfl)⟩
   replace hj1:=(ie hc9).symm.trans hj1
   refine bT (aB ?_)
   refine S hE 2 rfl fun a hE=>?_
   obtain⟨x16,ex16,hj1⟩:=bnd hj1
   obtain⟨b5,b5o,b5r,b5v,b5f⟩:=aA.at hp 12 rfl aY ex16
   refine V hE hp rfl (aV rfl hE rfl rfl b5r) fun a hE=>V hE hp rfl (aZ rfl hE rfl (fun w hw=>bH bG (b5f 0 _ rfl _ _ w (hw.get 12 rfl)))) fun a hE=>S hE 1 rfl fun a hE=>?_
   obtain⟨x17,ex17,hj1⟩:=bnd hj1
   refine s_call (wk0 rfl) rfl rfl hE rfl [(.pointer (some ⟨bp0,0,none⟩)),(.int .i64 x16),(.pointer none)] ⟨rfl,rfl,rfl,trivial⟩ ent56 (mG bp0 x9 vz5_value vz5_level aF3 vz5_saved vz5_watches aG8 vz5_trail aF4 aN yH yG vz5_proof aB3 x16 none ((((((((((((hp.get 11 rfl).get 11 rfl).get 11 rfl).get 11 rfl).get 11 rfl).get 11 rfl).get 11 rfl).get 11 rfl).get 11 rfl).get 11 rfl).get 11 rfl).get 11 rfl) x17 ex17) Ret.ret ?_
   intro v a w hR hE
   obtain⟨vz8_value,vz8_level,vz8_reason,vz8_trail,rfl,hp⟩:=Ret.of hR
   have hp:=r14 hp
   refine aC ?_
   obtain rfl:=Option.some.inj hj1
   exact⟨_,rfl,_,_,_,_,_,aG8,_,_,_,_,_,_,hE.cut ⟨rfl,rfl,rfl,rfl,trivial⟩,(((((((((((((((hp.get 11 rfl).get 11 rfl).get 11 rfl).get 11 rfl).get 11 rfl).get 11 rfl).get 11 rfl).get 11 rfl).get 11 rfl).get 11 rfl).get 11 rfl).get 11 rfl).get 13 rfl).get 13 rfl).drop)⟩
  rintro a w ⟨j1s,rfl,w2,w3,w4,w5,w6q,utw6q,w7,w8,w10,w11,w12q,us12q,hE,hp⟩
  dsimp only at hl1
  exact⟨_,(Option.some.inj hl1).symm,_,_,_,_,_,utw6q,_,_,_,_,_,_,hE.cut ⟨rfl,rfl,rfl,rfl,trivial⟩,hp⟩
 rintro a w ⟨b2s,rfl,w2,w3,w4,w5,w6,utw6,w7,w8,w10,w11,w12,us12,hE,hp⟩
 dsimp only at hm
 have hp:=hp.emp (aA.nil (α:=Int) 3)
 have hp:=r14 hp
 have hp:=hp.emp (bQ.none (α:=Int) 25 3 none)
 have hp:=r15 hp
 have hp:=r15 hp
 obtain rfl:=Option.some.inj hm
 exact retc1n hE rfl rfl (rM (cs:=[(.int .i64 0),(.slice none 0 0),(.slice none 0 0),(.int .i64 0)]) eY (Hp.cN 2 rfl 0 _ (bY rfl) _ hp)) ⟨_,rfl,_,_,_,rfl,((((((((((((((((((((((((((((hp.get 0 rfl).get 1 rfl).get 14 rfl).drop).get 13 rfl).drop).get 12 rfl).drop).get 11 rfl).drop).get 10 rfl).drop).get 9 rfl).drop).get 8 rfl).drop).get 7 rfl).drop).get 6 rfl).drop).get 5 rfl).drop).get 4 rfl).drop).get 3 rfl).drop).get 2 rfl).drop)⟩
end Go.Proofs.Ytpkhmndpeipfmaa

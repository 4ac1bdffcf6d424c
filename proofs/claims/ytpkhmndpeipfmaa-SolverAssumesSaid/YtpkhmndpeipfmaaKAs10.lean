/- The code goes as its model: (*assessor/solver.solver).note, (*assessor/solver.solver).learn. (Printed by wip/sp/gen.py.) -/
import Derived.Test.YtpkhmndpeipfmaaKAsT
import Derived.Test.YtpkhmndpeipfmaaKAs5
import Derived.Test.YtpkhmndpeipfmaaKAs6
import Derived.Test.YtpkhmndpeipfmaaKAs7
import Derived.Test.YtpkhmndpeipfmaaKAs9
set_option linter.unusedVariables false
set_option linter.unusedSimpArgs false
namespace Go.Proofs.Ytpkhmndpeipfmaa
open Go.RowKit
set_option maxRecDepth 100000 in
set_option maxHeartbeats 4000000 in
theorem vP {Z:World} {ρ:PH} {L:List bV} {w:World} (bp0:Nat) (p0:Sol) (aU:Value) (aW:Value) (aX:Value) (aS:Value) (aO:Value) (aF:List Sl×List Pc) (aT:Value) (aP:Value) (aN:Nat) (aK:Value) (aJ:Value) (aQ:Value) (bD:List Sl) (p1:(List Int)) (vp1:Value) (hp1:bU ρ vp1 p1) (hp:Hp Z ρ (Pt bp0 (.cells #[aU,aW,aX,aS,aO,aT,aP,(.int .i64 p0.head),(.pointer (some ⟨aN,0,none⟩)),aQ,(.int .i64 p0.literals),(.bool p0.broken)] 65 (0,0))::aA 3 aU p0.value::aA 3 aW p0.level::aA 71 aX (List.map (hq (aF).2) (p0.reason:List (Option Nat)))::aA 3 aS p0.saved::bZ 61 71 (78,3) aO aF (p0.watches:(List (List Nat)×List (List Int))) none none::aA 3 aT p0.trail::aA 3 aP p0.starts::Pt aN (.cells #[aK,aJ] 68 (0,0))::aA 3 aK p0.queue.list::aA 4 aJ p0.queue.isin::bQ 25 3 aQ bD (p0.proof:(List (List Int)))::L) w) (r:(Bool×Sol)) (hm:kT p0 p1=some r):
  Calls Try.prog 52 #[(.pointer (some ⟨bp0,0,none⟩)),vp1] w (Ret fun v w'=>∃(eG:Value) (jJ:Value) (iL:Value) (rE:Value) (dK:Value) (dI:List Sl×List Pc) (eF:Value) (qC:Value) (lI:Value) (lH:Value) (rD:Value) (vY:List Sl),v=(.bool r.1)∧Hp Z ρ (Pt bp0 (.cells #[eG,jJ,iL,rE,dK,eF,qC,(.int .i64 r.2.head),(.pointer (some ⟨aN,0,none⟩)),rD,(.int .i64 r.2.literals),(.bool r.2.broken)] 65 (0,0))::aA 3 eG r.2.value::aA 3 jJ r.2.level::aA 71 iL (List.map (hq (dI).2) (r.2.reason:List (Option Nat)))::aA 3 rE r.2.saved::bZ 61 71 (78,3) dK dI (r.2.watches:(List (List Nat)×List (List Int))) none none::aA 3 eF r.2.trail::aA 3 qC r.2.starts::Pt aN (.cells #[lI,lH] 68 (0,0))::aA 3 lI r.2.queue.list::aA 4 lH r.2.queue.isin::bQ 25 3 rD vY (r.2.proof:(List (List Int)))::L) w'):=by
 refine enter (N:=36) Try.func52 rfl rfl [(0,(.pointer (some ⟨bp0,0,none⟩))),(1,vp1)] rfl (bP ⟨rfl,rfl,trivial⟩) fun a hE=>?_
 unfold kT at hm
 refine aH (aB ?_)
 refine S hE 1 rfl fun a hE=>aC (aH ?_)
 refine aB (S hE 1 rfl fun a hE=>?_)
 obtain⟨x1,ex1,hm⟩:=bnd hm
 refine s_call (wk0 rfl) rfl rfl hE rfl [vp1] ⟨rfl,trivial⟩ ent68 (c_cnf_Normal p1 vp1 hp1 hp x1 ex1) Ret.ret ?_
 intro v a w hR hE
 obtain⟨vr1,rfl,hp⟩:=Ret.of hR
 have hp:=r13 hp
 refine S hE 5 rfl fun a hE=>aC (aH ?_)
 refine aB (S hE 3 rfl fun a hE=>?_)
 refine V hE hp rfl (xf hE fldty65_9 rfl rfl) fun a hE=>V hE hp rfl (xl hE mF 1 rfl rfl rfl rfl) fun a hE=>S hE 1 rfl fun a hE=>?_
 refine jM (wk0 rfl) rfl rfl hE hp rfl [(0,vr1)] ⟨⟨rfl,rfl⟩,trivial⟩ [vr1] 25 (fun w=>by have hc0:=aA.cells hp 0 rfl;simp only[Value.cells] at hc0;simp[Instr.buildSlice,Instr.fill,Value.cells,hc0,go_sem]) ?_
 intro a w b1 hE hp
 have hp:=r14 hp
 obtain⟨x2,ex2,hm⟩:=bnd hm
 obtain⟨sl1,sl1e⟩:=aA.toSl hp 1 rfl
 have hlo1:=fun(w:World) (ty:TypeId)=>aA.len hp 1 rfl aY w ty
 have hlo2:=fun(w:World) (ty:TypeId)=>aA.len hp 1 rfl aY w ty
 refine s_tapp (wk0 rfl) rfl rfl hE sl1e (hp.get 1 rfl) rfl nG rfl rfl 12 rfl rfl (Hp.c 0 rfl 0 rfl w hp) ex2 ?_
 intro v1 us1 a w hE hp
 have hp:=r13 hp
 refine S hE 1 rfl fun a hE=>V hE hp rfl (xf hE fldty65_9 rfl rfl) fun a hE=>?_
 refine oO (wk0 rfl) rfl hE hp rfl rfl rfl 1 rfl mF.size_ (bQ.cells hp 12 rfl) (bQ.one hp 12 rfl) rfl [aU,aW,aX,aS,aO,aT,aP,(.int .i64 p0.head),(.pointer (some ⟨aN,0,none⟩)),v1,(.int .i64 p0.literals),(.bool p0.broken)] rfl ?_
 intro w hp
 have hp:=r13 hp
 refine aC (aH ?_)
 refine aB (S hE 2 rfl fun a hE=>?_)
 refine V hE hp rfl (xf hE aA5 rfl rfl) fun a hE=>V hE hp rfl (xl hE bG 1 rfl rfl rfl rfl) fun a hE=>S hE 1 rfl fun a hE=>V hE hp rfl (dJ rfl hE rfl (fun w ty=>hlo1 w ty)) fun a hE=>?_
 obtain⟨x3,ex3,hm⟩:=bnd hm
 refine V hE hp rfl (dS rfl hE rfl rfl (bF ex3)) fun a hE=>S hE 1 rfl fun a hE=>V hE hp rfl (xf hE aA5 rfl rfl) fun a hE=>?_
 refine dM (wk0 rfl) rfl hE hp rfl rfl rfl 1 rfl bG.size_ rfl (bW ⟨rfl,trivial⟩) [aU,aW,aX,aS,aO,aT,aP,(.int .i64 p0.head),(.pointer (some ⟨aN,0,none⟩)),v1,(.int .i64 x3),(.bool p0.broken)] rfl ?_
 intro w hp
 have hp:=r13 hp
 refine aC ?_
 have hE:=hE.cut (E':=[(0,(.pointer (some ⟨bp0,0,none⟩)))]) ⟨rfl,trivial⟩
 refine aH (aB ?_)
 refine S hE 2 rfl fun a hE=>V hE hp rfl (xf hE aA5 rfl rfl) fun a hE=>V hE hp rfl (xl hE bG 1 rfl rfl rfl rfl) fun a hE=>S hE 2 rfl fun a hE=>aC (dE ?_)
 obtain rfl:=Option.some.inj hm
 exact iV hE rfl rfl ⟨_,rfl,_,_,_,_,_,_,_,_,_,_,_,_,rfl,(hp.drop)⟩
set_option maxRecDepth 100000 in
set_option maxHeartbeats 4000000 in
theorem L9 {Z:World} {ρ:PH} {L:List bV} {w:World} (bp0:Nat) (p0:Sol) (aU:Value) (aW:Value) (aX:Value) (aS:Value) (aO:Value) (aF:List Sl×List Pc) (aT:Value) (aP:Value) (aN:Nat) (aK:Value) (aJ:Value) (aQ:Value) (bD:List Sl) (p1:(Option Nat)) (hp:Hp Z ρ (Pt bp0 (.cells #[aU,aW,aX,aS,aO,aT,aP,(.int .i64 p0.head),(.pointer (some ⟨aN,0,none⟩)),aQ,(.int .i64 p0.literals),(.bool p0.broken)] 65 (0,0))::aA 3 aU p0.value::aA 3 aW p0.level::aA 71 aX (List.map (hq (aF).2) (p0.reason:List (Option Nat)))::aA 3 aS p0.saved::bZ 61 71 (78,3) aO aF (p0.watches:(List (List Nat)×List (List Int))) none none::aA 3 aT p0.trail::aA 3 aP p0.starts::Pt aN (.cells #[aK,aJ] 68 (0,0))::aA 3 aK p0.queue.list::aA 4 aJ p0.queue.isin::bQ 25 3 aQ bD (p0.proof:(List (List Int)))::L) w) (r:((List Int)×Int)) (hm:kF p0 p1=some r):
  Calls Try.prog 53 #[(.pointer (some ⟨bp0,0,none⟩)),(pqv (hq (aF).2 p1))] w (Ret fun v w'=>∃(vr1:Value),v= .tuple #[vr1,(.int .i64 r.2)]∧Hp Z ρ (aA 3 vr1 r.1::Pt bp0 (.cells #[aU,aW,aX,aS,aO,aT,aP,(.int .i64 p0.head),(.pointer (some ⟨aN,0,none⟩)),aQ,(.int .i64 p0.literals),(.bool p0.broken)] 65 (0,0))::aA 3 aU p0.value::aA 3 aW p0.level::aA 71 aX (List.map (hq (aF).2) (p0.reason:List (Option Nat)))::aA 3 aS p0.saved::bZ 61 71 (78,3) aO aF (p0.watches:(List (List Nat)×List (List Int))) none none::aA 3 aT p0.trail::aA 3 aP p0.starts::Pt aN (.cells #[aK,aJ] 68 (0,0))::aA 3 aK p0.queue.list::aA 4 aJ p0.queue.isin::bQ 25 3 aQ bD (p0.proof:(List (List Int)))::L) w'):=by
 refine enter (N:=165) Try.func53 rfl rfl [(0,(.pointer (some ⟨bp0,0,none⟩))),(1,(pqv (hq (aF).2 p1)))] rfl (bP ⟨rfl,rfl,trivial⟩) fun a hE=>?_
 unfold kF at hm
 refine aH (aB ?_)
 refine S hE 2 rfl fun a hE=>aC (aH ?_)
 refine aB ?_
 refine jM (wk0 rfl) rfl rfl hE hp rfl [(0,(.int .i64 0))] ⟨⟨rfl,rfl⟩,trivial⟩ [(.int .i64 0)] 3 (fun w=>by simp[Instr.buildSlice,Instr.fill,Value.cells,go_sem]) ?_
 intro a w b1 hE hp
 have hp:=r13 hp
 refine S hE 1 rfl fun a hE=>aC (aH ?_)
 refine aB ?_
 refine s_mkmap (κ:=Int) (β:=Bool) (wk0 rfl) rfl rfl hE hp rfl ?_
 intro a w b2 hE hp
 have hp:=r14 hp
 refine S hE 1 rfl fun a hE=>aC (aH ?_)
 refine aB (S hE 2 rfl fun a hE=>?_)
 refine V hE hp rfl (xf hE mX rfl rfl) fun a hE=>V hE hp rfl (xl hE bK 2 rfl rfl rfl rfl) fun a hE=>V hE hp rfl (dJ rfl hE rfl (aA.len hp 8 rfl aY)) fun a hE=>S hE 1 rfl fun a hE=>aC (aH ?_)
 refine aB (S hE 1 rfl fun a hE=>?_)
 obtain⟨x1,ex1,hm⟩:=bnd hm
 rw[ex1,pqv_hq] at hE
 obtain⟨x2,ex2,hm⟩:=bnd hm
 obtain⟨pc1,pc1h,hp⟩:=bZ.take ex2 (hp.get 7 rfl)
 rw[pc1h] at hE
 have hp:=r16 hp
 refine S hE 1 rfl fun a hE=>V hE hp rfl (xf hE iQ rfl rfl) fun a hE=>V hE hp rfl (xl hE bK 1 rfl rfl rfl rfl) fun a hE=>S hE 1 rfl fun a hE=>aC (aH ?_)
 have hp:=(hp.get 4 rfl).imp (pV (l:=(([0]:List Int):List Int)) (n:=1) rfl (by decide) rfl)
 have hp:=r16 hp
 obtain⟨j1,hj1,hm⟩:=bnd hm
 refine dN (fun a w=>∃(w14:Value),Env 165 [(0,(.pointer (some ⟨bp0,0,none⟩))),(6,w14)] a∧Hp Z ρ (bZ 61 71 (78,3) aO aF (p0.watches:(List (List Nat)×List (List Int))) none none::aA 3 w14 j1.1::pJ b2 (j1.2:List (Int×Bool))::Pt bp0 (.cells #[aU,aW,aX,aS,aO,aT,aP,(.int .i64 p0.head),(.pointer (some ⟨aN,0,none⟩)),aQ,(.int .i64 p0.literals),(.bool p0.broken)] 65 (0,0))::aA 3 aU p0.value::aA 3 aW p0.level::aA 71 aX (List.map (hq (aF).2) (p0.reason:List (Option Nat)))::aA 3 aS p0.saved::aA 3 aT p0.trail::aA 3 aP p0.starts::Pt aN (.cells #[aK,aJ] 68 (0,0))::aA 3 aK p0.queue.list::aA 4 aJ p0.queue.isin::bQ 25 3 aQ bD (p0.proof:(List (List Int)))::L) w) ?_ ?_
 ·
  refine k_peel ?_
  refine dL (aH ?_)
  refine aH (aB ?_)
  refine S hE 1 rfl fun a hE=>V hE hp rfl (dJ rfl hE rfl (aA.len hp 1 rfl aY)) fun a hE=>S hE 1 rfl fun a hE=>aC ?_
  obtain⟨b3,hc1,hj1⟩:=bnd hj1
  refine dN (fun a w=>∃(w14:Value),Env 165 [(0,(.pointer (some ⟨bp0,0,none⟩))),(6,w14),(7,(.map (some b2))),(8,(.int .i64 (p0.trail.length:Int)))] a∧Hp Z ρ (aA 3 w14 b3.1::aA 3 (Sl.v (Pc.s pc1)) x2::Pt (Pc.b pc1) (.cells #[(Sl.v (Pc.s pc1))] 78 (0,0))::bZ 61 71 (78,3) aO aF (p0.watches:(List (List Nat)×List (List Int))) none (some ((x1,pc1):Nat×Pc))::pJ b2 (b3.2:List (Int×Bool))::Pt bp0 (.cells #[aU,aW,aX,aS,aO,aT,aP,(.int .i64 p0.head),(.pointer (some ⟨aN,0,none⟩)),aQ,(.int .i64 p0.literals),(.bool p0.broken)] 65 (0,0))::aA 3 aU p0.value::aA 3 aW p0.level::aA 71 aX (List.map (hq (aF).2) (p0.reason:List (Option Nat)))::aA 3 aS p0.saved::aA 3 aT p0.trail::aA 3 aP p0.starts::Pt aN (.cells #[aK,aJ] 68 (0,0))::aA 3 aK p0.queue.list::aA 4 aJ p0.queue.isin::bQ 25 3 aQ bD (p0.proof:(List (List Int)))::L) w) ?_ ?_
  ·refine fV hc1 (fun s a w=>∃(w14:Value),Env 165 [(0,(.pointer (some ⟨bp0,0,none⟩))),(6,w14),(7,(.map (some b2))),(8,(.int .i64 (p0.trail.length:Int))),(30,(Sl.v (Pc.s pc1))),(31,(.int .i64 (x2.length:Int))),(32,(.int .i64 s.1))] a∧Hp Z ρ (aA 3 w14 s.2.1::aA 3 (Sl.v (Pc.s pc1)) x2::Pt (Pc.b pc1) (.cells #[(Sl.v (Pc.s pc1))] 78 (0,0))::bZ 61 71 (78,3) aO aF (p0.watches:(List (List Nat)×List (List Int))) none (some ((x1,pc1):Nat×Pc))::pJ b2 (s.2.2:List (Int×Bool))::Pt bp0 (.cells #[aU,aW,aX,aS,aO,aT,aP,(.int .i64 p0.head),(.pointer (some ⟨aN,0,none⟩)),aQ,(.int .i64 p0.literals),(.bool p0.broken)] 65 (0,0))::aA 3 aU p0.value::aA 3 aW p0.level::aA 71 aX (List.map (hq (aF).2) (p0.reason:List (Option Nat)))::aA 3 aS p0.saved::aA 3 aT p0.trail::aA 3 aP p0.starts::Pt aN (.cells #[aK,aJ] 68 (0,0))::aA 3 aK p0.queue.list::aA 4 aJ p0.queue.isin::bQ 25 3 aQ bD (p0.proof:(List (List Int)))::L) w) ?_ ?_
   ·exact⟨_,hE.cut ⟨rfl,rfl,rfl,rfl,rfl,rfl,rfl,trivial⟩,hp⟩
   rintro⟨bC,cZ,dG⟩ st a w ⟨w14,hE,hp⟩ hl1
   dsimp only at hE hp hl1
   unfold fG at hl1
   refine aH (aB ?_)
   refine S hE 1 rfl fun a hE=>aC (aH ?_)
   refine dQ hE rfl (fun hc2=>?_) (fun hc2=>?_)
   ·replace hl1:=(it hc2).symm.trans hl1
    refine bT (aH ?_)
    obtain⟨j2,hj2,hl1⟩:=bnd hl1
    refine dN (fun a w=>∃(w14:Value),Env 165 [(0,(.pointer (some ⟨bp0,0,none⟩))),(6,w14),(7,(.map (some b2))),(8,(.int .i64 (p0.trail.length:Int))),(30,(Sl.v (Pc.s pc1))),(31,(.int .i64 (x2.length:Int))),(32,(.int .i64 bC))] a∧Hp Z ρ (aA 3 w14 j2.1::aA 3 (Sl.v (Pc.s pc1)) x2::Pt (Pc.b pc1) (.cells #[(Sl.v (Pc.s pc1))] 78 (0,0))::bZ 61 71 (78,3) aO aF (p0.watches:(List (List Nat)×List (List Int))) none (some ((x1,pc1):Nat×Pc))::pJ b2 (j2.2:List (Int×Bool))::Pt bp0 (.cells #[aU,aW,aX,aS,aO,aT,aP,(.int .i64 p0.head),(.pointer (some ⟨aN,0,none⟩)),aQ,(.int .i64 p0.literals),(.bool p0.broken)] 65 (0,0))::aA 3 aU p0.value::aA 3 aW p0.level::aA 71 aX (List.map (hq (aF).2) (p0.reason:List (Option Nat)))::aA 3 aS p0.saved::aA 3 aT p0.trail::aA 3 aP p0.starts::Pt aN (.cells #[aK,aJ] 68 (0,0))::aA 3 aK p0.queue.list::aA 4 aJ p0.queue.isin::bQ 25 3 aQ bD (p0.proof:(List (List Int)))::L) w) ?_ ?_
    ·
     refine aH (aB ?_)
     obtain⟨x3,ex3,hj2⟩:=bnd hj2
     obtain⟨b4,b4o,b4r,b4v,b4f⟩:=aA.at hp 1 rfl aY ex3
     refine V hE hp rfl (aV rfl hE rfl rfl b4r) fun a hE=>V hE hp rfl (aZ rfl hE rfl (fun w hw=>bH bG (b4f 0 _ rfl _ _ w (hw.get 1 rfl)))) fun a hE=>S hE 1 rfl fun a hE=>aC (aH ?_)
     refine aB (S hE 1 rfl fun a hE=>?_)
     obtain⟨x4,ex4,hj2⟩:=bnd hj2
     refine s_call (wk0 rfl) rfl rfl hE rfl [(.int .i64 x3)] ⟨rfl,trivial⟩ zH (fC x3 hp x4 ex4) Ret.ret ?_
     intro v a w hR hE
     obtain⟨rfl,hp⟩:=Ret.of hR
     have hp:=r16 hp
     refine S hE 1 rfl fun a hE=>aC (aH ?_)
     refine aH (aB ?_)
     refine S hE 2 rfl fun a hE=>V hE hp rfl (v:=(.bool ((lX (dG:List (Int×Bool)) x4).getD false))) (aF8 (zd:=(false:Bool)) kt3 X0 zero4 rfl hE 4 (k:=x4) rfl rfl rfl) fun a hE=>S hE 1 rfl fun a hE=>?_
     obtain⟨m1,hg1,hj2⟩:=bnd hj2
     refine kV [_,_,_,_,_,_,_,_,_] (fun a w=>Env 165 [(50,(.bool m1)),(0,(.pointer (some ⟨bp0,0,none⟩))),(6,w14),(7,(.map (some b2))),(8,(.int .i64 (p0.trail.length:Int))),(11,(.int .i64 x3)),(12,(.int .i64 x4)),(30,(Sl.v (Pc.s pc1))),(31,(.int .i64 (x2.length:Int))),(32,(.int .i64 bC))] a∧Hp Z ρ (aA 3 w14 cZ::aA 3 (Sl.v (Pc.s pc1)) x2::Pt (Pc.b pc1) (.cells #[(Sl.v (Pc.s pc1))] 78 (0,0))::bZ 61 71 (78,3) aO aF (p0.watches:(List (List Nat)×List (List Int))) none (some ((x1,pc1):Nat×Pc))::pJ b2 (dG:List (Int×Bool))::Pt bp0 (.cells #[aU,aW,aX,aS,aO,aT,aP,(.int .i64 p0.head),(.pointer (some ⟨aN,0,none⟩)),aQ,(.int .i64 p0.literals),(.bool p0.broken)] 65 (0,0))::aA 3 aU p0.value::aA 3 aW p0.level::aA 71 aX (List.map (hq (aF).2) (p0.reason:List (Option Nat)))::aA 3 aS p0.saved::aA 3 aT p0.trail::aA 3 aP p0.starts::Pt aN (.cells #[aK,aJ] 68 (0,0))::aA 3 aK p0.queue.list::aA 4 aJ p0.queue.isin::bQ 25 3 aQ bD (p0.proof:(List (List Int)))::L) w) ?_ ?_
     ·rcases Bool.eq_false_or_eq_true ((lX (dG:List (Int×Bool)) x4).getD false) with hc3|hc3
      ·
       replace hg1:=(it hc3).symm.trans hg1
       refine Gk hE hc3 rfl fun a hE=>Gk hE hc3 rfl fun a hE=>Gk hE hc3 rfl fun a hE=>Gk hE hc3 rfl fun a hE=>Gk hE hc3 rfl fun a hE=>Gk hE hc3 rfl fun a hE=>Gk hE hc3 rfl fun a hE=>Gk hE hc3 rfl fun a hE=>pk1 hE hc3 rfl rfl rfl rfl fun a hE=>?_
       obtain rfl:=Option.some.inj hg1
       exact aC ⟨hE.cut ⟨rfl,rfl,rfl,rfl,rfl,rfl,rfl,rfl,rfl,rfl,trivial⟩,hp⟩
      replace hg1:=(ie hc3).symm.trans hg1
      refine Gs hE hc3 rfl rfl fun a hE=>Gs hE hc3 rfl rfl fun a hE=>G hE hp hc3 rfl (xf hE xJ rfl rfl) fun a hE=>G hE hp hc3 rfl (xl hE bK 5 rfl rfl rfl rfl) fun a hE=>Gs hE hc3 rfl rfl fun a hE=>?_
      obtain⟨x5,ex5,hg1⟩:=bnd hg1
      obtain⟨b5,b5o,b5r,b5v,b5f⟩:=aA.at hp 7 rfl aY ex5
      refine G hE hp hc3 rfl (aV rfl hE rfl rfl b5r) fun a hE=>G hE hp hc3 rfl (aZ rfl hE rfl (fun w hw=>bH bG (b5f 0 _ rfl _ _ w (hw.get 7 rfl)))) fun a hE=>Gs hE hc3 rfl rfl fun a hE=>pk0 hE hc3 rfl rfl rfl rfl fun a hE=>?_
      obtain rfl:=Option.some.inj hg1
      exact aC ⟨hE.cut ⟨rfl,rfl,rfl,rfl,rfl,rfl,rfl,rfl,rfl,rfl,trivial⟩,hp⟩
     rintro a w ⟨hE,hp⟩
     refine aC ?_
     refine dQ hE rfl (fun hc4=>?_) (fun hc4=>?_)
     ·replace hj2:=(it hc4).symm.trans hj2
      refine eU ?_
      obtain rfl:=Option.some.inj hj2
      exact⟨_,hE.cut ⟨rfl,rfl,rfl,rfl,rfl,rfl,rfl,trivial⟩,hp⟩
     replace hj2:=(ie hc4).symm.trans hj2
     refine bT (aH ?_)
     refine aB (S hE 2 rfl fun a hE=>?_)
     refine s_mput kt3 X0 (wk0 rfl) rfl hE hp rfl 4 (k:=x4) (v:=true) rfl rfl rfl rfl ?_
     intro w hp
     have hp:=r16 hp
     refine aC (aH ?_)
     refine mY (by kernel_rfl) (by kernel_rfl) hp ?_
     refine Sq hE 2 rfl fun a hE=>Vq hE rfl (xf hE xJ rfl rfl) fun a hE=>Vq hE rfl (xl hE bK 5 rfl rfl rfl rfl) fun a hE=>Sq hE 1 rfl fun a hE=>?_
     obtain⟨x6,ex6,hj2⟩:=bnd hj2
     obtain⟨b6,b6o,b6r,b6v,b6f⟩:=aA.at hp 7 rfl aY ex6
     refine Vq hE rfl (aV rfl hE rfl rfl b6r) fun a hE=>Vq hE rfl (aZ rfl hE rfl (fun w hw=>bH bG (b6f 0 _ rfl _ _ w (hw.get 7 rfl)))) fun a hE=>Sq hE 2 rfl fun a hE=>Vq hE rfl (xf hE oI rfl rfl) fun a hE=>Vq hE rfl (xl hE bK 5 rfl rfl rfl rfl) fun a hE=>Vq hE rfl (dJ rfl hE rfl (aA.len hp 11 rfl aY)) fun a hE=>Sq hE 1 rfl fun a hE=>?_
     refine oW fun w hp=>?_
     have hp:=r16 hp
     have hE:=hE.cut (E':=[(0,(.pointer (some ⟨bp0,0,none⟩))),(6,w14),(7,(.map (some b2))),(8,(.int .i64 (p0.trail.length:Int))),(11,(.int .i64 x3)),(30,(Sl.v (Pc.s pc1))),(31,(.int .i64 (x2.length:Int))),(32,(.int .i64 bC)),(65,(.bool (!decide (x6=(p0.starts.length:Int)))))]) ⟨rfl,rfl,rfl,rfl,rfl,rfl,rfl,rfl,rfl,trivial⟩
     refine dQ hE rfl (fun hc5=>?_) (fun hc5=>?_)
     ·replace hj2:=(it hc5).symm.trans hj2
      refine aB (S hE 2 rfl fun a hE=>?_)
      refine jM (wk0 rfl) rfl rfl hE hp rfl [(0,(.int .i64 x3))] ⟨⟨rfl,rfl⟩,trivial⟩ [(.int .i64 x3)] 3 (fun w=>by simp[Instr.buildSlice,Instr.fill,Value.cells,go_sem]) ?_
      intro a w b7 hE hp
      have hp:=r17 hp
      obtain⟨x7,ex7,hj2⟩:=bnd hj2
      refine lZ (wk0 rfl) rfl rfl hE hp rfl aY rfl rfl 1 rfl rfl (l2:=[x3]) rfl (fun j u hj=>by have:=Hp.cN 0 rfl 0 _ (bY rfl) w hp j u hj;simpa using this) ex7 ?_
      intro v1 a w hE hp
      have hp:=r17 hp
      refine S hE 1 rfl fun a hE=>aC ?_
      obtain rfl:=Option.some.inj hj2
      exact⟨_,hE.cut ⟨rfl,rfl,rfl,rfl,rfl,rfl,rfl,trivial⟩,(hp.drop)⟩
     replace hj2:=(ie hc5).symm.trans hj2
     refine bT ?_
     obtain rfl:=Option.some.inj hj2
     exact⟨_,hE.cut ⟨rfl,rfl,rfl,rfl,rfl,rfl,rfl,trivial⟩,hp⟩
    rintro a w ⟨w14,hE,hp⟩
    refine aB ?_
    obtain⟨x8,ex8,hl1⟩:=bnd hl1
    refine V hE hp rfl (dS rfl hE rfl rfl (bF ex8)) fun a hE=>S hE 1 rfl fun a hE=>aC ?_
    exact⟨_,(Option.some.inj hl1).symm,_,hE.cut ⟨rfl,rfl,rfl,rfl,rfl,rfl,rfl,trivial⟩,hp⟩
   replace hl1:=(ie hc2).symm.trans hl1
   refine eU ?_
   refine⟨_,(Option.some.inj hl1).symm,fun hbb=>?_⟩
   subst hbb
   exact⟨_,hE.cut ⟨rfl,rfl,rfl,rfl,trivial⟩,hp⟩
  rintro a w ⟨w14,hE,hp⟩
  refine aH (aB ?_)
  refine S hE 1 rfl fun a hE=>?_
  obtain⟨x9,ex9,hj1⟩:=bnd hj1
  refine V hE hp rfl (sW rfl hE rfl rfl (bF ex9)) fun a hE=>S hE 1 rfl fun a hE=>aC (aH ?_)
  obtain⟨b8,hc6,hj1⟩:=bnd hj1
  refine dN (fun a w=>Env 165 [(0,(.pointer (some ⟨bp0,0,none⟩))),(6,w14),(7,(.map (some b2))),(8,(.int .i64 b8))] a∧Hp Z ρ (aA 3 w14 b3.1::aA 3 (Sl.v (Pc.s pc1)) x2::Pt (Pc.b pc1) (.cells #[(Sl.v (Pc.s pc1))] 78 (0,0))::bZ 61 71 (78,3) aO aF (p0.watches:(List (List Nat)×List (List Int))) none (some ((x1,pc1):Nat×Pc))::pJ b2 (b3.2:List (Int×Bool))::Pt bp0 (.cells #[aU,aW,aX,aS,aO,aT,aP,(.int .i64 p0.head),(.pointer (some ⟨aN,0,none⟩)),aQ,(.int .i64 p0.literals),(.bool p0.broken)] 65 (0,0))::aA 3 aU p0.value::aA 3 aW p0.level::aA 71 aX (List.map (hq (aF).2) (p0.reason:List (Option Nat)))::aA 3 aS p0.saved::aA 3 aT p0.trail::aA 3 aP p0.starts::Pt aN (.cells #[aK,aJ] 68 (0,0))::aA 3 aK p0.queue.list::aA 4 aJ p0.queue.isin::bQ 25 3 aQ bD (p0.proof:(List (List Int)))::L) w) ?_ ?_
  ·refine fV hc6 (fun s a w=>Env 165 [(0,(.pointer (some ⟨bp0,0,none⟩))),(6,w14),(7,(.map (some b2))),(8,(.int .i64 s))] a∧Hp Z ρ (aA 3 w14 b3.1::aA 3 (Sl.v (Pc.s pc1)) x2::Pt (Pc.b pc1) (.cells #[(Sl.v (Pc.s pc1))] 78 (0,0))::bZ 61 71 (78,3) aO aF (p0.watches:(List (List Nat)×List (List Int))) none (some ((x1,pc1):Nat×Pc))::pJ b2 (b3.2:List (Int×Bool))::Pt bp0 (.cells #[aU,aW,aX,aS,aO,aT,aP,(.int .i64 p0.head),(.pointer (some ⟨aN,0,none⟩)),aQ,(.int .i64 p0.literals),(.bool p0.broken)] 65 (0,0))::aA 3 aU p0.value::aA 3 aW p0.level::aA 71 aX (List.map (hq (aF).2) (p0.reason:List (Option Nat)))::aA 3 aS p0.saved::aA 3 aT p0.trail::aA 3 aP p0.starts::Pt aN (.cells #[aK,aJ] 68 (0,0))::aA 3 aK p0.queue.list::aA 4 aJ p0.queue.isin::bQ 25 3 aQ bD (p0.proof:(List (List Int)))::L) w) ?_ ?_
   ·exact⟨hE.cut ⟨rfl,rfl,rfl,rfl,trivial⟩,hp⟩
   rintro dV st a w ⟨hE,hp⟩ hl2
   unfold fZ at hl2
   refine aH (aH ?_)
   refine aB (S hE 3 rfl fun a hE=>?_)
   refine V hE hp rfl (xf hE mX rfl rfl) fun a hE=>V hE hp rfl (xl hE bK 5 rfl rfl rfl rfl) fun a hE=>S hE 1 rfl fun a hE=>?_
   obtain⟨x10,ex10,hl2⟩:=bnd hl2
   obtain⟨b9,b9o,b9r,b9v,b9f⟩:=aA.at hp 10 rfl aY ex10
   refine V hE hp rfl (aV rfl hE rfl rfl b9r) fun a hE=>V hE hp rfl (aZ rfl hE rfl (fun w hw=>bH bG (b9f 0 _ rfl _ _ w (hw.get 10 rfl)))) fun a hE=>?_
   obtain⟨x11,ex11,hl2⟩:=bnd hl2
   refine s_call (wk0 rfl) rfl rfl hE rfl [(.int .i64 x10)] ⟨rfl,trivial⟩ zH (fC x10 hp x11 ex11) Ret.ret ?_
   intro v a w hR hE
   obtain⟨rfl,hp⟩:=Ret.of hR
   have hp:=r16 hp
   refine V hE hp rfl (v:=(.bool ((lX (b3.2:List (Int×Bool)) x11).getD false))) (aF8 (zd:=(false:Bool)) kt3 X0 zero4 rfl hE 4 (k:=x11) rfl rfl rfl) fun a hE=>S hE 1 rfl fun a hE=>aC ?_
   refine dQ hE rfl (fun hc7=>?_) (fun hc7=>?_)
   ·replace hl2:=(it hc7).symm.trans hl2
    refine bT (dL ?_)
    refine aB (S hE 1 rfl fun a hE=>?_)
    obtain⟨x12,ex12,hl2⟩:=bnd hl2
    refine V hE hp rfl (sW rfl hE rfl rfl (bF ex12)) fun a hE=>S hE 1 rfl fun a hE=>aC ?_
    exact⟨_,(Option.some.inj hl2).symm,hE.cut ⟨rfl,rfl,rfl,rfl,trivial⟩,hp⟩
   replace hl2:=(ie hc7).symm.trans hl2
   refine eU ?_
   refine⟨_,(Option.some.inj hl2).symm,fun hbb=>?_⟩
   subst hbb
   exact⟨hE.cut ⟨rfl,rfl,rfl,rfl,trivial⟩,hp⟩
  rintro a w ⟨hE,hp⟩
  refine aH (aB ?_)
  refine S hE 2 rfl fun a hE=>V hE hp rfl (xf hE mX rfl rfl) fun a hE=>V hE hp rfl (xl hE bK 5 rfl rfl rfl rfl) fun a hE=>S hE 1 rfl fun a hE=>?_
  obtain⟨x13,ex13,hj1⟩:=bnd hj1
  obtain⟨b10,b10o,b10r,b10v,b10f⟩:=aA.at hp 10 rfl aY ex13
  refine V hE hp rfl (aV rfl hE rfl rfl b10r) fun a hE=>V hE hp rfl (aZ rfl hE rfl (fun w hw=>bH bG (b10f 0 _ rfl _ _ w (hw.get 10 rfl)))) fun a hE=>S hE 1 rfl fun a hE=>aC ?_
  have hE:=hE.cut (E':=[(0,(.pointer (some ⟨bp0,0,none⟩))),(6,w14),(7,(.map (some b2))),(8,(.int .i64 b8)),(13,(.int .i64 x13))]) ⟨rfl,rfl,rfl,rfl,rfl,trivial⟩
  refine aH (aH ?_)
  refine mY (by kernel_rfl) (by kernel_rfl) hp ?_
  refine Sq hE 2 rfl fun a hE=>Vq hE rfl (xf hE xK rfl rfl) fun a hE=>Vq hE rfl (xl hE lL 5 rfl rfl rfl rfl) fun a hE=>Sq hE 1 rfl fun a hE=>?_
  obtain⟨x14,ex14,hj1⟩:=bnd hj1
  refine wG (wk0 rfl) rfl rfl hE rfl [(.int .i64 x13)] ⟨rfl,trivial⟩ zH (v:=(.int .i64 x14)) (fun w hw=>Calls.mono (fC x13 hw x14 ex14) fun e w' ⟨v,he,hv,hh⟩=>⟨by rw[he,hv],hh⟩) ?_
  intro a hE
  obtain⟨x15,ex15,hj1⟩:=bnd hj1
  obtain⟨b11,b11o,b11r,b11v,b11f⟩:=OwnQ.at hp 8 rfl oH ex15
  refine Vq hE rfl (aV rfl hE rfl rfl b11r) fun a hE=>Vq hE rfl (aZ rfl hE rfl (fun w hw=>bH F9 (b11f 0 _ rfl _ _ w (hw.get 8 rfl)))) fun a hE=>Vq hE rfl (v:=(.bool x15.isNone)) (ex_qnil (e:=x15) (au:=(aF).2) pty71 rfl hE rfl rfl) fun a hE=>?_
  refine oW fun w hp=>?_
  have hp:=r16 hp
  refine dQ hE rfl (fun hc8=>?_) (fun hc8=>?_)
  ·replace hj1:=(it hc8).symm.trans hj1
   refine aH (aB ?_)
   refine S hE 2 rfl fun a hE=>?_
   obtain⟨x16,ex16,hj1⟩:=bnd hj1
   refine V hE hp rfl (nZ rfl hE rfl (bF ex16)) fun a hE=>?_
   obtain⟨x17,ex17,hj1⟩:=bnd hj1
   obtain⟨b12,b12o,b12r,b12v,b12f⟩:=aA.at hp 0 rfl aY ex17
   refine V hE hp rfl (aV rfl hE rfl rfl b12r) fun a hE=>?_
   refine lY (wk0 rfl) rfl hE hp rfl rfl rfl 0 rfl ex17 b12v 0 (e':=x16) bG.size_ rfl rfl rfl ⟨rfl,rfl⟩ ?_
   intro w hp
   have hp:=r16 hp
   refine aC ?_
   refine eU ?_
   obtain⟨hp,hbk3⟩:=bZ.back0 (Tc:=(78,3)) ex2 (((hp.get 3 rfl).get 3 rfl).get 3 rfl)
   have hp:=r14 hp
   obtain rfl:=Option.some.inj hj1
   exact⟨_,hE.cut ⟨rfl,rfl,trivial⟩,hp⟩
  replace hj1:=(ie hc8).symm.trans hj1
  refine bT (aH ?_)
  refine aB (S hE 1 rfl fun a hE=>?_)
  refine aC (aH ?_)
  obtain⟨x18,ex18,hj1⟩:=bnd hj1
  obtain⟨x19,ex19,hj1⟩:=bnd hj1
  obtain⟨x20,ex20,hj1⟩:=bnd hj1
  obtain⟨x21,ex21,hj1⟩:=bnd hj1
  have hp:=hp.drew
  refine kC ([([],At0 Z ρ),([],At1 Z ρ (Pt bp0 (.cells #[aU,aW,aX,aS,aO,aT,aP,(.int .i64 p0.head),(.pointer (some ⟨aN,0,none⟩)),aQ,(.int .i64 p0.literals),(.bool p0.broken)] 65 (0,0)))),([],At1 Z ρ (aA 71 aX (List.map (hq (aF).2) (p0.reason:List (Option Nat)))))]:Facts) (fun a w=>∃ypc91:Pc,Env 165 [(0,(.pointer (some ⟨bp0,0,none⟩))),(6,w14),(7,(.map (some b2))),(8,(.int .i64 b8)),(9,(.slice none 0 0)),(13,(.int .i64 x13)),(116,(Sl.v (Pc.s ypc91))),(117,(.int .i64 (x21.length:Int))),(118,(.int .i64 0))] a∧Hp Z ρ (aA 3 (Sl.v (Pc.s ypc91)) x21::Pt (Pc.b ypc91) (.cells #[(Sl.v (Pc.s ypc91))] 78 (0,0))::bZ 61 71 (78,3) aO aF (p0.watches:(List (List Nat)×List (List Int))) none (some ((x20,ypc91):Nat×Pc))::aA 3 w14 b3.1::pJ b2 (b3.2:List (Int×Bool))::Pt bp0 (.cells #[aU,aW,aX,aS,aO,aT,aP,(.int .i64 p0.head),(.pointer (some ⟨aN,0,none⟩)),aQ,(.int .i64 p0.literals),(.bool p0.broken)] 65 (0,0))::aA 3 aU p0.value::aA 3 aW p0.level::aA 71 aX (List.map (hq (aF).2) (p0.reason:List (Option Nat)))::aA 3 aS p0.saved::aA 3 aT p0.trail::aA 3 aP p0.starts::Pt aN (.cells #[aK,aJ] 68 (0,0))::aA 3 aK p0.queue.list::aA 4 aJ p0.queue.isin::bQ 25 3 aQ bD (p0.proof:(List (List Int)))::L) w) (by kernel_rfl) ⟨fun _=>⟨_,hp⟩,fun _=>⟨_,(hp.get 5 rfl)⟩,fun _=>⟨_,(hp.get 8 rfl)⟩,trivial⟩ (fun hS=>?_) ?_
  ·
   generalize w.drew=w at hS hp⊢
   refine Ts [0,1] hE hS rfl rfl (by kernel_rfl) fun a hE hS=>T0 2 hE hS rfl rfl rfl (by kernel_rfl) (fun _=>xf hE xK rfl rfl) fun a hE hS=>T 3 1 hE hS rfl rfl rfl (by kernel_rfl) (fun _=>xl hE lL 0 rfl rfl rfl rfl) fun a hE hS=>Ts [4,12] hE hS rfl rfl (by kernel_rfl) fun a hE hS=>?_
   refine W1 5 (by kernel_rfl) rfl ?_
   refine s_call (wk0 rfl) rfl rfl hE rfl [(.int .i64 x13)] ⟨rfl,trivial⟩ zH (fC x13 hp x18 ex18) Ret.ret ?_
   intro v a w hR hE
   obtain⟨rfl,hp⟩:=Ret.of hR
   have hp:=r16 hp
   refine aC (aI ⟨gp0 hp,gp 5 hp rfl,gp 8 hp rfl,trivial⟩ fun hS=>?_)
   obtain⟨b14,b14o,b14r,b14v,b14f⟩:=OwnQ.at hp 8 rfl oH ex19
   refine T0 6 hE hS rfl rfl rfl (by kernel_rfl) (fun _=>aV rfl hE rfl rfl b14r) fun a hE hS=>T 7 2 hE hS rfl rfl rfl (by kernel_rfl) (fun _=>aZ rfl hE rfl (fun w hw=>bH F9 (b14f 0 _ rfl _ _ w (hw.get 0 rfl)))) fun a hE hS=>?_
   obtain⟨hp,hbk5⟩:=bZ.back0 (Tc:=(78,3)) ex2 (((hp.get 3 rfl).get 3 rfl).get 3 rfl)
   have hp:=r14 hp
   rw[ex20,pqv_hq] at hE
   obtain⟨pc3,pc3h,hp⟩:=bZ.take ex21 (hp.get 0 rfl)
   rw[pc3h] at hE
   have hp:=r16 hp
   refine Ts [8] hE hS rfl rfl (by kernel_rfl) fun a hE hS=>T0 9 hE hS rfl rfl rfl (by kernel_rfl) (fun _=>xf hE iQ rfl rfl) fun a hE hS=>?_
   refine W1 10 (by kernel_rfl) rfl ?_
   refine V hE hp rfl (xl hE bK 1 rfl rfl rfl rfl) fun a hE=>?_
   refine aC (aI ⟨gp0 hp,gp 5 hp rfl,gp 8 hp rfl,trivial⟩ fun hS=>?_)
   refine T0 11 hE hS rfl rfl rfl (by kernel_rfl) (fun _=>dJ rfl hE rfl (aA.len hp 0 rfl aY)) fun a hE hS=>?_
   exact dZ (by kernel_rfl) ⟨_,hE.cut ⟨rfl,rfl,rfl,rfl,rfl,rfl,rfl,rfl,rfl,trivial⟩,hp⟩
  rintro a w ⟨ypc91,hE,hp⟩
  have hp:=hp.emp (aA.nil (α:=Int) 3)
  have hp:=r17 hp
  obtain⟨b15,hc9,hj1⟩:=bnd hj1
  refine dN (fun a w=>∃(w95:Value),Env 165 [(0,(.pointer (some ⟨bp0,0,none⟩))),(6,w14),(7,(.map (some b2))),(8,(.int .i64 b8)),(9,w95)] a∧Hp Z ρ (aA 3 w95 b15::aA 3 (Sl.v (Pc.s ypc91)) x21::Pt (Pc.b ypc91) (.cells #[(Sl.v (Pc.s ypc91))] 78 (0,0))::bZ 61 71 (78,3) aO aF (p0.watches:(List (List Nat)×List (List Int))) none (some ((x20,ypc91):Nat×Pc))::aA 3 w14 b3.1::pJ b2 (b3.2:List (Int×Bool))::Pt bp0 (.cells #[aU,aW,aX,aS,aO,aT,aP,(.int .i64 p0.head),(.pointer (some ⟨aN,0,none⟩)),aQ,(.int .i64 p0.literals),(.bool p0.broken)] 65 (0,0))::aA 3 aU p0.value::aA 3 aW p0.level::aA 71 aX (List.map (hq (aF).2) (p0.reason:List (Option Nat)))::aA 3 aS p0.saved::aA 3 aT p0.trail::aA 3 aP p0.starts::Pt aN (.cells #[aK,aJ] 68 (0,0))::aA 3 aK p0.queue.list::aA 4 aJ p0.queue.isin::bQ 25 3 aQ bD (p0.proof:(List (List Int)))::L) w) ?_ ?_
  ·refine fV hc9 (fun s a w=>∃(w95:Value),Env 165 [(0,(.pointer (some ⟨bp0,0,none⟩))),(6,w14),(7,(.map (some b2))),(8,(.int .i64 b8)),(9,w95),(13,(.int .i64 x13)),(116,(Sl.v (Pc.s ypc91))),(117,(.int .i64 (x21.length:Int))),(118,(.int .i64 s.1))] a∧Hp Z ρ (aA 3 w95 s.2::aA 3 (Sl.v (Pc.s ypc91)) x21::Pt (Pc.b ypc91) (.cells #[(Sl.v (Pc.s ypc91))] 78 (0,0))::bZ 61 71 (78,3) aO aF (p0.watches:(List (List Nat)×List (List Int))) none (some ((x20,ypc91):Nat×Pc))::aA 3 w14 b3.1::pJ b2 (b3.2:List (Int×Bool))::Pt bp0 (.cells #[aU,aW,aX,aS,aO,aT,aP,(.int .i64 p0.head),(.pointer (some ⟨aN,0,none⟩)),aQ,(.int .i64 p0.literals),(.bool p0.broken)] 65 (0,0))::aA 3 aU p0.value::aA 3 aW p0.level::aA 71 aX (List.map (hq (aF).2) (p0.reason:List (Option Nat)))::aA 3 aS p0.saved::aA 3 aT p0.trail::aA 3 aP p0.starts::Pt aN (.cells #[aK,aJ] 68 (0,0))::aA 3 aK p0.queue.list::aA 4 aJ p0.queue.isin::bQ 25 3 aQ bD (p0.proof:(List (List Int)))::L) w) ?_ ?_
   ·exact⟨_,hE.cut ⟨rfl,rfl,rfl,rfl,rfl,rfl,rfl,rfl,rfl,trivial⟩,hp⟩
   rintro⟨qA,lp3_1⟩ st a w ⟨w95,hE,hp⟩ hl3
   dsimp only at hE hp hl3
   unfold gB at hl3
   refine aH (aB ?_)
   refine S hE 1 rfl fun a hE=>aC (aH ?_)
   refine dQ hE rfl (fun hc10=>?_) (fun hc10=>?_)
   ·replace hl3:=(it hc10).symm.trans hl3
    refine bT (aH ?_)
    refine dL (aH ?_)
    refine aB ?_
    obtain⟨x22,ex22,hl3⟩:=bnd hl3
    obtain⟨b16,b16o,b16r,b16v,b16f⟩:=aA.at hp 1 rfl aY ex22
    refine V hE hp rfl (aV rfl hE rfl rfl b16r) fun a hE=>V hE hp rfl (aZ rfl hE rfl (fun w hw=>bH bG (b16f 0 _ rfl _ _ w (hw.get 1 rfl)))) fun a hE=>S hE 1 rfl fun a hE=>aC (aH ?_)
    refine aB (S hE 3 rfl fun a hE=>?_)
    refine aC ?_
    refine dQ hE rfl (fun hc11=>?_) (fun hc11=>?_)
    ·replace hl3:=(it hc11).symm.trans hl3
     refine aB (S hE 2 rfl fun a hE=>?_)
     refine jM (wk0 rfl) rfl rfl hE hp rfl [(0,(.int .i64 x22))] ⟨⟨rfl,rfl⟩,trivial⟩ [(.int .i64 x22)] 3 (fun w=>by simp[Instr.buildSlice,Instr.fill,Value.cells,go_sem]) ?_
     intro a w b17 hE hp
     have hp:=r18 hp
     obtain⟨x23,ex23,hl3⟩:=bnd hl3
     refine lZ (wk0 rfl) rfl rfl hE hp rfl aY rfl rfl 1 rfl rfl (l2:=[x22]) rfl (fun j u hj=>by have:=Hp.cN 0 rfl 0 _ (bY rfl) w hp j u hj;simpa using this) ex23 ?_
     intro v2 a w hE hp
     have hp:=r18 hp
     refine S hE 1 rfl fun a hE=>aC (aB ?_)
     obtain⟨x24,ex24,hl3⟩:=bnd hl3
     refine V hE hp rfl (dS rfl hE rfl rfl (bF ex24)) fun a hE=>S hE 1 rfl fun a hE=>aC ?_
     exact⟨_,(Option.some.inj hl3).symm,_,hE.cut ⟨rfl,rfl,rfl,rfl,rfl,rfl,rfl,rfl,rfl,trivial⟩,(hp.drop)⟩
    replace hl3:=(ie hc11).symm.trans hl3
    refine bT (aB ?_)
    obtain⟨x25,ex25,hl3⟩:=bnd hl3
    refine V hE hp rfl (dS rfl hE rfl rfl (bF ex25)) fun a hE=>S hE 1 rfl fun a hE=>aC ?_
    have hE:=hE.cut (E':=[(0,(.pointer (some ⟨bp0,0,none⟩))),(6,w14),(7,(.map (some b2))),(8,(.int .i64 b8)),(9,w95),(13,(.int .i64 x13)),(116,(Sl.v (Pc.s ypc91))),(117,(.int .i64 (x21.length:Int))),(118,(.int .i64 x25))]) ⟨rfl,rfl,rfl,rfl,rfl,rfl,rfl,rfl,rfl,trivial⟩
    exact⟨_,(Option.some.inj hl3).symm,_,hE.cut ⟨rfl,rfl,rfl,rfl,rfl,rfl,rfl,rfl,rfl,trivial⟩,hp⟩
   replace hl3:=(ie hc10).symm.trans hl3
   refine eU ?_
   refine⟨_,(Option.some.inj hl3).symm,fun hbb=>?_⟩
   subst hbb
   exact⟨_,hE.cut ⟨rfl,rfl,rfl,rfl,rfl,trivial⟩,hp⟩
  rintro a w ⟨w95,hE,hp⟩
  obtain⟨hp,hbk6⟩:=bZ.back0 (Tc:=(78,3)) ex21 (((hp.get 3 rfl).get 3 rfl).get 3 rfl)
  have hp:=r15 hp
  obtain⟨b18,hc12,hj1⟩:=bnd hj1
  refine in_loop hc12 (fun s a w=>∃(w95:Value) (w14:Value),Env 165 [(0,(.pointer (some ⟨bp0,0,none⟩))),(6,w14),(7,(.map (some b2))),(8,(.int .i64 s.1)),(9,w95)] a∧Hp Z ρ (bZ 61 71 (78,3) aO aF (p0.watches:(List (List Nat)×List (List Int))) none none::aA 3 w95 s.2.1::aA 3 w14 s.2.2.1::pJ b2 (s.2.2.2:List (Int×Bool))::Pt bp0 (.cells #[aU,aW,aX,aS,aO,aT,aP,(.int .i64 p0.head),(.pointer (some ⟨aN,0,none⟩)),aQ,(.int .i64 p0.literals),(.bool p0.broken)] 65 (0,0))::aA 3 aU p0.value::aA 3 aW p0.level::aA 71 aX (List.map (hq (aF).2) (p0.reason:List (Option Nat)))::aA 3 aS p0.saved::aA 3 aT p0.trail::aA 3 aP p0.starts::Pt aN (.cells #[aK,aJ] 68 (0,0))::aA 3 aK p0.queue.list::aA 4 aJ p0.queue.isin::bQ 25 3 aQ bD (p0.proof:(List (List Int)))::L) w) ?_ ?_
  ·exact⟨_,_,hE.cut ⟨rfl,rfl,rfl,rfl,rfl,trivial⟩,hp⟩
  rintro⟨lp4_0,uG,lp4_2,lp4_3⟩ st a w ⟨w95,w14,hE,hp⟩ hl4
  dsimp only at hE hp hl4
  unfold gG at hl4
  refine dL (aH ?_)
  refine aH (aB ?_)
  refine S hE 1 rfl fun a hE=>V hE hp rfl (dJ rfl hE rfl (aA.len hp 1 rfl aY)) fun a hE=>S hE 1 rfl fun a hE=>aC ?_
  obtain⟨b19,hc13,hl4⟩:=bnd hl4
  refine dN (fun a w=>∃(w14:Value),Env 165 [(0,(.pointer (some ⟨bp0,0,none⟩))),(6,w14),(7,(.map (some b2))),(8,(.int .i64 lp4_0))] a∧Hp Z ρ (bZ 61 71 (78,3) aO aF (p0.watches:(List (List Nat)×List (List Int))) none none::aA 3 w95 uG::aA 3 w14 b19.1::pJ b2 (b19.2:List (Int×Bool))::Pt bp0 (.cells #[aU,aW,aX,aS,aO,aT,aP,(.int .i64 p0.head),(.pointer (some ⟨aN,0,none⟩)),aQ,(.int .i64 p0.literals),(.bool p0.broken)] 65 (0,0))::aA 3 aU p0.value::aA 3 aW p0.level::aA 71 aX (List.map (hq (aF).2) (p0.reason:List (Option Nat)))::aA 3 aS p0.saved::aA 3 aT p0.trail::aA 3 aP p0.starts::Pt aN (.cells #[aK,aJ] 68 (0,0))::aA 3 aK p0.queue.list::aA 4 aJ p0.queue.isin::bQ 25 3 aQ bD (p0.proof:(List (List Int)))::L) w) ?_ ?_
  ·refine fV hc13 (fun s a w=>∃(w14:Value),Env 165 [(0,(.pointer (some ⟨bp0,0,none⟩))),(6,w14),(7,(.map (some b2))),(8,(.int .i64 lp4_0)),(30,w95),(31,(.int .i64 (uG.length:Int))),(32,(.int .i64 s.1))] a∧Hp Z ρ (bZ 61 71 (78,3) aO aF (p0.watches:(List (List Nat)×List (List Int))) none none::aA 3 w95 uG::aA 3 w14 s.2.1::pJ b2 (s.2.2:List (Int×Bool))::Pt bp0 (.cells #[aU,aW,aX,aS,aO,aT,aP,(.int .i64 p0.head),(.pointer (some ⟨aN,0,none⟩)),aQ,(.int .i64 p0.literals),(.bool p0.broken)] 65 (0,0))::aA 3 aU p0.value::aA 3 aW p0.level::aA 71 aX (List.map (hq (aF).2) (p0.reason:List (Option Nat)))::aA 3 aS p0.saved::aA 3 aT p0.trail::aA 3 aP p0.starts::Pt aN (.cells #[aK,aJ] 68 (0,0))::aA 3 aK p0.queue.list::aA 4 aJ p0.queue.isin::bQ 25 3 aQ bD (p0.proof:(List (List Int)))::L) w) ?_ ?_
   ·exact⟨_,hE.cut ⟨rfl,rfl,rfl,rfl,rfl,rfl,rfl,trivial⟩,hp⟩
   rintro⟨lp5_0,lp5_1,lp5_2⟩ st a w ⟨w14,hE,hp⟩ hl5
   dsimp only at hE hp hl5
   unfold oC at hl5
   refine aH (aB ?_)
   refine S hE 1 rfl fun a hE=>aC (aH ?_)
   refine dQ hE rfl (fun hc14=>?_) (fun hc14=>?_)
   ·replace hl5:=(it hc14).symm.trans hl5
    refine bT (aH ?_)
    obtain⟨j3,hj3,hl5⟩:=bnd hl5
    refine dN (fun a w=>∃(w14:Value),Env 165 [(0,(.pointer (some ⟨bp0,0,none⟩))),(6,w14),(7,(.map (some b2))),(8,(.int .i64 lp4_0)),(30,w95),(31,(.int .i64 (uG.length:Int))),(32,(.int .i64 lp5_0))] a∧Hp Z ρ (bZ 61 71 (78,3) aO aF (p0.watches:(List (List Nat)×List (List Int))) none none::aA 3 w95 uG::aA 3 w14 j3.1::pJ b2 (j3.2:List (Int×Bool))::Pt bp0 (.cells #[aU,aW,aX,aS,aO,aT,aP,(.int .i64 p0.head),(.pointer (some ⟨aN,0,none⟩)),aQ,(.int .i64 p0.literals),(.bool p0.broken)] 65 (0,0))::aA 3 aU p0.value::aA 3 aW p0.level::aA 71 aX (List.map (hq (aF).2) (p0.reason:List (Option Nat)))::aA 3 aS p0.saved::aA 3 aT p0.trail::aA 3 aP p0.starts::Pt aN (.cells #[aK,aJ] 68 (0,0))::aA 3 aK p0.queue.list::aA 4 aJ p0.queue.isin::bQ 25 3 aQ bD (p0.proof:(List (List Int)))::L) w) ?_ ?_
    ·
     refine aH (aB ?_)
     obtain⟨x26,ex26,hj3⟩:=bnd hj3
     obtain⟨b20,b20o,b20r,b20v,b20f⟩:=aA.at hp 1 rfl aY ex26
     refine V hE hp rfl (aV rfl hE rfl rfl b20r) fun a hE=>V hE hp rfl (aZ rfl hE rfl (fun w hw=>bH bG (b20f 0 _ rfl _ _ w (hw.get 1 rfl)))) fun a hE=>S hE 1 rfl fun a hE=>aC (aH ?_)
     refine aB (S hE 1 rfl fun a hE=>?_)
     obtain⟨x27,ex27,hj3⟩:=bnd hj3
     refine s_call (wk0 rfl) rfl rfl hE rfl [(.int .i64 x26)] ⟨rfl,trivial⟩ zH (fC x26 hp x27 ex27) Ret.ret ?_
     intro v a w hR hE
     obtain⟨rfl,hp⟩:=Ret.of hR
     have hp:=r15 hp
     refine S hE 1 rfl fun a hE=>aC (aH ?_)
     refine aH (aB ?_)
     refine S hE 2 rfl fun a hE=>V hE hp rfl (v:=(.bool ((lX (lp5_2:List (Int×Bool)) x27).getD false))) (aF8 (zd:=(false:Bool)) kt3 X0 zero4 rfl hE 3 (k:=x27) rfl rfl rfl) fun a hE=>S hE 1 rfl fun a hE=>?_
     obtain⟨m2,hg2,hj3⟩:=bnd hj3
     refine kV [_,_,_,_,_,_,_,_,_] (fun a w=>Env 165 [(50,(.bool m2)),(0,(.pointer (some ⟨bp0,0,none⟩))),(6,w14),(7,(.map (some b2))),(8,(.int .i64 lp4_0)),(11,(.int .i64 x26)),(12,(.int .i64 x27)),(30,w95),(31,(.int .i64 (uG.length:Int))),(32,(.int .i64 lp5_0))] a∧Hp Z ρ (bZ 61 71 (78,3) aO aF (p0.watches:(List (List Nat)×List (List Int))) none none::aA 3 w95 uG::aA 3 w14 lp5_1::pJ b2 (lp5_2:List (Int×Bool))::Pt bp0 (.cells #[aU,aW,aX,aS,aO,aT,aP,(.int .i64 p0.head),(.pointer (some ⟨aN,0,none⟩)),aQ,(.int .i64 p0.literals),(.bool p0.broken)] 65 (0,0))::aA 3 aU p0.value::aA 3 aW p0.level::aA 71 aX (List.map (hq (aF).2) (p0.reason:List (Option Nat)))::aA 3 aS p0.saved::aA 3 aT p0.trail::aA 3 aP p0.starts::Pt aN (.cells #[aK,aJ] 68 (0,0))::aA 3 aK p0.queue.list::aA 4 aJ p0.queue.isin::bQ 25 3 aQ bD (p0.proof:(List (List Int)))::L) w) ?_ ?_
     ·rcases Bool.eq_false_or_eq_true ((lX (lp5_2:List (Int×Bool)) x27).getD false) with hc15|hc15
      ·
       replace hg2:=(it hc15).symm.trans hg2
       refine Gk hE hc15 rfl fun a hE=>Gk hE hc15 rfl fun a hE=>Gk hE hc15 rfl fun a hE=>Gk hE hc15 rfl fun a hE=>Gk hE hc15 rfl fun a hE=>Gk hE hc15 rfl fun a hE=>Gk hE hc15 rfl fun a hE=>Gk hE hc15 rfl fun a hE=>pk1 hE hc15 rfl rfl rfl rfl fun a hE=>?_
       obtain rfl:=Option.some.inj hg2
       exact aC ⟨hE.cut ⟨rfl,rfl,rfl,rfl,rfl,rfl,rfl,rfl,rfl,rfl,trivial⟩,hp⟩
      replace hg2:=(ie hc15).symm.trans hg2
      refine Gs hE hc15 rfl rfl fun a hE=>Gs hE hc15 rfl rfl fun a hE=>G hE hp hc15 rfl (xf hE xJ rfl rfl) fun a hE=>G hE hp hc15 rfl (xl hE bK 4 rfl rfl rfl rfl) fun a hE=>Gs hE hc15 rfl rfl fun a hE=>?_
      obtain⟨x28,ex28,hg2⟩:=bnd hg2
      obtain⟨b21,b21o,b21r,b21v,b21f⟩:=aA.at hp 6 rfl aY ex28
      refine G hE hp hc15 rfl (aV rfl hE rfl rfl b21r) fun a hE=>G hE hp hc15 rfl (aZ rfl hE rfl (fun w hw=>bH bG (b21f 0 _ rfl _ _ w (hw.get 6 rfl)))) fun a hE=>Gs hE hc15 rfl rfl fun a hE=>pk0 hE hc15 rfl rfl rfl rfl fun a hE=>?_
      obtain rfl:=Option.some.inj hg2
      exact aC ⟨hE.cut ⟨rfl,rfl,rfl,rfl,rfl,rfl,rfl,rfl,rfl,rfl,trivial⟩,hp⟩
     rintro a w ⟨hE,hp⟩
     refine aC ?_
     refine dQ hE rfl (fun hc16=>?_) (fun hc16=>?_)
     ·replace hj3:=(it hc16).symm.trans hj3
      refine eU ?_
      obtain rfl:=Option.some.inj hj3
      exact⟨_,hE.cut ⟨rfl,rfl,rfl,rfl,rfl,rfl,rfl,trivial⟩,hp⟩
     replace hj3:=(ie hc16).symm.trans hj3
     refine bT (aH ?_)
     refine aB (S hE 2 rfl fun a hE=>?_)
     refine s_mput kt3 X0 (wk0 rfl) rfl hE hp rfl 3 (k:=x27) (v:=true) rfl rfl rfl rfl ?_
     intro w hp
     have hp:=r15 hp
     refine aC (aH ?_)
     refine mY (by kernel_rfl) (by kernel_rfl) hp ?_
     refine Sq hE 2 rfl fun a hE=>Vq hE rfl (xf hE xJ rfl rfl) fun a hE=>Vq hE rfl (xl hE bK 4 rfl rfl rfl rfl) fun a hE=>Sq hE 1 rfl fun a hE=>?_
     obtain⟨x29,ex29,hj3⟩:=bnd hj3
     obtain⟨b22,b22o,b22r,b22v,b22f⟩:=aA.at hp 6 rfl aY ex29
     refine Vq hE rfl (aV rfl hE rfl rfl b22r) fun a hE=>Vq hE rfl (aZ rfl hE rfl (fun w hw=>bH bG (b22f 0 _ rfl _ _ w (hw.get 6 rfl)))) fun a hE=>Sq hE 2 rfl fun a hE=>Vq hE rfl (xf hE oI rfl rfl) fun a hE=>Vq hE rfl (xl hE bK 4 rfl rfl rfl rfl) fun a hE=>Vq hE rfl (dJ rfl hE rfl (aA.len hp 10 rfl aY)) fun a hE=>Sq hE 1 rfl fun a hE=>?_
     refine oW fun w hp=>?_
     have hp:=r15 hp
     have hE:=hE.cut (E':=[(0,(.pointer (some ⟨bp0,0,none⟩))),(6,w14),(7,(.map (some b2))),(8,(.int .i64 lp4_0)),(11,(.int .i64 x26)),(30,w95),(31,(.int .i64 (uG.length:Int))),(32,(.int .i64 lp5_0)),(65,(.bool (!decide (x29=(p0.starts.length:Int)))))]) ⟨rfl,rfl,rfl,rfl,rfl,rfl,rfl,rfl,rfl,trivial⟩
     refine dQ hE rfl (fun hc17=>?_) (fun hc17=>?_)
     ·replace hj3:=(it hc17).symm.trans hj3
      refine aB (S hE 2 rfl fun a hE=>?_)
      refine jM (wk0 rfl) rfl rfl hE hp rfl [(0,(.int .i64 x26))] ⟨⟨rfl,rfl⟩,trivial⟩ [(.int .i64 x26)] 3 (fun w=>by simp[Instr.buildSlice,Instr.fill,Value.cells,go_sem]) ?_
      intro a w b23 hE hp
      have hp:=r16 hp
      obtain⟨x30,ex30,hj3⟩:=bnd hj3
      refine lZ (wk0 rfl) rfl rfl hE hp rfl aY rfl rfl 3 rfl rfl (l2:=[x26]) rfl (fun j u hj=>by have:=Hp.cN 0 rfl 0 _ (bY rfl) w hp j u hj;simpa using this) ex30 ?_
      intro v3 a w hE hp
      have hp:=r16 hp
      refine S hE 1 rfl fun a hE=>aC ?_
      obtain rfl:=Option.some.inj hj3
      exact⟨_,hE.cut ⟨rfl,rfl,rfl,rfl,rfl,rfl,rfl,trivial⟩,(hp.drop)⟩
     replace hj3:=(ie hc17).symm.trans hj3
     refine bT ?_
     obtain rfl:=Option.some.inj hj3
     exact⟨_,hE.cut ⟨rfl,rfl,rfl,rfl,rfl,rfl,rfl,trivial⟩,hp⟩
    rintro a w ⟨w14,hE,hp⟩
    refine aB ?_
    obtain⟨x31,ex31,hl5⟩:=bnd hl5
    refine V hE hp rfl (dS rfl hE rfl rfl (bF ex31)) fun a hE=>S hE 1 rfl fun a hE=>aC ?_
    exact⟨_,(Option.some.inj hl5).symm,_,hE.cut ⟨rfl,rfl,rfl,rfl,rfl,rfl,rfl,trivial⟩,hp⟩
   replace hl5:=(ie hc14).symm.trans hl5
   refine eU ?_
   refine⟨_,(Option.some.inj hl5).symm,fun hbb=>?_⟩
   subst hbb
   exact⟨_,hE.cut ⟨rfl,rfl,rfl,rfl,trivial⟩,hp⟩
  rintro a w ⟨w14,hE,hp⟩
  refine aH (aB ?_)
  refine S hE 1 rfl fun a hE=>?_
  obtain⟨x32,ex32,hl4⟩:=bnd hl4
  refine V hE hp rfl (sW rfl hE rfl rfl (bF ex32)) fun a hE=>S hE 1 rfl fun a hE=>aC (aH ?_)
  obtain⟨b24,hc18,hl4⟩:=bnd hl4
  refine dN (fun a w=>Env 165 [(0,(.pointer (some ⟨bp0,0,none⟩))),(6,w14),(7,(.map (some b2))),(8,(.int .i64 b24))] a∧Hp Z ρ (bZ 61 71 (78,3) aO aF (p0.watches:(List (List Nat)×List (List Int))) none none::aA 3 w95 uG::aA 3 w14 b19.1::pJ b2 (b19.2:List (Int×Bool))::Pt bp0 (.cells #[aU,aW,aX,aS,aO,aT,aP,(.int .i64 p0.head),(.pointer (some ⟨aN,0,none⟩)),aQ,(.int .i64 p0.literals),(.bool p0.broken)] 65 (0,0))::aA 3 aU p0.value::aA 3 aW p0.level::aA 71 aX (List.map (hq (aF).2) (p0.reason:List (Option Nat)))::aA 3 aS p0.saved::aA 3 aT p0.trail::aA 3 aP p0.starts::Pt aN (.cells #[aK,aJ] 68 (0,0))::aA 3 aK p0.queue.list::aA 4 aJ p0.queue.isin::bQ 25 3 aQ bD (p0.proof:(List (List Int)))::L) w) ?_ ?_
  ·refine fV hc18 (fun s a w=>Env 165 [(0,(.pointer (some ⟨bp0,0,none⟩))),(6,w14),(7,(.map (some b2))),(8,(.int .i64 s))] a∧Hp Z ρ (bZ 61 71 (78,3) aO aF (p0.watches:(List (List Nat)×List (List Int))) none none::aA 3 w95 uG::aA 3 w14 b19.1::pJ b2 (b19.2:List (Int×Bool))::Pt bp0 (.cells #[aU,aW,aX,aS,aO,aT,aP,(.int .i64 p0.head),(.pointer (some ⟨aN,0,none⟩)),aQ,(.int .i64 p0.literals),(.bool p0.broken)] 65 (0,0))::aA 3 aU p0.value::aA 3 aW p0.level::aA 71 aX (List.map (hq (aF).2) (p0.reason:List (Option Nat)))::aA 3 aS p0.saved::aA 3 aT p0.trail::aA 3 aP p0.starts::Pt aN (.cells #[aK,aJ] 68 (0,0))::aA 3 aK p0.queue.list::aA 4 aJ p0.queue.isin::bQ 25 3 aQ bD (p0.proof:(List (List Int)))::L) w) ?_ ?_
   ·exact⟨hE.cut ⟨rfl,rfl,rfl,rfl,trivial⟩,hp⟩
   rintro lp6_0 st a w ⟨hE,hp⟩ hl6
   unfold oD at hl6
   refine aH (aH ?_)
   refine aB (S hE 3 rfl fun a hE=>?_)
   refine V hE hp rfl (xf hE mX rfl rfl) fun a hE=>V hE hp rfl (xl hE bK 4 rfl rfl rfl rfl) fun a hE=>S hE 1 rfl fun a hE=>?_
   obtain⟨x33,ex33,hl6⟩:=bnd hl6
   obtain⟨b25,b25o,b25r,b25v,b25f⟩:=aA.at hp 9 rfl aY ex33
   refine V hE hp rfl (aV rfl hE rfl rfl b25r) fun a hE=>V hE hp rfl (aZ rfl hE rfl (fun w hw=>bH bG (b25f 0 _ rfl _ _ w (hw.get 9 rfl)))) fun a hE=>?_
   obtain⟨x34,ex34,hl6⟩:=bnd hl6
   refine s_call (wk0 rfl) rfl rfl hE rfl [(.int .i64 x33)] ⟨rfl,trivial⟩ zH (fC x33 hp x34 ex34) Ret.ret ?_
   intro v a w hR hE
   obtain⟨rfl,hp⟩:=Ret.of hR
   have hp:=r15 hp
   refine V hE hp rfl (v:=(.bool ((lX (b19.2:List (Int×Bool)) x34).getD false))) (aF8 (zd:=(false:Bool)) kt3 X0 zero4 rfl hE 3 (k:=x34) rfl rfl rfl) fun a hE=>S hE 1 rfl fun a hE=>aC ?_
   refine dQ hE rfl (fun hc19=>?_) (fun hc19=>?_)
   ·replace hl6:=(it hc19).symm.trans hl6
    refine bT (dL ?_)
    refine aB (S hE 1 rfl fun a hE=>?_)
    obtain⟨x35,ex35,hl6⟩:=bnd hl6
    refine V hE hp rfl (sW rfl hE rfl rfl (bF ex35)) fun a hE=>S hE 1 rfl fun a hE=>aC ?_
    exact⟨_,(Option.some.inj hl6).symm,hE.cut ⟨rfl,rfl,rfl,rfl,trivial⟩,hp⟩
   replace hl6:=(ie hc19).symm.trans hl6
   refine eU ?_
   refine⟨_,(Option.some.inj hl6).symm,fun hbb=>?_⟩
   subst hbb
   exact⟨hE.cut ⟨rfl,rfl,rfl,rfl,trivial⟩,hp⟩
  rintro a w ⟨hE,hp⟩
  refine aH (aB ?_)
  refine S hE 2 rfl fun a hE=>V hE hp rfl (xf hE mX rfl rfl) fun a hE=>V hE hp rfl (xl hE bK 4 rfl rfl rfl rfl) fun a hE=>S hE 1 rfl fun a hE=>?_
  obtain⟨x36,ex36,hl4⟩:=bnd hl4
  obtain⟨b26,b26o,b26r,b26v,b26f⟩:=aA.at hp 9 rfl aY ex36
  refine V hE hp rfl (aV rfl hE rfl rfl b26r) fun a hE=>V hE hp rfl (aZ rfl hE rfl (fun w hw=>bH bG (b26f 0 _ rfl _ _ w (hw.get 9 rfl)))) fun a hE=>S hE 1 rfl fun a hE=>aC ?_
  have hE:=hE.cut (E':=[(0,(.pointer (some ⟨bp0,0,none⟩))),(6,w14),(7,(.map (some b2))),(8,(.int .i64 b24)),(13,(.int .i64 x36))]) ⟨rfl,rfl,rfl,rfl,rfl,trivial⟩
  refine aH (aH ?_)
  refine mY (by kernel_rfl) (by kernel_rfl) hp ?_
  refine Sq hE 2 rfl fun a hE=>Vq hE rfl (xf hE xK rfl rfl) fun a hE=>Vq hE rfl (xl hE lL 4 rfl rfl rfl rfl) fun a hE=>Sq hE 1 rfl fun a hE=>?_
  obtain⟨x37,ex37,hl4⟩:=bnd hl4
  refine wG (wk0 rfl) rfl rfl hE rfl [(.int .i64 x36)] ⟨rfl,trivial⟩ zH (v:=(.int .i64 x37)) (fun w hw=>Calls.mono (fC x36 hw x37 ex37) fun e w' ⟨v,he,hv,hh⟩=>⟨by rw[he,hv],hh⟩) ?_
  intro a hE
  obtain⟨x38,ex38,hl4⟩:=bnd hl4
  obtain⟨b27,b27o,b27r,b27v,b27f⟩:=OwnQ.at hp 7 rfl oH ex38
  refine Vq hE rfl (aV rfl hE rfl rfl b27r) fun a hE=>Vq hE rfl (aZ rfl hE rfl (fun w hw=>bH F9 (b27f 0 _ rfl _ _ w (hw.get 7 rfl)))) fun a hE=>Vq hE rfl (v:=(.bool x38.isNone)) (ex_qnil (e:=x38) (au:=(aF).2) pty71 rfl hE rfl rfl) fun a hE=>?_
  refine oW fun w hp=>?_
  have hp:=r15 hp
  refine dQ hE rfl (fun hc20=>?_) (fun hc20=>?_)
  ·replace hl4:=(it hc20).symm.trans hl4
   refine aH (aB ?_)
   refine S hE 2 rfl fun a hE=>?_
   obtain⟨x39,ex39,hl4⟩:=bnd hl4
   refine V hE hp rfl (nZ rfl hE rfl (bF ex39)) fun a hE=>?_
   obtain⟨x40,ex40,hl4⟩:=bnd hl4
   obtain⟨b28,b28o,b28r,b28v,b28f⟩:=aA.at hp 2 rfl aY ex40
   refine V hE hp rfl (aV rfl hE rfl rfl b28r) fun a hE=>?_
   refine lY (wk0 rfl) rfl hE hp rfl rfl rfl 2 rfl ex40 b28v 0 (e':=x39) bG.size_ rfl rfl rfl ⟨rfl,rfl⟩ ?_
   intro w hp
   have hp:=r15 hp
   refine aC ?_
   refine eU ?_
   refine⟨_,(Option.some.inj hl4).symm,fun hbb=>?_⟩
   subst hbb
   obtain rfl:=Option.some.inj hj1
   exact⟨_,hE.cut ⟨rfl,rfl,trivial⟩,((hp.get 1 rfl).drop)⟩
  replace hl4:=(ie hc20).symm.trans hl4
  refine bT (aH ?_)
  refine aB (S hE 1 rfl fun a hE=>?_)
  refine aC (aH ?_)
  obtain⟨x41,ex41,hl4⟩:=bnd hl4
  obtain⟨x42,ex42,hl4⟩:=bnd hl4
  obtain⟨x43,ex43,hl4⟩:=bnd hl4
  obtain⟨x44,ex44,hl4⟩:=bnd hl4
  have hp:=hp.drew
  refine kC ([([],At0 Z ρ),([],At1 Z ρ (Pt bp0 (.cells #[aU,aW,aX,aS,aO,aT,aP,(.int .i64 p0.head),(.pointer (some ⟨aN,0,none⟩)),aQ,(.int .i64 p0.literals),(.bool p0.broken)] 65 (0,0)))),([],At1 Z ρ (aA 71 aX (List.map (hq (aF).2) (p0.reason:List (Option Nat)))))]:Facts) (fun a w=>∃ypc113:Pc,Env 165 [(0,(.pointer (some ⟨bp0,0,none⟩))),(6,w14),(7,(.map (some b2))),(8,(.int .i64 b24)),(9,(.slice none 0 0)),(13,(.int .i64 x36)),(116,(Sl.v (Pc.s ypc113))),(117,(.int .i64 (x44.length:Int))),(118,(.int .i64 0))] a∧Hp Z ρ (aA 3 (Sl.v (Pc.s ypc113)) x44::Pt (Pc.b ypc113) (.cells #[(Sl.v (Pc.s ypc113))] 78 (0,0))::bZ 61 71 (78,3) aO aF (p0.watches:(List (List Nat)×List (List Int))) none (some ((x43,ypc113):Nat×Pc))::aA 3 w95 uG::aA 3 w14 b19.1::pJ b2 (b19.2:List (Int×Bool))::Pt bp0 (.cells #[aU,aW,aX,aS,aO,aT,aP,(.int .i64 p0.head),(.pointer (some ⟨aN,0,none⟩)),aQ,(.int .i64 p0.literals),(.bool p0.broken)] 65 (0,0))::aA 3 aU p0.value::aA 3 aW p0.level::aA 71 aX (List.map (hq (aF).2) (p0.reason:List (Option Nat)))::aA 3 aS p0.saved::aA 3 aT p0.trail::aA 3 aP p0.starts::Pt aN (.cells #[aK,aJ] 68 (0,0))::aA 3 aK p0.queue.list::aA 4 aJ p0.queue.isin::bQ 25 3 aQ bD (p0.proof:(List (List Int)))::L) w) (by kernel_rfl) ⟨fun _=>⟨_,hp⟩,fun _=>⟨_,(hp.get 4 rfl)⟩,fun _=>⟨_,(hp.get 7 rfl)⟩,trivial⟩ (fun hS=>?_) ?_
  ·
   generalize w.drew=w at hS hp⊢
   refine Ts [0,1] hE hS rfl rfl (by kernel_rfl) fun a hE hS=>T0 2 hE hS rfl rfl rfl (by kernel_rfl) (fun _=>xf hE xK rfl rfl) fun a hE hS=>T 3 1 hE hS rfl rfl rfl (by kernel_rfl) (fun _=>xl hE lL 0 rfl rfl rfl rfl) fun a hE hS=>Ts [4,12] hE hS rfl rfl (by kernel_rfl) fun a hE hS=>?_
   refine W1 5 (by kernel_rfl) rfl ?_
   refine s_call (wk0 rfl) rfl rfl hE rfl [(.int .i64 x36)] ⟨rfl,trivial⟩ zH (fC x36 hp x41 ex41) Ret.ret ?_
   intro v a w hR hE
   obtain⟨rfl,hp⟩:=Ret.of hR
   have hp:=r15 hp
   refine aC (aI ⟨gp0 hp,gp 4 hp rfl,gp 7 hp rfl,trivial⟩ fun hS=>?_)
   obtain⟨b30,b30o,b30r,b30v,b30f⟩:=OwnQ.at hp 7 rfl oH ex42
   refine T0 6 hE hS rfl rfl rfl (by kernel_rfl) (fun _=>aV rfl hE rfl rfl b30r) fun a hE hS=>T 7 2 hE hS rfl rfl rfl (by kernel_rfl) (fun _=>aZ rfl hE rfl (fun w hw=>bH F9 (b30f 0 _ rfl _ _ w (hw.get 0 rfl)))) fun a hE hS=>?_
   rw[ex43,pqv_hq] at hE
   obtain⟨pc5,pc5h,hp⟩:=bZ.take ex44 (hp.get 0 rfl)
   rw[pc5h] at hE
   have hp:=r17 hp
   refine Ts [8] hE hS rfl rfl (by kernel_rfl) fun a hE hS=>T0 9 hE hS rfl rfl rfl (by kernel_rfl) (fun _=>xf hE iQ rfl rfl) fun a hE hS=>?_
   refine W1 10 (by kernel_rfl) rfl ?_
   refine V hE hp rfl (xl hE bK 1 rfl rfl rfl rfl) fun a hE=>?_
   refine aC (aI ⟨gp0 hp,gp 6 hp rfl,gp 9 hp rfl,trivial⟩ fun hS=>?_)
   refine T0 11 hE hS rfl rfl rfl (by kernel_rfl) (fun _=>dJ rfl hE rfl (aA.len hp 0 rfl aY)) fun a hE hS=>?_
   exact dZ (by kernel_rfl) ⟨_,hE.cut ⟨rfl,rfl,rfl,rfl,rfl,rfl,rfl,rfl,rfl,trivial⟩,hp⟩
  rintro a w ⟨ypc113,hE,hp⟩
  have hp:=hp.emp (aA.nil (α:=Int) 3)
  have hp:=r18 hp
  obtain⟨b31,hc21,hl4⟩:=bnd hl4
  refine dN (fun a w=>∃(w117:Value),Env 165 [(0,(.pointer (some ⟨bp0,0,none⟩))),(6,w14),(7,(.map (some b2))),(8,(.int .i64 b24)),(9,w117)] a∧Hp Z ρ (aA 3 w117 b31::aA 3 (Sl.v (Pc.s ypc113)) x44::Pt (Pc.b ypc113) (.cells #[(Sl.v (Pc.s ypc113))] 78 (0,0))::bZ 61 71 (78,3) aO aF (p0.watches:(List (List Nat)×List (List Int))) none (some ((x43,ypc113):Nat×Pc))::aA 3 w95 uG::aA 3 w14 b19.1::pJ b2 (b19.2:List (Int×Bool))::Pt bp0 (.cells #[aU,aW,aX,aS,aO,aT,aP,(.int .i64 p0.head),(.pointer (some ⟨aN,0,none⟩)),aQ,(.int .i64 p0.literals),(.bool p0.broken)] 65 (0,0))::aA 3 aU p0.value::aA 3 aW p0.level::aA 71 aX (List.map (hq (aF).2) (p0.reason:List (Option Nat)))::aA 3 aS p0.saved::aA 3 aT p0.trail::aA 3 aP p0.starts::Pt aN (.cells #[aK,aJ] 68 (0,0))::aA 3 aK p0.queue.list::aA 4 aJ p0.queue.isin::bQ 25 3 aQ bD (p0.proof:(List (List Int)))::L) w) ?_ ?_
  ·refine fV hc21 (fun s a w=>∃(w117:Value),Env 165 [(0,(.pointer (some ⟨bp0,0,none⟩))),(6,w14),(7,(.map (some b2))),(8,(.int .i64 b24)),(9,w117),(13,(.int .i64 x36)),(116,(Sl.v (Pc.s ypc113))),(117,(.int .i64 (x44.length:Int))),(118,(.int .i64 s.1))] a∧Hp Z ρ (aA 3 w117 s.2::aA 3 (Sl.v (Pc.s ypc113)) x44::Pt (Pc.b ypc113) (.cells #[(Sl.v (Pc.s ypc113))] 78 (0,0))::bZ 61 71 (78,3) aO aF (p0.watches:(List (List Nat)×List (List Int))) none (some ((x43,ypc113):Nat×Pc))::aA 3 w95 uG::aA 3 w14 b19.1::pJ b2 (b19.2:List (Int×Bool))::Pt bp0 (.cells #[aU,aW,aX,aS,aO,aT,aP,(.int .i64 p0.head),(.pointer (some ⟨aN,0,none⟩)),aQ,(.int .i64 p0.literals),(.bool p0.broken)] 65 (0,0))::aA 3 aU p0.value::aA 3 aW p0.level::aA 71 aX (List.map (hq (aF).2) (p0.reason:List (Option Nat)))::aA 3 aS p0.saved::aA 3 aT p0.trail::aA 3 aP p0.starts::Pt aN (.cells #[aK,aJ] 68 (0,0))::aA 3 aK p0.queue.list::aA 4 aJ p0.queue.isin::bQ 25 3 aQ bD (p0.proof:(List (List Int)))::L) w) ?_ ?_
   ·exact⟨_,hE.cut ⟨rfl,rfl,rfl,rfl,rfl,rfl,rfl,rfl,rfl,trivial⟩,hp⟩
   rintro⟨lp7_0,lp7_1⟩ st a w ⟨w117,hE,hp⟩ hl7
   dsimp only at hE hp hl7
   unfold oG at hl7
   refine aH (aB ?_)
   refine S hE 1 rfl fun a hE=>aC (aH ?_)
   refine dQ hE rfl (fun hc22=>?_) (fun hc22=>?_)
   ·replace hl7:=(it hc22).symm.trans hl7
    refine bT (aH ?_)
    refine dL (aH ?_)
    refine aB ?_
    obtain⟨x45,ex45,hl7⟩:=bnd hl7
    obtain⟨b32,b32o,b32r,b32v,b32f⟩:=aA.at hp 1 rfl aY ex45
    refine V hE hp rfl (aV rfl hE rfl rfl b32r) fun a hE=>V hE hp rfl (aZ rfl hE rfl (fun w hw=>bH bG (b32f 0 _ rfl _ _ w (hw.get 1 rfl)))) fun a hE=>S hE 1 rfl fun a hE=>aC (aH ?_)
    refine aB (S hE 3 rfl fun a hE=>?_)
    refine aC ?_
    refine dQ hE rfl (fun hc23=>?_) (fun hc23=>?_)
    ·replace hl7:=(it hc23).symm.trans hl7
     refine aB (S hE 2 rfl fun a hE=>?_)
     refine jM (wk0 rfl) rfl rfl hE hp rfl [(0,(.int .i64 x45))] ⟨⟨rfl,rfl⟩,trivial⟩ [(.int .i64 x45)] 3 (fun w=>by simp[Instr.buildSlice,Instr.fill,Value.cells,go_sem]) ?_
     intro a w b33 hE hp
     have hp:=r19 hp
     obtain⟨x46,ex46,hl7⟩:=bnd hl7
     refine lZ (wk0 rfl) rfl rfl hE hp rfl aY rfl rfl 1 rfl rfl (l2:=[x45]) rfl (fun j u hj=>by have:=Hp.cN 0 rfl 0 _ (bY rfl) w hp j u hj;simpa using this) ex46 ?_
     intro v4 a w hE hp
     have hp:=r19 hp
     refine S hE 1 rfl fun a hE=>aC (aB ?_)
     obtain⟨x47,ex47,hl7⟩:=bnd hl7
     refine V hE hp rfl (dS rfl hE rfl rfl (bF ex47)) fun a hE=>S hE 1 rfl fun a hE=>aC ?_
     exact⟨_,(Option.some.inj hl7).symm,_,hE.cut ⟨rfl,rfl,rfl,rfl,rfl,rfl,rfl,rfl,rfl,trivial⟩,(hp.drop)⟩
    replace hl7:=(ie hc23).symm.trans hl7
    refine bT (aB ?_)
    obtain⟨x48,ex48,hl7⟩:=bnd hl7
    refine V hE hp rfl (dS rfl hE rfl rfl (bF ex48)) fun a hE=>S hE 1 rfl fun a hE=>aC ?_
    have hE:=hE.cut (E':=[(0,(.pointer (some ⟨bp0,0,none⟩))),(6,w14),(7,(.map (some b2))),(8,(.int .i64 b24)),(9,w117),(13,(.int .i64 x36)),(116,(Sl.v (Pc.s ypc113))),(117,(.int .i64 (x44.length:Int))),(118,(.int .i64 x48))]) ⟨rfl,rfl,rfl,rfl,rfl,rfl,rfl,rfl,rfl,trivial⟩
    exact⟨_,(Option.some.inj hl7).symm,_,hE.cut ⟨rfl,rfl,rfl,rfl,rfl,rfl,rfl,rfl,rfl,trivial⟩,hp⟩
   replace hl7:=(ie hc22).symm.trans hl7
   refine eU ?_
   refine⟨_,(Option.some.inj hl7).symm,fun hbb=>?_⟩
   subst hbb
   exact⟨_,hE.cut ⟨rfl,rfl,rfl,rfl,rfl,trivial⟩,hp⟩
  rintro a w ⟨w117,hE,hp⟩
  obtain⟨hp,hbk7⟩:=bZ.back0 (Tc:=(78,3)) ex44 (((hp.get 3 rfl).get 3 rfl).get 3 rfl)
  have hp:=r16 hp
  have hp:=(hp.get 2 rfl).drop
  have hp:=r15 hp
  exact⟨_,(Option.some.inj hl4).symm,_,_,hE.cut ⟨rfl,rfl,rfl,rfl,rfl,trivial⟩,hp⟩
 rintro a w ⟨w14,hE,hp⟩
 refine aH (aB ?_)
 refine S hE 1 rfl fun a hE=>aC (aH ?_)
 refine aH (aB ?_)
 refine S hE 1 rfl fun a hE=>aC ?_
 obtain⟨b34,hc24,hm⟩:=bnd hm
 refine dN (fun a w=>∃(w14:Value),Env 165 [(6,w14),(16,(.int .i64 b34.1))] a∧Hp Z ρ (bZ 61 71 (78,3) aO aF (p0.watches:(List (List Nat)×List (List Int))) none none::aA 3 w14 b34.2::pJ b2 (j1.2:List (Int×Bool))::Pt bp0 (.cells #[aU,aW,aX,aS,aO,aT,aP,(.int .i64 p0.head),(.pointer (some ⟨aN,0,none⟩)),aQ,(.int .i64 p0.literals),(.bool p0.broken)] 65 (0,0))::aA 3 aU p0.value::aA 3 aW p0.level::aA 71 aX (List.map (hq (aF).2) (p0.reason:List (Option Nat)))::aA 3 aS p0.saved::aA 3 aT p0.trail::aA 3 aP p0.starts::Pt aN (.cells #[aK,aJ] 68 (0,0))::aA 3 aK p0.queue.list::aA 4 aJ p0.queue.isin::bQ 25 3 aQ bD (p0.proof:(List (List Int)))::L) w) ?_ ?_
 ·refine fV hc24 (fun s a w=>∃(w14:Value),Env 165 [(0,(.pointer (some ⟨bp0,0,none⟩))),(6,w14),(16,(.int .i64 s.1)),(17,(.int .i64 s.2.1))] a∧Hp Z ρ (bZ 61 71 (78,3) aO aF (p0.watches:(List (List Nat)×List (List Int))) none none::aA 3 w14 s.2.2::pJ b2 (j1.2:List (Int×Bool))::Pt bp0 (.cells #[aU,aW,aX,aS,aO,aT,aP,(.int .i64 p0.head),(.pointer (some ⟨aN,0,none⟩)),aQ,(.int .i64 p0.literals),(.bool p0.broken)] 65 (0,0))::aA 3 aU p0.value::aA 3 aW p0.level::aA 71 aX (List.map (hq (aF).2) (p0.reason:List (Option Nat)))::aA 3 aS p0.saved::aA 3 aT p0.trail::aA 3 aP p0.starts::Pt aN (.cells #[aK,aJ] 68 (0,0))::aA 3 aK p0.queue.list::aA 4 aJ p0.queue.isin::bQ 25 3 aQ bD (p0.proof:(List (List Int)))::L) w) ?_ ?_
  ·exact⟨_,hE.cut ⟨rfl,rfl,rfl,rfl,trivial⟩,hp⟩
  rintro⟨lp8_0,O7,J4⟩ st a w ⟨w14,hE,hp⟩ hl8
  dsimp only at hE hp hl8
  unfold gI at hl8
  refine aH (aH ?_)
  refine aB (S hE 2 rfl fun a hE=>?_)
  refine V hE hp rfl (dJ rfl hE rfl (aA.len hp 1 rfl aY)) fun a hE=>S hE 1 rfl fun a hE=>aC ?_
  refine dQ hE rfl (fun hc25=>?_) (fun hc25=>?_)
  ·replace hl8:=(it hc25).symm.trans hl8
   refine bT (aH ?_)
   refine dL (aH ?_)
   refine mY (by kernel_rfl) (by kernel_rfl) hp ?_
   refine Sq hE 2 rfl fun a hE=>Vq hE rfl (xf hE xJ rfl rfl) fun a hE=>Vq hE rfl (xl hE bK 3 rfl rfl rfl rfl) fun a hE=>Sq hE 2 rfl fun a hE=>?_
   obtain⟨x49,ex49,hl8⟩:=bnd hl8
   obtain⟨b35,b35o,b35r,b35v,b35f⟩:=aA.at hp 1 rfl aY ex49
   refine Vq hE rfl (aV rfl hE rfl rfl b35r) fun a hE=>Vq hE rfl (aZ rfl hE rfl (fun w hw=>bH bG (b35f 0 _ rfl _ _ w (hw.get 1 rfl)))) fun a hE=>?_
   obtain⟨x50,ex50,hl8⟩:=bnd hl8
   refine wG (wk0 rfl) rfl rfl hE rfl [(.int .i64 x49)] ⟨rfl,trivial⟩ zH (v:=(.int .i64 x50)) (fun w hw=>Calls.mono (fC x49 hw x50 ex50) fun e w' ⟨v,he,hv,hh⟩=>⟨by rw[he,hv],hh⟩) ?_
   intro a hE
   obtain⟨x51,ex51,hl8⟩:=bnd hl8
   obtain⟨b36,b36o,b36r,b36v,b36f⟩:=aA.at hp 5 rfl aY ex51
   refine Vq hE rfl (aV rfl hE rfl rfl b36r) fun a hE=>Vq hE rfl (aZ rfl hE rfl (fun w hw=>bH bG (b36f 0 _ rfl _ _ w (hw.get 5 rfl)))) fun a hE=>Sq hE 1 rfl fun a hE=>?_
   refine oW fun w hp=>?_
   have hp:=r14 hp
   have hE:=hE.cut (E':=[(0,(.pointer (some ⟨bp0,0,none⟩))),(6,w14),(16,(.int .i64 lp8_0)),(17,(.int .i64 O7)),(18,(.int .i64 x51))]) ⟨rfl,rfl,rfl,rfl,rfl,trivial⟩
   refine aH (aB ?_)
   refine S hE 3 rfl fun a hE=>aC ?_
   refine dQ hE rfl (fun hc26=>?_) (fun hc26=>?_)
   ·replace hl8:=(it hc26).symm.trans hl8
    refine aH (aB ?_)
    refine S hE 2 rfl fun a hE=>aC ?_
    obtain⟨x52,ex52,hl8⟩:=bnd hl8
    obtain⟨x53,ex53,hl8⟩:=bnd hl8
    obtain⟨x54,ex54,hl8⟩:=bnd hl8
    obtain⟨x55,ex55,hl8⟩:=bnd hl8
    have hp:=hp.drew
    refine kC ([([],At0 Z ρ),([11,13],At1 Z ρ (aA 3 w14 J4))]:Facts) (fun a w=>Env 165 [(0,(.pointer (some ⟨bp0,0,none⟩))),(6,w14),(16,(.int .i64 x51)),(17,(.int .i64 O7))] a∧Hp Z ρ (bZ 61 71 (78,3) aO aF (p0.watches:(List (List Nat)×List (List Int))) none none::aA 3 w14 ((J4.set (1:Int).toNat x52).set O7.toNat x53)::pJ b2 (j1.2:List (Int×Bool))::Pt bp0 (.cells #[aU,aW,aX,aS,aO,aT,aP,(.int .i64 p0.head),(.pointer (some ⟨aN,0,none⟩)),aQ,(.int .i64 p0.literals),(.bool p0.broken)] 65 (0,0))::aA 3 aU p0.value::aA 3 aW p0.level::aA 71 aX (List.map (hq (aF).2) (p0.reason:List (Option Nat)))::aA 3 aS p0.saved::aA 3 aT p0.trail::aA 3 aP p0.starts::Pt aN (.cells #[aK,aJ] 68 (0,0))::aA 3 aK p0.queue.list::aA 4 aJ p0.queue.isin::bQ 25 3 aQ bD (p0.proof:(List (List Int)))::L) w) (by kernel_rfl) ⟨fun _=>⟨_,hp⟩,fun _=>⟨_,(hp.get 1 rfl)⟩,trivial⟩ (fun hS=>?_) ?_
    ·
     generalize w.drew=w at hS hp⊢
     refine Ts [0,1,2,3,4] hE hS rfl rfl (by kernel_rfl) fun a hE hS=>?_
     obtain⟨b41,b41o,b41r,b41v,b41f⟩:=aA.at hp 1 rfl aY ex52
     refine T0 5 hE hS rfl rfl rfl (by kernel_rfl) (fun _=>aV rfl hE rfl rfl b41r) fun a hE hS=>T 6 1 hE hS rfl rfl rfl (by kernel_rfl) (fun _=>aZ rfl hE rfl (fun w hw=>bH bG (b41f 0 _ rfl _ _ w (hw.get 0 rfl)))) fun a hE hS=>Ts [7] hE hS rfl rfl (by kernel_rfl) fun a hE hS=>?_
     obtain⟨b42,b42o,b42r,b42v,b42f⟩:=aA.at hp 1 rfl aY ex53
     refine T0 8 hE hS rfl rfl rfl (by kernel_rfl) (fun _=>aV rfl hE rfl rfl b42r) fun a hE hS=>T 9 1 hE hS rfl rfl rfl (by kernel_rfl) (fun _=>aZ rfl hE rfl (fun w hw=>bH bG (b42f 0 _ rfl _ _ w (hw.get 0 rfl)))) fun a hE hS=>?_
     obtain⟨b43,b43o,b43r,b43v,b43f⟩:=aA.at hp 1 rfl aY ex54
     refine T0 10 hE hS rfl rfl rfl (by kernel_rfl) (fun _=>aV rfl hE rfl rfl b43r) fun a hE hS=>?_
     refine W1 11 (by kernel_rfl) rfl ?_
     refine lY (wk0 rfl) rfl hE hp rfl rfl rfl 1 rfl ex54 b43v 0 (e':=x52) bG.size_ rfl rfl rfl ⟨rfl,rfl⟩ ?_
     intro w hp
     have hp:=r14 hp
     refine aC (aI ⟨gp0 hp,dead (by kernel_rfl),trivial⟩ fun hS=>?_)
     obtain⟨b44,b44o,b44r,b44v,b44f⟩:=aA.at hp 1 rfl aY ex55
     refine T0 12 hE hS rfl rfl rfl (by kernel_rfl) (fun _=>aV rfl hE rfl rfl b44r) fun a hE hS=>?_
     refine W1 13 (by kernel_rfl) rfl ?_
     refine lY (wk0 rfl) rfl hE hp rfl rfl rfl 1 rfl ex55 b44v 0 (e':=x53) bG.size_ rfl rfl rfl ⟨rfl,rfl⟩ ?_
     intro w hp
     have hp:=r14 hp
     refine aC (aI ⟨gp0 hp,dead (by kernel_rfl),trivial⟩ fun hS=>?_)
     exact dZ (by kernel_rfl) ⟨hE.cut ⟨rfl,rfl,rfl,rfl,trivial⟩,hp⟩
    rintro a w ⟨hE,hp⟩
    refine aB (S hE 1 rfl fun a hE=>?_)
    obtain⟨x56,ex56,hl8⟩:=bnd hl8
    refine V hE hp rfl (dS rfl hE rfl rfl (bF ex56)) fun a hE=>S hE 1 rfl fun a hE=>aC ?_
    exact⟨_,(Option.some.inj hl8).symm,_,hE.cut ⟨rfl,rfl,rfl,rfl,trivial⟩,hp⟩
   replace hl8:=(ie hc26).symm.trans hl8
   refine bT (aB ?_)
   refine S hE 1 rfl fun a hE=>?_
   obtain⟨x57,ex57,hl8⟩:=bnd hl8
   refine V hE hp rfl (dS rfl hE rfl rfl (bF ex57)) fun a hE=>S hE 1 rfl fun a hE=>aC ?_
   exact⟨_,(Option.some.inj hl8).symm,_,hE.cut ⟨rfl,rfl,rfl,rfl,trivial⟩,hp⟩
  replace hl8:=(ie hc25).symm.trans hl8
  refine eU ?_
  refine⟨_,(Option.some.inj hl8).symm,fun hbb=>?_⟩
  subst hbb
  exact⟨_,hE.cut ⟨rfl,rfl,trivial⟩,hp⟩
 rintro a w ⟨w14,hE,hp⟩
 refine aH (aB ?_)
 refine S hE 4 rfl fun a hE=>aC (dE ?_)
 obtain rfl:=Option.some.inj hm
 exact ret2 hE rfl rfl rfl ⟨_,rfl,_,rfl,(((((((((((((((hp.get 13 rfl).get 13 rfl).get 13 rfl).get 13 rfl).get 13 rfl).get 13 rfl).get 6 rfl).get 13 rfl).get 13 rfl).get 13 rfl).get 13 rfl).get 13 rfl).get 12 rfl).get 13 rfl).drop)⟩
end Go.Proofs.Ytpkhmndpeipfmaa

/- The code goes as its model: (*assessor/solver.solver).note, (*assessor/solver.solver).learn. (Printed by wip/sp/gen.py.) -/
import Derived.Test.YtpkhmndpeipfmaaKUnT
import Derived.Test.YtpkhmndpeipfmaaKUn5
import Derived.Test.YtpkhmndpeipfmaaKUn6
import Derived.Test.YtpkhmndpeipfmaaKUn7
import Derived.Test.YtpkhmndpeipfmaaKUn9
set_option linter.unusedVariables false
set_option linter.unusedSimpArgs false
set_option maxRecDepth 100000
set_option maxHeartbeats 4000000
namespace Go.Proofs.Ytpkhmndpeipfmaa
open Go.RowKit
theorem wU {Z:World} {ρ:PH} {L:List bZ} {w:World} (bp0:Nat) (p0:Sol) (aV:Value) (aX:Value) (aY:Value) (aS:Value) (aN:Value) (aF:List Sl×List Pc) (aT:Value) (aP:Value) (aO:Nat) (aK:Value) (aJ:Value) (aQ:Value) (bF:List Sl) (p1:(List Int)) (vp1:Value) (hp1:bW ρ vp1 p1) (hp:Hp Z ρ (Pt bp0 (.cells #[aV,aX,aY,aS,aN,aT,aP,(Iv p0.head),(Pv aO 0),aQ,(Iv p0.literals),(.bool p0.broken)] 65 (0,0))::aA 3 aV p0.value::aA 3 aX p0.level::aA 71 aY (List.map (hq (aF).2) (p0.reason:List (Option Nat)))::aA 3 aS p0.saved::cO 61 71 (78,3) aN aF (p0.watches:WD) none none::aA 3 aT p0.trail::aA 3 aP p0.starts::Pt aO (.cells #[aK,aJ] 68 (0,0))::aA 3 aK p0.queue.list::aA 4 aJ p0.queue.isin::bT 25 3 aQ bF (p0.proof:(List (List Int)))::L) w) (r:(Bool×Sol)) (hm:lU p0 p1=some r):
  Calls Try.prog 52 #[(Pv bp0 0),vp1] w (Ret fun v w'=>∃(eQ:Value) (jZ:Value) (iY:Value) (sS:Value) (dS:Value) (dQ:List Sl×List Pc) (eP:Value) (rD:Value) (mW:Value) (mV:Value) (sQ:Value) (xA:List Sl),v=(.bool r.1)∧Hp Z ρ (Pt bp0 (.cells #[eQ,jZ,iY,sS,dS,eP,rD,(Iv r.2.head),(Pv aO 0),sQ,(Iv r.2.literals),(.bool r.2.broken)] 65 (0,0))::aA 3 eQ r.2.value::aA 3 jZ r.2.level::aA 71 iY (List.map (hq (dQ).2) (r.2.reason:List (Option Nat)))::aA 3 sS r.2.saved::cO 61 71 (78,3) dS dQ (r.2.watches:WD) none none::aA 3 eP r.2.trail::aA 3 rD r.2.starts::Pt aO (.cells #[mW,mV] 68 (0,0))::aA 3 mW r.2.queue.list::aA 4 mV r.2.queue.isin::bT 25 3 sQ xA (r.2.proof:(List (List Int)))::L) w'):=by
 refine enter (N:=36) Try.func52 rfl rfl [(0,(Pv bp0 0)),(1,vp1)] rfl (bM ⟨rfl,rfl,trivial⟩) fun a hE=>?_
 unfold lU at hm
 refine aG (aB ?_)
 refine S hE 1 rfl fun a hE=>aC (aG ?_)
 refine aB (S hE 1 rfl fun a hE=>?_)
 obtain⟨x1,ex1,hm⟩:=bnd hm
 refine Cl hE rfl rfl ent68 (c_cnf_Normal p1 vp1 hp1 hp x1 ex1) ⟨rfl,trivial⟩ fun v a w hR hE=>?_
 obtain⟨vr1,rfl,hp⟩:=hR
 have hp:=r13 hp
 refine S hE 5 rfl fun a hE=>aC (aG ?_)
 refine aB (S hE 3 rfl fun a hE=>?_)
 refine V hE hp rfl (xf hE fldty65_9 rfl rfl) fun a hE=>V hE hp rfl (xl hE jD 1 rfl rfl rfl rfl) fun a hE=>S hE 1 rfl fun a hE=>?_
 refine iP (wk0 rfl) rfl rfl hE hp rfl [(0,vr1)] ⟨⟨rfl,rfl⟩,trivial⟩ [vr1] 25 (fun w=>by have hc0:=aA.cells hp 0 rfl;simp only[Value.cells] at hc0;simp[Instr.buildSlice,Instr.fill,Value.cells,hc0,go_sem]) ?_
 intro a w b1 hE hp
 have hp:=r14 hp
 obtain⟨x2,ex2,hm⟩:=bnd hm
 obtain⟨sl1,sl1e⟩:=aA.toSl hp 1 rfl
 have hlo1:=fun(w:World) (ty:TypeId)=>aA.len hp 1 rfl bC w ty
 have hlo2:=fun(w:World) (ty:TypeId)=>aA.len hp 1 rfl bC w ty
 refine s_tapp (wk0 rfl) rfl rfl hE sl1e (hp.get 1 rfl) rfl kU rfl rfl 12 rfl rfl (Hp.c 0 rfl 0 rfl w hp) ex2 ?_
 intro v1 us1 a w hE hp
 have hp:=r13 hp
 refine S hE 1 rfl fun a hE=>V hE hp rfl (xf hE fldty65_9 rfl rfl) fun a hE=>?_
 refine oK (wk0 rfl) rfl hE hp rfl rfl rfl 1 rfl jD.size_ (bT.cells hp 12 rfl) (bT.one hp 12 rfl) rfl [aV,aX,aY,aS,aN,aT,aP,(Iv p0.head),(Pv aO 0),v1,(Iv p0.literals),(.bool p0.broken)] rfl ?_
 intro w hp
 have hp:=r13 hp
 refine aC (aG ?_)
 refine aB (S hE 2 rfl fun a hE=>?_)
 refine V hE hp rfl (xf hE aD0 rfl rfl) fun a hE=>V hE hp rfl (xl hE bG 1 rfl rfl rfl rfl) fun a hE=>S hE 1 rfl fun a hE=>V hE hp rfl (dL rfl hE rfl (fun w ty=>hlo1 w ty)) fun a hE=>?_
 obtain⟨x3,ex3,hm⟩:=bnd hm
 refine V hE hp rfl (dD rfl hE rfl rfl (aZ ex3)) fun a hE=>S hE 1 rfl fun a hE=>V hE hp rfl (xf hE aD0 rfl rfl) fun a hE=>?_
 refine dO (wk0 rfl) rfl hE hp rfl rfl rfl 1 rfl bG.size_ rfl (bY ⟨rfl,trivial⟩) [aV,aX,aY,aS,aN,aT,aP,(Iv p0.head),(Pv aO 0),v1,(Iv x3),(.bool p0.broken)] rfl ?_
 intro w hp
 have hp:=r13 hp
 refine aC ?_
 have hE:=hE.cut (E':=[(0,(Pv bp0 0))]) ⟨rfl,trivial⟩
 refine aG (aB ?_)
 refine S hE 2 rfl fun a hE=>V hE hp rfl (xf hE aD0 rfl rfl) fun a hE=>V hE hp rfl (xl hE bG 1 rfl rfl rfl rfl) fun a hE=>S hE 2 rfl fun a hE=>aC (dE ?_)
 obtain rfl:=oj hm
 exact iH hE rfl rfl ⟨_,rfl,_,_,_,_,_,_,_,_,_,_,_,_,rfl,(hp.drop)⟩
theorem U3 {Z:World} {ρ:PH} {L:List bZ} {w:World} (bp0:Nat) (p0:Sol) (aV:Value) (aX:Value) (aY:Value) (aS:Value) (aN:Value) (aF:List Sl×List Pc) (aT:Value) (aP:Value) (aO:Nat) (aK:Value) (aJ:Value) (aQ:Value) (bF:List Sl) (p1:(Option Nat)) (hp:Hp Z ρ (Pt bp0 (.cells #[aV,aX,aY,aS,aN,aT,aP,(Iv p0.head),(Pv aO 0),aQ,(Iv p0.literals),(.bool p0.broken)] 65 (0,0))::aA 3 aV p0.value::aA 3 aX p0.level::aA 71 aY (List.map (hq (aF).2) (p0.reason:List (Option Nat)))::aA 3 aS p0.saved::cO 61 71 (78,3) aN aF (p0.watches:WD) none none::aA 3 aT p0.trail::aA 3 aP p0.starts::Pt aO (.cells #[aK,aJ] 68 (0,0))::aA 3 aK p0.queue.list::aA 4 aJ p0.queue.isin::bT 25 3 aQ bF (p0.proof:(List (List Int)))::L) w) (r:((List Int)×Int)) (hm:kY p0 p1=some r):
  Calls Try.prog 53 #[(Pv bp0 0),(pqv (hq (aF).2 p1))] w (Ret fun v w'=>∃(vr1:Value),v= .tuple #[vr1,(Iv r.2)]∧Hp Z ρ (aA 3 vr1 r.1::Pt bp0 (.cells #[aV,aX,aY,aS,aN,aT,aP,(Iv p0.head),(Pv aO 0),aQ,(Iv p0.literals),(.bool p0.broken)] 65 (0,0))::aA 3 aV p0.value::aA 3 aX p0.level::aA 71 aY (List.map (hq (aF).2) (p0.reason:List (Option Nat)))::aA 3 aS p0.saved::cO 61 71 (78,3) aN aF (p0.watches:WD) none none::aA 3 aT p0.trail::aA 3 aP p0.starts::Pt aO (.cells #[aK,aJ] 68 (0,0))::aA 3 aK p0.queue.list::aA 4 aJ p0.queue.isin::bT 25 3 aQ bF (p0.proof:(List (List Int)))::L) w'):=by
 refine enter (N:=165) Try.func53 rfl rfl [(0,(Pv bp0 0)),(1,(pqv (hq (aF).2 p1)))] rfl (bM ⟨rfl,rfl,trivial⟩) fun a hE=>?_
 unfold kY at hm
 refine aG (aB ?_)
 refine S hE 2 rfl fun a hE=>aC (aG ?_)
 refine aB ?_
 refine iP (wk0 rfl) rfl rfl hE hp rfl [(0,(Iv 0))] ⟨⟨rfl,rfl⟩,trivial⟩ [(Iv 0)] 3 (fun w=>by simp[Instr.buildSlice,Instr.fill,Value.cells,go_sem]) ?_
 intro a w b1 hE hp
 have hp:=r13 hp
 refine S hE 1 rfl fun a hE=>aC (aG ?_)
 refine aB ?_
 refine s_mkmap (κ:=Int) (β:=Bool) (wk0 rfl) rfl rfl hE hp rfl ?_
 intro a w b2 hE hp
 have hp:=r14 hp
 refine S hE 1 rfl fun a hE=>aC (aG ?_)
 refine aB (S hE 2 rfl fun a hE=>?_)
 refine V hE hp rfl (xf hE oD rfl rfl) fun a hE=>V hE hp rfl (xl hE bJ 2 rfl rfl rfl rfl) fun a hE=>V hE hp rfl (dL rfl hE rfl (aA.len hp 8 rfl bC)) fun a hE=>S hE 1 rfl fun a hE=>aC (aG ?_)
 refine aB (S hE 1 rfl fun a hE=>?_)
 obtain⟨x1,ex1,hm⟩:=bnd hm
 rw[ex1,pqv_hq] at hE
 obtain⟨x2,ex2,hm⟩:=bnd hm
 obtain⟨pc1,pc1h,hp⟩:=cO.take ex2 (hp.get 7 rfl)
 rw[pc1h] at hE
 have hp:=r16 hp
 refine S hE 1 rfl fun a hE=>V hE hp rfl (xf hE jE rfl rfl) fun a hE=>V hE hp rfl (xl hE bJ 1 rfl rfl rfl rfl) fun a hE=>S hE 1 rfl fun a hE=>aC (aG ?_)
 have hp:=(hp.get 4 rfl).imp (oH (l:=(([0]:List Int):List Int)) (n:=1) rfl (by decide) rfl)
 have hp:=r16 hp
 obtain⟨j1,hj1,hm⟩:=bnd hm
 refine dH (fun a w=>∃(w14:Value),Env 165 [(0,(Pv bp0 0)),(6,w14)] a∧Hp Z ρ (cO 61 71 (78,3) aN aF (p0.watches:WD) none none::aA 3 w14 j1.1::qM b2 (j1.2:List (Int×Bool))::Pt bp0 (.cells #[aV,aX,aY,aS,aN,aT,aP,(Iv p0.head),(Pv aO 0),aQ,(Iv p0.literals),(.bool p0.broken)] 65 (0,0))::aA 3 aV p0.value::aA 3 aX p0.level::aA 71 aY (List.map (hq (aF).2) (p0.reason:List (Option Nat)))::aA 3 aS p0.saved::aA 3 aT p0.trail::aA 3 aP p0.starts::Pt aO (.cells #[aK,aJ] 68 (0,0))::aA 3 aK p0.queue.list::aA 4 aJ p0.queue.isin::bT 25 3 aQ bF (p0.proof:(List (List Int)))::L) w) ?_ ?_
 ·
  refine k_peel ?_
  refine dF (aG ?_)
  refine aG (aB ?_)
  refine S hE 1 rfl fun a hE=>V hE hp rfl (dL rfl hE rfl (aA.len hp 1 rfl bC)) fun a hE=>S hE 1 rfl fun a hE=>aC ?_
  obtain⟨b3,hc1,hj1⟩:=bnd hj1
  refine dH (fun a w=>∃(w14:Value),Env 165 [(0,(Pv bp0 0)),(6,w14),(7,(.map (some b2))),(8,(Iv (p0.trail.length:Int)))] a∧Hp Z ρ (aA 3 w14 b3.1::aA 3 (Sl.v (Pc.s pc1)) x2::Pt (Pc.b pc1) (.cells #[(Sl.v (Pc.s pc1))] 78 (0,0))::cO 61 71 (78,3) aN aF (p0.watches:WD) none (some ((x1,pc1):Nat×Pc))::qM b2 (b3.2:List (Int×Bool))::Pt bp0 (.cells #[aV,aX,aY,aS,aN,aT,aP,(Iv p0.head),(Pv aO 0),aQ,(Iv p0.literals),(.bool p0.broken)] 65 (0,0))::aA 3 aV p0.value::aA 3 aX p0.level::aA 71 aY (List.map (hq (aF).2) (p0.reason:List (Option Nat)))::aA 3 aS p0.saved::aA 3 aT p0.trail::aA 3 aP p0.starts::Pt aO (.cells #[aK,aJ] 68 (0,0))::aA 3 aK p0.queue.list::aA 4 aJ p0.queue.isin::bT 25 3 aQ bF (p0.proof:(List (List Int)))::L) w) ?_ ?_
  ·refine eU hc1 (fun s a w=>∃(w14:Value),Env 165 [(0,(Pv bp0 0)),(6,w14),(7,(.map (some b2))),(8,(Iv (p0.trail.length:Int))),(30,(Sl.v (Pc.s pc1))),(31,(Iv (x2.length:Int))),(32,(Iv s.1))] a∧Hp Z ρ (aA 3 w14 s.2.1::aA 3 (Sl.v (Pc.s pc1)) x2::Pt (Pc.b pc1) (.cells #[(Sl.v (Pc.s pc1))] 78 (0,0))::cO 61 71 (78,3) aN aF (p0.watches:WD) none (some ((x1,pc1):Nat×Pc))::qM b2 (s.2.2:List (Int×Bool))::Pt bp0 (.cells #[aV,aX,aY,aS,aN,aT,aP,(Iv p0.head),(Pv aO 0),aQ,(Iv p0.literals),(.bool p0.broken)] 65 (0,0))::aA 3 aV p0.value::aA 3 aX p0.level::aA 71 aY (List.map (hq (aF).2) (p0.reason:List (Option Nat)))::aA 3 aS p0.saved::aA 3 aT p0.trail::aA 3 aP p0.starts::Pt aO (.cells #[aK,aJ] 68 (0,0))::aA 3 aK p0.queue.list::aA 4 aJ p0.queue.isin::bT 25 3 aQ bF (p0.proof:(List (List Int)))::L) w) ?_ ?_
   ·exact⟨_,hE.cut ⟨rfl,rfl,rfl,rfl,rfl,rfl,rfl,trivial⟩,hp⟩
   rintro⟨aW,bU,dJ⟩ st a w ⟨w14,hE,hp⟩ hl1
   dsimp only at hE hp hl1
   unfold fU at hl1
   refine aG (aB ?_)
   refine S hE 1 rfl fun a hE=>aC (aG ?_)
   refine dK hE rfl (fun hc2=>?_) (fun hc2=>?_)
   ·replace hl1:=(it hc2).symm.trans hl1
    refine bP (aG ?_)
    obtain⟨j2,hj2,hl1⟩:=bnd hl1
    refine dH (fun a w=>∃(w14:Value),Env 165 [(0,(Pv bp0 0)),(6,w14),(7,(.map (some b2))),(8,(Iv (p0.trail.length:Int))),(30,(Sl.v (Pc.s pc1))),(31,(Iv (x2.length:Int))),(32,(Iv aW))] a∧Hp Z ρ (aA 3 w14 j2.1::aA 3 (Sl.v (Pc.s pc1)) x2::Pt (Pc.b pc1) (.cells #[(Sl.v (Pc.s pc1))] 78 (0,0))::cO 61 71 (78,3) aN aF (p0.watches:WD) none (some ((x1,pc1):Nat×Pc))::qM b2 (j2.2:List (Int×Bool))::Pt bp0 (.cells #[aV,aX,aY,aS,aN,aT,aP,(Iv p0.head),(Pv aO 0),aQ,(Iv p0.literals),(.bool p0.broken)] 65 (0,0))::aA 3 aV p0.value::aA 3 aX p0.level::aA 71 aY (List.map (hq (aF).2) (p0.reason:List (Option Nat)))::aA 3 aS p0.saved::aA 3 aT p0.trail::aA 3 aP p0.starts::Pt aO (.cells #[aK,aJ] 68 (0,0))::aA 3 aK p0.queue.list::aA 4 aJ p0.queue.isin::bT 25 3 aQ bF (p0.proof:(List (List Int)))::L) w) ?_ ?_
    ·
     refine aG (aB ?_)
     obtain⟨x3,ex3,hj2⟩:=bnd hj2
     obtain⟨b4,b4o,b4r,b4v,b4f⟩:=aA.at hp 1 rfl bC ex3
     refine V hE hp rfl (aU rfl hE rfl rfl b4r) fun a hE=>V hE hp rfl (bD rfl hE rfl (fun w hw=>bH bG (b4f 0 _ rfl _ _ w (hw.get 1 rfl)))) fun a hE=>S hE 1 rfl fun a hE=>aC (aG ?_)
     refine aB (S hE 1 rfl fun a hE=>?_)
     obtain⟨x4,ex4,hj2⟩:=bnd hj2
     refine Cl hE rfl rfl E5 (fK x3 hp x4 ex4) ⟨rfl,trivial⟩ fun v a w hR hE=>?_
     obtain⟨rfl,hp⟩:=hR
     have hp:=r16 hp
     refine S hE 1 rfl fun a hE=>aC (aG ?_)
     refine aG (aB ?_)
     refine S hE 2 rfl fun a hE=>V hE hp rfl (v:=(.bool ((nR (dJ:List (Int×Bool)) x4).getD false))) (aI4 (zd:=(false:Bool)) kt3 aA4 zero4 rfl hE 4 (k:=x4) rfl rfl rfl) fun a hE=>S hE 1 rfl fun a hE=>?_
     obtain⟨m1,hg1,hj2⟩:=bnd hj2
     refine lZ [_,_,_,_,_,_,_,_,_] (fun a w=>Env 165 [(50,(.bool m1)),(0,(Pv bp0 0)),(6,w14),(7,(.map (some b2))),(8,(Iv (p0.trail.length:Int))),(11,(Iv x3)),(12,(Iv x4)),(30,(Sl.v (Pc.s pc1))),(31,(Iv (x2.length:Int))),(32,(Iv aW))] a∧Hp Z ρ (aA 3 w14 bU::aA 3 (Sl.v (Pc.s pc1)) x2::Pt (Pc.b pc1) (.cells #[(Sl.v (Pc.s pc1))] 78 (0,0))::cO 61 71 (78,3) aN aF (p0.watches:WD) none (some ((x1,pc1):Nat×Pc))::qM b2 (dJ:List (Int×Bool))::Pt bp0 (.cells #[aV,aX,aY,aS,aN,aT,aP,(Iv p0.head),(Pv aO 0),aQ,(Iv p0.literals),(.bool p0.broken)] 65 (0,0))::aA 3 aV p0.value::aA 3 aX p0.level::aA 71 aY (List.map (hq (aF).2) (p0.reason:List (Option Nat)))::aA 3 aS p0.saved::aA 3 aT p0.trail::aA 3 aP p0.starts::Pt aO (.cells #[aK,aJ] 68 (0,0))::aA 3 aK p0.queue.list::aA 4 aJ p0.queue.isin::bT 25 3 aQ bF (p0.proof:(List (List Int)))::L) w) ?_ ?_
     ·rcases Bool.eq_false_or_eq_true ((nR (dJ:List (Int×Bool)) x4).getD false) with hc3|hc3
      ·
       replace hg1:=(it hc3).symm.trans hg1
       refine Gk hE hc3 rfl fun a hE=>Gk hE hc3 rfl fun a hE=>Gk hE hc3 rfl fun a hE=>Gk hE hc3 rfl fun a hE=>Gk hE hc3 rfl fun a hE=>Gk hE hc3 rfl fun a hE=>Gk hE hc3 rfl fun a hE=>Gk hE hc3 rfl fun a hE=>pk1 hE hc3 rfl rfl rfl rfl fun a hE=>?_
       obtain rfl:=oj hg1
       exact aC ⟨hE.cut ⟨rfl,rfl,rfl,rfl,rfl,rfl,rfl,rfl,rfl,rfl,trivial⟩,hp⟩
      replace hg1:=(ie hc3).symm.trans hg1
      refine Gs hE hc3 rfl rfl fun a hE=>Gs hE hc3 rfl rfl fun a hE=>G hE hp hc3 rfl (xf hE yG rfl rfl) fun a hE=>G hE hp hc3 rfl (xl hE bJ 5 rfl rfl rfl rfl) fun a hE=>Gs hE hc3 rfl rfl fun a hE=>?_
      obtain⟨x5,ex5,hg1⟩:=bnd hg1
      obtain⟨b5,b5o,b5r,b5v,b5f⟩:=aA.at hp 7 rfl bC ex5
      refine G hE hp hc3 rfl (aU rfl hE rfl rfl b5r) fun a hE=>G hE hp hc3 rfl (bD rfl hE rfl (fun w hw=>bH bG (b5f 0 _ rfl _ _ w (hw.get 7 rfl)))) fun a hE=>Gs hE hc3 rfl rfl fun a hE=>pk0 hE hc3 rfl rfl rfl rfl fun a hE=>?_
      obtain rfl:=oj hg1
      exact aC ⟨hE.cut ⟨rfl,rfl,rfl,rfl,rfl,rfl,rfl,rfl,rfl,rfl,trivial⟩,hp⟩
     rintro a w ⟨hE,hp⟩
     refine aC ?_
     refine dK hE rfl (fun hc4=>?_) (fun hc4=>?_)
     ·replace hj2:=(it hc4).symm.trans hj2
      refine dR ?_
      obtain rfl:=oj hj2
      exact⟨_,hE.cut ⟨rfl,rfl,rfl,rfl,rfl,rfl,rfl,trivial⟩,hp⟩
     replace hj2:=(ie hc4).symm.trans hj2
     refine bP (aG ?_)
     refine aB (S hE 2 rfl fun a hE=>?_)
     refine s_mput kt3 aA4 (wk0 rfl) rfl hE hp rfl 4 (k:=x4) (v:=true) rfl rfl rfl rfl ?_
     intro w hp
     have hp:=r16 hp
     refine aC (aG ?_)
     refine oN (by kernel_rfl) (by kernel_rfl) hp ?_
     refine Sq hE 2 rfl fun a hE=>Vq hE rfl (xf hE yG rfl rfl) fun a hE=>Vq hE rfl (xl hE bJ 5 rfl rfl rfl rfl) fun a hE=>Sq hE 1 rfl fun a hE=>?_
     obtain⟨x6,ex6,hj2⟩:=bnd hj2
     obtain⟨b6,b6o,b6r,b6v,b6f⟩:=aA.at hp 7 rfl bC ex6
     refine Vq hE rfl (aU rfl hE rfl rfl b6r) fun a hE=>Vq hE rfl (bD rfl hE rfl (fun w hw=>bH bG (b6f 0 _ rfl _ _ w (hw.get 7 rfl)))) fun a hE=>Sq hE 2 rfl fun a hE=>Vq hE rfl (xf hE pU rfl rfl) fun a hE=>Vq hE rfl (xl hE bJ 5 rfl rfl rfl rfl) fun a hE=>Vq hE rfl (dL rfl hE rfl (aA.len hp 11 rfl bC)) fun a hE=>Sq hE 1 rfl fun a hE=>?_
     refine qR fun w hp=>?_
     have hp:=r16 hp
     have hE:=hE.cut (E':=[(0,(Pv bp0 0)),(6,w14),(7,(.map (some b2))),(8,(Iv (p0.trail.length:Int))),(11,(Iv x3)),(30,(Sl.v (Pc.s pc1))),(31,(Iv (x2.length:Int))),(32,(Iv aW)),(65,(.bool (!decide (x6=(p0.starts.length:Int)))))]) ⟨rfl,rfl,rfl,rfl,rfl,rfl,rfl,rfl,rfl,trivial⟩
     refine dK hE rfl (fun hc5=>?_) (fun hc5=>?_)
     ·replace hj2:=(it hc5).symm.trans hj2
      refine aB (S hE 2 rfl fun a hE=>?_)
      refine iP (wk0 rfl) rfl rfl hE hp rfl [(0,(Iv x3))] ⟨⟨rfl,rfl⟩,trivial⟩ [(Iv x3)] 3 (fun w=>by simp[Instr.buildSlice,Instr.fill,Value.cells,go_sem]) ?_
      intro a w b7 hE hp
      have hp:=r17 hp
      obtain⟨x7,ex7,hj2⟩:=bnd hj2
      refine lY (wk0 rfl) rfl rfl hE hp rfl bC rfl rfl 1 rfl rfl (l2:=[x3]) rfl (fun j u hj=>by have:=Hp.cN 0 rfl 0 _ (bV rfl) w hp j u hj;simpa using this) ex7 ?_
      intro v1 a w hE hp
      have hp:=r17 hp
      refine S hE 1 rfl fun a hE=>aC ?_
      obtain rfl:=oj hj2
      exact⟨_,hE.cut ⟨rfl,rfl,rfl,rfl,rfl,rfl,rfl,trivial⟩,(hp.drop)⟩
     replace hj2:=(ie hc5).symm.trans hj2
     refine bP ?_
     obtain rfl:=oj hj2
     exact⟨_,hE.cut ⟨rfl,rfl,rfl,rfl,rfl,rfl,rfl,trivial⟩,hp⟩
    rintro a w ⟨w14,hE,hp⟩
    refine aB ?_
    obtain⟨x8,ex8,hl1⟩:=bnd hl1
    refine V hE hp rfl (dD rfl hE rfl rfl (aZ ex8)) fun a hE=>S hE 1 rfl fun a hE=>aC ?_
    exact⟨_,(oj hl1).symm,_,hE.cut ⟨rfl,rfl,rfl,rfl,rfl,rfl,rfl,trivial⟩,hp⟩
   replace hl1:=(ie hc2).symm.trans hl1
   refine dR ?_
   refine⟨_,(oj hl1).symm,fun hbb=>?_⟩
   subst hbb
   exact⟨_,hE.cut ⟨rfl,rfl,rfl,rfl,trivial⟩,hp⟩
  rintro a w ⟨w14,hE,hp⟩
  refine aG (aB ?_)
  refine S hE 1 rfl fun a hE=>?_
  obtain⟨x9,ex9,hj1⟩:=bnd hj1
  refine V hE hp rfl (rX rfl hE rfl rfl (aZ ex9)) fun a hE=>S hE 1 rfl fun a hE=>aC (aG ?_)
  obtain⟨b8,hc6,hj1⟩:=bnd hj1
  refine dH (fun a w=>Env 165 [(0,(Pv bp0 0)),(6,w14),(7,(.map (some b2))),(8,(Iv b8))] a∧Hp Z ρ (aA 3 w14 b3.1::aA 3 (Sl.v (Pc.s pc1)) x2::Pt (Pc.b pc1) (.cells #[(Sl.v (Pc.s pc1))] 78 (0,0))::cO 61 71 (78,3) aN aF (p0.watches:WD) none (some ((x1,pc1):Nat×Pc))::qM b2 (b3.2:List (Int×Bool))::Pt bp0 (.cells #[aV,aX,aY,aS,aN,aT,aP,(Iv p0.head),(Pv aO 0),aQ,(Iv p0.literals),(.bool p0.broken)] 65 (0,0))::aA 3 aV p0.value::aA 3 aX p0.level::aA 71 aY (List.map (hq (aF).2) (p0.reason:List (Option Nat)))::aA 3 aS p0.saved::aA 3 aT p0.trail::aA 3 aP p0.starts::Pt aO (.cells #[aK,aJ] 68 (0,0))::aA 3 aK p0.queue.list::aA 4 aJ p0.queue.isin::bT 25 3 aQ bF (p0.proof:(List (List Int)))::L) w) ?_ ?_
  ·refine eU hc6 (fun s a w=>Env 165 [(0,(Pv bp0 0)),(6,w14),(7,(.map (some b2))),(8,(Iv s))] a∧Hp Z ρ (aA 3 w14 b3.1::aA 3 (Sl.v (Pc.s pc1)) x2::Pt (Pc.b pc1) (.cells #[(Sl.v (Pc.s pc1))] 78 (0,0))::cO 61 71 (78,3) aN aF (p0.watches:WD) none (some ((x1,pc1):Nat×Pc))::qM b2 (b3.2:List (Int×Bool))::Pt bp0 (.cells #[aV,aX,aY,aS,aN,aT,aP,(Iv p0.head),(Pv aO 0),aQ,(Iv p0.literals),(.bool p0.broken)] 65 (0,0))::aA 3 aV p0.value::aA 3 aX p0.level::aA 71 aY (List.map (hq (aF).2) (p0.reason:List (Option Nat)))::aA 3 aS p0.saved::aA 3 aT p0.trail::aA 3 aP p0.starts::Pt aO (.cells #[aK,aJ] 68 (0,0))::aA 3 aK p0.queue.list::aA 4 aJ p0.queue.isin::bT 25 3 aQ bF (p0.proof:(List (List Int)))::L) w) ?_ ?_
   ·exact⟨hE.cut ⟨rfl,rfl,rfl,rfl,trivial⟩,hp⟩
   rintro dG st a w ⟨hE,hp⟩ hl2
   unfold gX at hl2
   refine aG (aG ?_)
   refine aB (S hE 3 rfl fun a hE=>?_)
   refine V hE hp rfl (xf hE oD rfl rfl) fun a hE=>V hE hp rfl (xl hE bJ 5 rfl rfl rfl rfl) fun a hE=>S hE 1 rfl fun a hE=>?_
   obtain⟨x10,ex10,hl2⟩:=bnd hl2
   obtain⟨b9,b9o,b9r,b9v,b9f⟩:=aA.at hp 10 rfl bC ex10
   refine V hE hp rfl (aU rfl hE rfl rfl b9r) fun a hE=>V hE hp rfl (bD rfl hE rfl (fun w hw=>bH bG (b9f 0 _ rfl _ _ w (hw.get 10 rfl)))) fun a hE=>?_
   obtain⟨x11,ex11,hl2⟩:=bnd hl2
   refine Cl hE rfl rfl E5 (fK x10 hp x11 ex11) ⟨rfl,trivial⟩ fun v a w hR hE=>?_
   obtain⟨rfl,hp⟩:=hR
   have hp:=r16 hp
   refine V hE hp rfl (v:=(.bool ((nR (b3.2:List (Int×Bool)) x11).getD false))) (aI4 (zd:=(false:Bool)) kt3 aA4 zero4 rfl hE 4 (k:=x11) rfl rfl rfl) fun a hE=>S hE 1 rfl fun a hE=>aC ?_
   refine dK hE rfl (fun hc7=>?_) (fun hc7=>?_)
   ·replace hl2:=(it hc7).symm.trans hl2
    refine bP (dF ?_)
    refine aB (S hE 1 rfl fun a hE=>?_)
    obtain⟨x12,ex12,hl2⟩:=bnd hl2
    refine V hE hp rfl (rX rfl hE rfl rfl (aZ ex12)) fun a hE=>S hE 1 rfl fun a hE=>aC ?_
    exact⟨_,(oj hl2).symm,hE.cut ⟨rfl,rfl,rfl,rfl,trivial⟩,hp⟩
   replace hl2:=(ie hc7).symm.trans hl2
   refine dR ?_
   refine⟨_,(oj hl2).symm,fun hbb=>?_⟩
   subst hbb
   exact⟨hE.cut ⟨rfl,rfl,rfl,rfl,trivial⟩,hp⟩
  rintro a w ⟨hE,hp⟩
  refine aG (aB ?_)
  refine S hE 2 rfl fun a hE=>V hE hp rfl (xf hE oD rfl rfl) fun a hE=>V hE hp rfl (xl hE bJ 5 rfl rfl rfl rfl) fun a hE=>S hE 1 rfl fun a hE=>?_
  obtain⟨x13,ex13,hj1⟩:=bnd hj1
  obtain⟨b10,b10o,b10r,b10v,b10f⟩:=aA.at hp 10 rfl bC ex13
  refine V hE hp rfl (aU rfl hE rfl rfl b10r) fun a hE=>V hE hp rfl (bD rfl hE rfl (fun w hw=>bH bG (b10f 0 _ rfl _ _ w (hw.get 10 rfl)))) fun a hE=>S hE 1 rfl fun a hE=>aC ?_
  have hE:=hE.cut (E':=[(0,(Pv bp0 0)),(6,w14),(7,(.map (some b2))),(8,(Iv b8)),(13,(Iv x13))]) ⟨rfl,rfl,rfl,rfl,rfl,trivial⟩
  refine aG (aG ?_)
  refine oN (by kernel_rfl) (by kernel_rfl) hp ?_
  refine Sq hE 2 rfl fun a hE=>Vq hE rfl (xf hE yH rfl rfl) fun a hE=>Vq hE rfl (xl hE nG 5 rfl rfl rfl rfl) fun a hE=>Sq hE 1 rfl fun a hE=>?_
  obtain⟨x14,ex14,hj1⟩:=bnd hj1
  refine yU (wk0 rfl) rfl rfl hE rfl [(Iv x13)] ⟨rfl,trivial⟩ E5 (v:=(Iv x14)) (fun w hw=>Calls.mono (fK x13 hw x14 ex14) fun e w' ⟨v,he,hv,hh⟩=>⟨by rw[he,hv],hh⟩) ?_
  intro a hE
  obtain⟨x15,ex15,hj1⟩:=bnd hj1
  obtain⟨b11,b11o,b11r,b11v,b11f⟩:=OwnQ.at hp 8 rfl pR ex15
  refine Vq hE rfl (aU rfl hE rfl rfl b11r) fun a hE=>Vq hE rfl (bD rfl hE rfl (fun w hw=>bH N8 (b11f 0 _ rfl _ _ w (hw.get 8 rfl)))) fun a hE=>Vq hE rfl (v:=(.bool x15.isNone)) (ex_qnil (e:=x15) (au:=(aF).2) pty71 rfl hE rfl rfl) fun a hE=>?_
  refine qR fun w hp=>?_
  have hp:=r16 hp
  refine dK hE rfl (fun hc8=>?_) (fun hc8=>?_)
  ·replace hj1:=(it hc8).symm.trans hj1
   refine aG (aB ?_)
   refine S hE 2 rfl fun a hE=>?_
   obtain⟨x16,ex16,hj1⟩:=bnd hj1
   refine V hE hp rfl (mX rfl hE rfl (aZ ex16)) fun a hE=>?_
   obtain⟨x17,ex17,hj1⟩:=bnd hj1
   obtain⟨b12,b12o,b12r,b12v,b12f⟩:=aA.at hp 0 rfl bC ex17
   refine V hE hp rfl (aU rfl hE rfl rfl b12r) fun a hE=>?_
   refine mY (wk0 rfl) rfl hE hp rfl rfl rfl 0 rfl ex17 b12v 0 (e':=x16) bG.size_ rfl rfl rfl ⟨rfl,rfl⟩ ?_
   intro w hp
   have hp:=r16 hp
   refine aC ?_
   refine dR ?_
   obtain⟨hp,hbk3⟩:=cO.back0 (Tc:=(78,3)) ex2 (((hp.get 3 rfl).get 3 rfl).get 3 rfl)
   have hp:=r14 hp
   obtain rfl:=oj hj1
   exact⟨_,hE.cut ⟨rfl,rfl,trivial⟩,hp⟩
  replace hj1:=(ie hc8).symm.trans hj1
  refine bP (aG ?_)
  refine aB (S hE 1 rfl fun a hE=>?_)
  refine aC (aG ?_)
  obtain⟨x18,ex18,hj1⟩:=bnd hj1
  obtain⟨x19,ex19,hj1⟩:=bnd hj1
  obtain⟨x20,ex20,hj1⟩:=bnd hj1
  obtain⟨x21,ex21,hj1⟩:=bnd hj1
  have hp:=hp.drew
  refine jS ([([],At0 Z ρ),([],At1 Z ρ (Pt bp0 (.cells #[aV,aX,aY,aS,aN,aT,aP,(Iv p0.head),(Pv aO 0),aQ,(Iv p0.literals),(.bool p0.broken)] 65 (0,0)))),([],At1 Z ρ (aA 71 aY (List.map (hq (aF).2) (p0.reason:List (Option Nat)))))]:Facts) (fun a w=>∃ypc91:Pc,Env 165 [(0,(Pv bp0 0)),(6,w14),(7,(.map (some b2))),(8,(Iv b8)),(9,N0),(13,(Iv x13)),(116,(Sl.v (Pc.s ypc91))),(117,(Iv (x21.length:Int))),(118,(Iv 0))] a∧Hp Z ρ (aA 3 (Sl.v (Pc.s ypc91)) x21::Pt (Pc.b ypc91) (.cells #[(Sl.v (Pc.s ypc91))] 78 (0,0))::cO 61 71 (78,3) aN aF (p0.watches:WD) none (some ((x20,ypc91):Nat×Pc))::aA 3 w14 b3.1::qM b2 (b3.2:List (Int×Bool))::Pt bp0 (.cells #[aV,aX,aY,aS,aN,aT,aP,(Iv p0.head),(Pv aO 0),aQ,(Iv p0.literals),(.bool p0.broken)] 65 (0,0))::aA 3 aV p0.value::aA 3 aX p0.level::aA 71 aY (List.map (hq (aF).2) (p0.reason:List (Option Nat)))::aA 3 aS p0.saved::aA 3 aT p0.trail::aA 3 aP p0.starts::Pt aO (.cells #[aK,aJ] 68 (0,0))::aA 3 aK p0.queue.list::aA 4 aJ p0.queue.isin::bT 25 3 aQ bF (p0.proof:(List (List Int)))::L) w) (by kernel_rfl) ⟨fun _=>⟨_,hp⟩,fun _=>⟨_,(hp.get 5 rfl)⟩,fun _=>⟨_,(hp.get 8 rfl)⟩,trivial⟩ (fun hS=>?_) ?_
  ·
   generalize w.drew=w at hS hp⊢
   refine Ts [0,1] hE hS rfl rfl (by kernel_rfl) fun a hE hS=>T0 2 hE hS rfl rfl rfl (by kernel_rfl) (fun _=>xf hE yH rfl rfl) fun a hE hS=>T 3 1 hE hS rfl rfl rfl (by kernel_rfl) (fun _=>xl hE nG 0 rfl rfl rfl rfl) fun a hE hS=>Ts [4,12] hE hS rfl rfl (by kernel_rfl) fun a hE hS=>?_
   refine W1 5 (by kernel_rfl) rfl ?_
   refine Cl hE rfl rfl E5 (fK x13 hp x18 ex18) ⟨rfl,trivial⟩ fun v a w hR hE=>?_
   obtain⟨rfl,hp⟩:=hR
   have hp:=r16 hp
   refine aC (aI ⟨gp0 hp,gp 5 hp rfl,gp 8 hp rfl,trivial⟩ fun hS=>?_)
   obtain⟨b14,b14o,b14r,b14v,b14f⟩:=OwnQ.at hp 8 rfl pR ex19
   refine T0 6 hE hS rfl rfl rfl (by kernel_rfl) (fun _=>aU rfl hE rfl rfl b14r) fun a hE hS=>T 7 2 hE hS rfl rfl rfl (by kernel_rfl) (fun _=>bD rfl hE rfl (fun w hw=>bH N8 (b14f 0 _ rfl _ _ w (hw.get 0 rfl)))) fun a hE hS=>?_
   obtain⟨hp,hbk5⟩:=cO.back0 (Tc:=(78,3)) ex2 (((hp.get 3 rfl).get 3 rfl).get 3 rfl)
   have hp:=r14 hp
   rw[ex20,pqv_hq] at hE
   obtain⟨pc3,pc3h,hp⟩:=cO.take ex21 (hp.get 0 rfl)
   rw[pc3h] at hE
   have hp:=r16 hp
   refine Ts [8] hE hS rfl rfl (by kernel_rfl) fun a hE hS=>T0 9 hE hS rfl rfl rfl (by kernel_rfl) (fun _=>xf hE jE rfl rfl) fun a hE hS=>?_
   refine W1 10 (by kernel_rfl) rfl ?_
   refine V hE hp rfl (xl hE bJ 1 rfl rfl rfl rfl) fun a hE=>?_
   refine aC (aI ⟨gp0 hp,gp 5 hp rfl,gp 8 hp rfl,trivial⟩ fun hS=>?_)
   refine T0 11 hE hS rfl rfl rfl (by kernel_rfl) (fun _=>dL rfl hE rfl (aA.len hp 0 rfl bC)) fun a hE hS=>?_
   exact eG (by kernel_rfl) ⟨_,hE.cut ⟨rfl,rfl,rfl,rfl,rfl,rfl,rfl,rfl,rfl,trivial⟩,hp⟩
  rintro a w ⟨ypc91,hE,hp⟩
  have hp:=hp.emp (aA.nil (α:=Int) 3)
  have hp:=r17 hp
  obtain⟨b15,hc9,hj1⟩:=bnd hj1
  refine dH (fun a w=>∃(w95:Value),Env 165 [(0,(Pv bp0 0)),(6,w14),(7,(.map (some b2))),(8,(Iv b8)),(9,w95)] a∧Hp Z ρ (aA 3 w95 b15::aA 3 (Sl.v (Pc.s ypc91)) x21::Pt (Pc.b ypc91) (.cells #[(Sl.v (Pc.s ypc91))] 78 (0,0))::cO 61 71 (78,3) aN aF (p0.watches:WD) none (some ((x20,ypc91):Nat×Pc))::aA 3 w14 b3.1::qM b2 (b3.2:List (Int×Bool))::Pt bp0 (.cells #[aV,aX,aY,aS,aN,aT,aP,(Iv p0.head),(Pv aO 0),aQ,(Iv p0.literals),(.bool p0.broken)] 65 (0,0))::aA 3 aV p0.value::aA 3 aX p0.level::aA 71 aY (List.map (hq (aF).2) (p0.reason:List (Option Nat)))::aA 3 aS p0.saved::aA 3 aT p0.trail::aA 3 aP p0.starts::Pt aO (.cells #[aK,aJ] 68 (0,0))::aA 3 aK p0.queue.list::aA 4 aJ p0.queue.isin::bT 25 3 aQ bF (p0.proof:(List (List Int)))::L) w) ?_ ?_
  ·refine eU hc9 (fun s a w=>∃(w95:Value),Env 165 [(0,(Pv bp0 0)),(6,w14),(7,(.map (some b2))),(8,(Iv b8)),(9,w95),(13,(Iv x13)),(116,(Sl.v (Pc.s ypc91))),(117,(Iv (x21.length:Int))),(118,(Iv s.1))] a∧Hp Z ρ (aA 3 w95 s.2::aA 3 (Sl.v (Pc.s ypc91)) x21::Pt (Pc.b ypc91) (.cells #[(Sl.v (Pc.s ypc91))] 78 (0,0))::cO 61 71 (78,3) aN aF (p0.watches:WD) none (some ((x20,ypc91):Nat×Pc))::aA 3 w14 b3.1::qM b2 (b3.2:List (Int×Bool))::Pt bp0 (.cells #[aV,aX,aY,aS,aN,aT,aP,(Iv p0.head),(Pv aO 0),aQ,(Iv p0.literals),(.bool p0.broken)] 65 (0,0))::aA 3 aV p0.value::aA 3 aX p0.level::aA 71 aY (List.map (hq (aF).2) (p0.reason:List (Option Nat)))::aA 3 aS p0.saved::aA 3 aT p0.trail::aA 3 aP p0.starts::Pt aO (.cells #[aK,aJ] 68 (0,0))::aA 3 aK p0.queue.list::aA 4 aJ p0.queue.isin::bT 25 3 aQ bF (p0.proof:(List (List Int)))::L) w) ?_ ?_
   ·exact⟨_,hE.cut ⟨rfl,rfl,rfl,rfl,rfl,rfl,rfl,rfl,rfl,trivial⟩,hp⟩
   rintro⟨lN,F6⟩ st a w ⟨w95,hE,hp⟩ hl3
   dsimp only at hE hp hl3
   unfold gY at hl3
   refine aG (aB ?_)
   refine S hE 1 rfl fun a hE=>aC (aG ?_)
   refine dK hE rfl (fun hc10=>?_) (fun hc10=>?_)
   ·replace hl3:=(it hc10).symm.trans hl3
    refine bP (aG ?_)
    refine dF (aG ?_)
    refine aB ?_
    obtain⟨x22,ex22,hl3⟩:=bnd hl3
    obtain⟨b16,b16o,b16r,b16v,b16f⟩:=aA.at hp 1 rfl bC ex22
    refine V hE hp rfl (aU rfl hE rfl rfl b16r) fun a hE=>V hE hp rfl (bD rfl hE rfl (fun w hw=>bH bG (b16f 0 _ rfl _ _ w (hw.get 1 rfl)))) fun a hE=>S hE 1 rfl fun a hE=>aC (aG ?_)
    refine aB (S hE 3 rfl fun a hE=>?_)
    refine aC ?_
    refine dK hE rfl (fun hc11=>?_) (fun hc11=>?_)
    ·replace hl3:=(it hc11).symm.trans hl3
     refine aB (S hE 2 rfl fun a hE=>?_)
     refine iP (wk0 rfl) rfl rfl hE hp rfl [(0,(Iv x22))] ⟨⟨rfl,rfl⟩,trivial⟩ [(Iv x22)] 3 (fun w=>by simp[Instr.buildSlice,Instr.fill,Value.cells,go_sem]) ?_
     intro a w b17 hE hp
     have hp:=r18 hp
     obtain⟨x23,ex23,hl3⟩:=bnd hl3
     refine lY (wk0 rfl) rfl rfl hE hp rfl bC rfl rfl 1 rfl rfl (l2:=[x22]) rfl (fun j u hj=>by have:=Hp.cN 0 rfl 0 _ (bV rfl) w hp j u hj;simpa using this) ex23 ?_
     intro v2 a w hE hp
     have hp:=r18 hp
     refine S hE 1 rfl fun a hE=>aC (aB ?_)
     obtain⟨x24,ex24,hl3⟩:=bnd hl3
     refine V hE hp rfl (dD rfl hE rfl rfl (aZ ex24)) fun a hE=>S hE 1 rfl fun a hE=>aC ?_
     exact⟨_,(oj hl3).symm,_,hE.cut ⟨rfl,rfl,rfl,rfl,rfl,rfl,rfl,rfl,rfl,trivial⟩,(hp.drop)⟩
    replace hl3:=(ie hc11).symm.trans hl3
    refine bP (aB ?_)
    obtain⟨x25,ex25,hl3⟩:=bnd hl3
    refine V hE hp rfl (dD rfl hE rfl rfl (aZ ex25)) fun a hE=>S hE 1 rfl fun a hE=>aC ?_
    have hE:=hE.cut (E':=[(0,(Pv bp0 0)),(6,w14),(7,(.map (some b2))),(8,(Iv b8)),(9,w95),(13,(Iv x13)),(116,(Sl.v (Pc.s ypc91))),(117,(Iv (x21.length:Int))),(118,(Iv x25))]) ⟨rfl,rfl,rfl,rfl,rfl,rfl,rfl,rfl,rfl,trivial⟩
    exact⟨_,(oj hl3).symm,_,hE.cut ⟨rfl,rfl,rfl,rfl,rfl,rfl,rfl,rfl,rfl,trivial⟩,hp⟩
   replace hl3:=(ie hc10).symm.trans hl3
   refine dR ?_
   refine⟨_,(oj hl3).symm,fun hbb=>?_⟩
   subst hbb
   exact⟨_,hE.cut ⟨rfl,rfl,rfl,rfl,rfl,trivial⟩,hp⟩
  rintro a w ⟨w95,hE,hp⟩
  obtain⟨hp,hbk6⟩:=cO.back0 (Tc:=(78,3)) ex21 (((hp.get 3 rfl).get 3 rfl).get 3 rfl)
  have hp:=r15 hp
  obtain⟨b18,hc12,hj1⟩:=bnd hj1
  refine in_loop hc12 (fun s a w=>∃(w95:Value) (w14:Value),Env 165 [(0,(Pv bp0 0)),(6,w14),(7,(.map (some b2))),(8,(Iv s.1)),(9,w95)] a∧Hp Z ρ (cO 61 71 (78,3) aN aF (p0.watches:WD) none none::aA 3 w95 s.2.1::aA 3 w14 s.2.2.1::qM b2 (s.2.2.2:List (Int×Bool))::Pt bp0 (.cells #[aV,aX,aY,aS,aN,aT,aP,(Iv p0.head),(Pv aO 0),aQ,(Iv p0.literals),(.bool p0.broken)] 65 (0,0))::aA 3 aV p0.value::aA 3 aX p0.level::aA 71 aY (List.map (hq (aF).2) (p0.reason:List (Option Nat)))::aA 3 aS p0.saved::aA 3 aT p0.trail::aA 3 aP p0.starts::Pt aO (.cells #[aK,aJ] 68 (0,0))::aA 3 aK p0.queue.list::aA 4 aJ p0.queue.isin::bT 25 3 aQ bF (p0.proof:(List (List Int)))::L) w) ?_ ?_
  ·exact⟨_,_,hE.cut ⟨rfl,rfl,rfl,rfl,rfl,trivial⟩,hp⟩
  rintro⟨vV,sJ,lp4_2,lp4_3⟩ st a w ⟨w95,w14,hE,hp⟩ hl4
  dsimp only at hE hp hl4
  unfold gZ at hl4
  refine dF (aG ?_)
  refine aG (aB ?_)
  refine S hE 1 rfl fun a hE=>V hE hp rfl (dL rfl hE rfl (aA.len hp 1 rfl bC)) fun a hE=>S hE 1 rfl fun a hE=>aC ?_
  obtain⟨b19,hc13,hl4⟩:=bnd hl4
  refine dH (fun a w=>∃(w14:Value),Env 165 [(0,(Pv bp0 0)),(6,w14),(7,(.map (some b2))),(8,(Iv vV))] a∧Hp Z ρ (cO 61 71 (78,3) aN aF (p0.watches:WD) none none::aA 3 w95 sJ::aA 3 w14 b19.1::qM b2 (b19.2:List (Int×Bool))::Pt bp0 (.cells #[aV,aX,aY,aS,aN,aT,aP,(Iv p0.head),(Pv aO 0),aQ,(Iv p0.literals),(.bool p0.broken)] 65 (0,0))::aA 3 aV p0.value::aA 3 aX p0.level::aA 71 aY (List.map (hq (aF).2) (p0.reason:List (Option Nat)))::aA 3 aS p0.saved::aA 3 aT p0.trail::aA 3 aP p0.starts::Pt aO (.cells #[aK,aJ] 68 (0,0))::aA 3 aK p0.queue.list::aA 4 aJ p0.queue.isin::bT 25 3 aQ bF (p0.proof:(List (List Int)))::L) w) ?_ ?_
  ·refine eU hc13 (fun s a w=>∃(w14:Value),Env 165 [(0,(Pv bp0 0)),(6,w14),(7,(.map (some b2))),(8,(Iv vV)),(30,w95),(31,(Iv (sJ.length:Int))),(32,(Iv s.1))] a∧Hp Z ρ (cO 61 71 (78,3) aN aF (p0.watches:WD) none none::aA 3 w95 sJ::aA 3 w14 s.2.1::qM b2 (s.2.2:List (Int×Bool))::Pt bp0 (.cells #[aV,aX,aY,aS,aN,aT,aP,(Iv p0.head),(Pv aO 0),aQ,(Iv p0.literals),(.bool p0.broken)] 65 (0,0))::aA 3 aV p0.value::aA 3 aX p0.level::aA 71 aY (List.map (hq (aF).2) (p0.reason:List (Option Nat)))::aA 3 aS p0.saved::aA 3 aT p0.trail::aA 3 aP p0.starts::Pt aO (.cells #[aK,aJ] 68 (0,0))::aA 3 aK p0.queue.list::aA 4 aJ p0.queue.isin::bT 25 3 aQ bF (p0.proof:(List (List Int)))::L) w) ?_ ?_
   ·exact⟨_,hE.cut ⟨rfl,rfl,rfl,rfl,rfl,rfl,rfl,trivial⟩,hp⟩
   rintro⟨F7,lp5_1,lp5_2⟩ st a w ⟨w14,hE,hp⟩ hl5
   dsimp only at hE hp hl5
   unfold pK at hl5
   refine aG (aB ?_)
   refine S hE 1 rfl fun a hE=>aC (aG ?_)
   refine dK hE rfl (fun hc14=>?_) (fun hc14=>?_)
   ·replace hl5:=(it hc14).symm.trans hl5
    refine bP (aG ?_)
    obtain⟨j3,hj3,hl5⟩:=bnd hl5
    refine dH (fun a w=>∃(w14:Value),Env 165 [(0,(Pv bp0 0)),(6,w14),(7,(.map (some b2))),(8,(Iv vV)),(30,w95),(31,(Iv (sJ.length:Int))),(32,(Iv F7))] a∧Hp Z ρ (cO 61 71 (78,3) aN aF (p0.watches:WD) none none::aA 3 w95 sJ::aA 3 w14 j3.1::qM b2 (j3.2:List (Int×Bool))::Pt bp0 (.cells #[aV,aX,aY,aS,aN,aT,aP,(Iv p0.head),(Pv aO 0),aQ,(Iv p0.literals),(.bool p0.broken)] 65 (0,0))::aA 3 aV p0.value::aA 3 aX p0.level::aA 71 aY (List.map (hq (aF).2) (p0.reason:List (Option Nat)))::aA 3 aS p0.saved::aA 3 aT p0.trail::aA 3 aP p0.starts::Pt aO (.cells #[aK,aJ] 68 (0,0))::aA 3 aK p0.queue.list::aA 4 aJ p0.queue.isin::bT 25 3 aQ bF (p0.proof:(List (List Int)))::L) w) ?_ ?_
    ·
     refine aG (aB ?_)
     obtain⟨x26,ex26,hj3⟩:=bnd hj3
     obtain⟨b20,b20o,b20r,b20v,b20f⟩:=aA.at hp 1 rfl bC ex26
     refine V hE hp rfl (aU rfl hE rfl rfl b20r) fun a hE=>V hE hp rfl (bD rfl hE rfl (fun w hw=>bH bG (b20f 0 _ rfl _ _ w (hw.get 1 rfl)))) fun a hE=>S hE 1 rfl fun a hE=>aC (aG ?_)
     refine aB (S hE 1 rfl fun a hE=>?_)
     obtain⟨x27,ex27,hj3⟩:=bnd hj3
     refine Cl hE rfl rfl E5 (fK x26 hp x27 ex27) ⟨rfl,trivial⟩ fun v a w hR hE=>?_
     obtain⟨rfl,hp⟩:=hR
     have hp:=r15 hp
     refine S hE 1 rfl fun a hE=>aC (aG ?_)
     refine aG (aB ?_)
     refine S hE 2 rfl fun a hE=>V hE hp rfl (v:=(.bool ((nR (lp5_2:List (Int×Bool)) x27).getD false))) (aI4 (zd:=(false:Bool)) kt3 aA4 zero4 rfl hE 3 (k:=x27) rfl rfl rfl) fun a hE=>S hE 1 rfl fun a hE=>?_
     obtain⟨m2,hg2,hj3⟩:=bnd hj3
     refine lZ [_,_,_,_,_,_,_,_,_] (fun a w=>Env 165 [(50,(.bool m2)),(0,(Pv bp0 0)),(6,w14),(7,(.map (some b2))),(8,(Iv vV)),(11,(Iv x26)),(12,(Iv x27)),(30,w95),(31,(Iv (sJ.length:Int))),(32,(Iv F7))] a∧Hp Z ρ (cO 61 71 (78,3) aN aF (p0.watches:WD) none none::aA 3 w95 sJ::aA 3 w14 lp5_1::qM b2 (lp5_2:List (Int×Bool))::Pt bp0 (.cells #[aV,aX,aY,aS,aN,aT,aP,(Iv p0.head),(Pv aO 0),aQ,(Iv p0.literals),(.bool p0.broken)] 65 (0,0))::aA 3 aV p0.value::aA 3 aX p0.level::aA 71 aY (List.map (hq (aF).2) (p0.reason:List (Option Nat)))::aA 3 aS p0.saved::aA 3 aT p0.trail::aA 3 aP p0.starts::Pt aO (.cells #[aK,aJ] 68 (0,0))::aA 3 aK p0.queue.list::aA 4 aJ p0.queue.isin::bT 25 3 aQ bF (p0.proof:(List (List Int)))::L) w) ?_ ?_
     ·rcases Bool.eq_false_or_eq_true ((nR (lp5_2:List (Int×Bool)) x27).getD false) with hc15|hc15
      ·
       replace hg2:=(it hc15).symm.trans hg2
       refine Gk hE hc15 rfl fun a hE=>Gk hE hc15 rfl fun a hE=>Gk hE hc15 rfl fun a hE=>Gk hE hc15 rfl fun a hE=>Gk hE hc15 rfl fun a hE=>Gk hE hc15 rfl fun a hE=>Gk hE hc15 rfl fun a hE=>Gk hE hc15 rfl fun a hE=>pk1 hE hc15 rfl rfl rfl rfl fun a hE=>?_
       obtain rfl:=oj hg2
       exact aC ⟨hE.cut ⟨rfl,rfl,rfl,rfl,rfl,rfl,rfl,rfl,rfl,rfl,trivial⟩,hp⟩
      replace hg2:=(ie hc15).symm.trans hg2
      refine Gs hE hc15 rfl rfl fun a hE=>Gs hE hc15 rfl rfl fun a hE=>G hE hp hc15 rfl (xf hE yG rfl rfl) fun a hE=>G hE hp hc15 rfl (xl hE bJ 4 rfl rfl rfl rfl) fun a hE=>Gs hE hc15 rfl rfl fun a hE=>?_
      obtain⟨x28,ex28,hg2⟩:=bnd hg2
      obtain⟨b21,b21o,b21r,b21v,b21f⟩:=aA.at hp 6 rfl bC ex28
      refine G hE hp hc15 rfl (aU rfl hE rfl rfl b21r) fun a hE=>G hE hp hc15 rfl (bD rfl hE rfl (fun w hw=>bH bG (b21f 0 _ rfl _ _ w (hw.get 6 rfl)))) fun a hE=>Gs hE hc15 rfl rfl fun a hE=>pk0 hE hc15 rfl rfl rfl rfl fun a hE=>?_
      obtain rfl:=oj hg2
      exact aC ⟨hE.cut ⟨rfl,rfl,rfl,rfl,rfl,rfl,rfl,rfl,rfl,rfl,trivial⟩,hp⟩
     rintro a w ⟨hE,hp⟩
     refine aC ?_
     refine dK hE rfl (fun hc16=>?_) (fun hc16=>?_)
     ·replace hj3:=(it hc16).symm.trans hj3
      refine dR ?_
      obtain rfl:=oj hj3
      exact⟨_,hE.cut ⟨rfl,rfl,rfl,rfl,rfl,rfl,rfl,trivial⟩,hp⟩
     replace hj3:=(ie hc16).symm.trans hj3
     refine bP (aG ?_)
     refine aB (S hE 2 rfl fun a hE=>?_)
     refine s_mput kt3 aA4 (wk0 rfl) rfl hE hp rfl 3 (k:=x27) (v:=true) rfl rfl rfl rfl ?_
     intro w hp
     have hp:=r15 hp
     refine aC (aG ?_)
     refine oN (by kernel_rfl) (by kernel_rfl) hp ?_
     refine Sq hE 2 rfl fun a hE=>Vq hE rfl (xf hE yG rfl rfl) fun a hE=>Vq hE rfl (xl hE bJ 4 rfl rfl rfl rfl) fun a hE=>Sq hE 1 rfl fun a hE=>?_
     obtain⟨x29,ex29,hj3⟩:=bnd hj3
     obtain⟨b22,b22o,b22r,b22v,b22f⟩:=aA.at hp 6 rfl bC ex29
     refine Vq hE rfl (aU rfl hE rfl rfl b22r) fun a hE=>Vq hE rfl (bD rfl hE rfl (fun w hw=>bH bG (b22f 0 _ rfl _ _ w (hw.get 6 rfl)))) fun a hE=>Sq hE 2 rfl fun a hE=>Vq hE rfl (xf hE pU rfl rfl) fun a hE=>Vq hE rfl (xl hE bJ 4 rfl rfl rfl rfl) fun a hE=>Vq hE rfl (dL rfl hE rfl (aA.len hp 10 rfl bC)) fun a hE=>Sq hE 1 rfl fun a hE=>?_
     refine qR fun w hp=>?_
     have hp:=r15 hp
     have hE:=hE.cut (E':=[(0,(Pv bp0 0)),(6,w14),(7,(.map (some b2))),(8,(Iv vV)),(11,(Iv x26)),(30,w95),(31,(Iv (sJ.length:Int))),(32,(Iv F7)),(65,(.bool (!decide (x29=(p0.starts.length:Int)))))]) ⟨rfl,rfl,rfl,rfl,rfl,rfl,rfl,rfl,rfl,trivial⟩
     refine dK hE rfl (fun hc17=>?_) (fun hc17=>?_)
     ·replace hj3:=(it hc17).symm.trans hj3
      refine aB (S hE 2 rfl fun a hE=>?_)
      refine iP (wk0 rfl) rfl rfl hE hp rfl [(0,(Iv x26))] ⟨⟨rfl,rfl⟩,trivial⟩ [(Iv x26)] 3 (fun w=>by simp[Instr.buildSlice,Instr.fill,Value.cells,go_sem]) ?_
      intro a w b23 hE hp
      have hp:=r16 hp
      obtain⟨x30,ex30,hj3⟩:=bnd hj3
      refine lY (wk0 rfl) rfl rfl hE hp rfl bC rfl rfl 3 rfl rfl (l2:=[x26]) rfl (fun j u hj=>by have:=Hp.cN 0 rfl 0 _ (bV rfl) w hp j u hj;simpa using this) ex30 ?_
      intro v3 a w hE hp
      have hp:=r16 hp
      refine S hE 1 rfl fun a hE=>aC ?_
      obtain rfl:=oj hj3
      exact⟨_,hE.cut ⟨rfl,rfl,rfl,rfl,rfl,rfl,rfl,trivial⟩,(hp.drop)⟩
     replace hj3:=(ie hc17).symm.trans hj3
     refine bP ?_
     obtain rfl:=oj hj3
     exact⟨_,hE.cut ⟨rfl,rfl,rfl,rfl,rfl,rfl,rfl,trivial⟩,hp⟩
    rintro a w ⟨w14,hE,hp⟩
    refine aB ?_
    obtain⟨x31,ex31,hl5⟩:=bnd hl5
    refine V hE hp rfl (dD rfl hE rfl rfl (aZ ex31)) fun a hE=>S hE 1 rfl fun a hE=>aC ?_
    exact⟨_,(oj hl5).symm,_,hE.cut ⟨rfl,rfl,rfl,rfl,rfl,rfl,rfl,trivial⟩,hp⟩
   replace hl5:=(ie hc14).symm.trans hl5
   refine dR ?_
   refine⟨_,(oj hl5).symm,fun hbb=>?_⟩
   subst hbb
   exact⟨_,hE.cut ⟨rfl,rfl,rfl,rfl,trivial⟩,hp⟩
  rintro a w ⟨w14,hE,hp⟩
  refine aG (aB ?_)
  refine S hE 1 rfl fun a hE=>?_
  obtain⟨x32,ex32,hl4⟩:=bnd hl4
  refine V hE hp rfl (rX rfl hE rfl rfl (aZ ex32)) fun a hE=>S hE 1 rfl fun a hE=>aC (aG ?_)
  obtain⟨b24,hc18,hl4⟩:=bnd hl4
  refine dH (fun a w=>Env 165 [(0,(Pv bp0 0)),(6,w14),(7,(.map (some b2))),(8,(Iv b24))] a∧Hp Z ρ (cO 61 71 (78,3) aN aF (p0.watches:WD) none none::aA 3 w95 sJ::aA 3 w14 b19.1::qM b2 (b19.2:List (Int×Bool))::Pt bp0 (.cells #[aV,aX,aY,aS,aN,aT,aP,(Iv p0.head),(Pv aO 0),aQ,(Iv p0.literals),(.bool p0.broken)] 65 (0,0))::aA 3 aV p0.value::aA 3 aX p0.level::aA 71 aY (List.map (hq (aF).2) (p0.reason:List (Option Nat)))::aA 3 aS p0.saved::aA 3 aT p0.trail::aA 3 aP p0.starts::Pt aO (.cells #[aK,aJ] 68 (0,0))::aA 3 aK p0.queue.list::aA 4 aJ p0.queue.isin::bT 25 3 aQ bF (p0.proof:(List (List Int)))::L) w) ?_ ?_
  ·refine eU hc18 (fun s a w=>Env 165 [(0,(Pv bp0 0)),(6,w14),(7,(.map (some b2))),(8,(Iv s))] a∧Hp Z ρ (cO 61 71 (78,3) aN aF (p0.watches:WD) none none::aA 3 w95 sJ::aA 3 w14 b19.1::qM b2 (b19.2:List (Int×Bool))::Pt bp0 (.cells #[aV,aX,aY,aS,aN,aT,aP,(Iv p0.head),(Pv aO 0),aQ,(Iv p0.literals),(.bool p0.broken)] 65 (0,0))::aA 3 aV p0.value::aA 3 aX p0.level::aA 71 aY (List.map (hq (aF).2) (p0.reason:List (Option Nat)))::aA 3 aS p0.saved::aA 3 aT p0.trail::aA 3 aP p0.starts::Pt aO (.cells #[aK,aJ] 68 (0,0))::aA 3 aK p0.queue.list::aA 4 aJ p0.queue.isin::bT 25 3 aQ bF (p0.proof:(List (List Int)))::L) w) ?_ ?_
   ·exact⟨hE.cut ⟨rfl,rfl,rfl,rfl,trivial⟩,hp⟩
   rintro lp6_0 st a w ⟨hE,hp⟩ hl6
   unfold pM at hl6
   refine aG (aG ?_)
   refine aB (S hE 3 rfl fun a hE=>?_)
   refine V hE hp rfl (xf hE oD rfl rfl) fun a hE=>V hE hp rfl (xl hE bJ 4 rfl rfl rfl rfl) fun a hE=>S hE 1 rfl fun a hE=>?_
   obtain⟨x33,ex33,hl6⟩:=bnd hl6
   obtain⟨b25,b25o,b25r,b25v,b25f⟩:=aA.at hp 9 rfl bC ex33
   refine V hE hp rfl (aU rfl hE rfl rfl b25r) fun a hE=>V hE hp rfl (bD rfl hE rfl (fun w hw=>bH bG (b25f 0 _ rfl _ _ w (hw.get 9 rfl)))) fun a hE=>?_
   obtain⟨x34,ex34,hl6⟩:=bnd hl6
   refine Cl hE rfl rfl E5 (fK x33 hp x34 ex34) ⟨rfl,trivial⟩ fun v a w hR hE=>?_
   obtain⟨rfl,hp⟩:=hR
   have hp:=r15 hp
   refine V hE hp rfl (v:=(.bool ((nR (b19.2:List (Int×Bool)) x34).getD false))) (aI4 (zd:=(false:Bool)) kt3 aA4 zero4 rfl hE 3 (k:=x34) rfl rfl rfl) fun a hE=>S hE 1 rfl fun a hE=>aC ?_
   refine dK hE rfl (fun hc19=>?_) (fun hc19=>?_)
   ·replace hl6:=(it hc19).symm.trans hl6
    refine bP (dF ?_)
    refine aB (S hE 1 rfl fun a hE=>?_)
    obtain⟨x35,ex35,hl6⟩:=bnd hl6
    refine V hE hp rfl (rX rfl hE rfl rfl (aZ ex35)) fun a hE=>S hE 1 rfl fun a hE=>aC ?_
    exact⟨_,(oj hl6).symm,hE.cut ⟨rfl,rfl,rfl,rfl,trivial⟩,hp⟩
   replace hl6:=(ie hc19).symm.trans hl6
   refine dR ?_
   refine⟨_,(oj hl6).symm,fun hbb=>?_⟩
   subst hbb
   exact⟨hE.cut ⟨rfl,rfl,rfl,rfl,trivial⟩,hp⟩
  rintro a w ⟨hE,hp⟩
  refine aG (aB ?_)
  refine S hE 2 rfl fun a hE=>V hE hp rfl (xf hE oD rfl rfl) fun a hE=>V hE hp rfl (xl hE bJ 4 rfl rfl rfl rfl) fun a hE=>S hE 1 rfl fun a hE=>?_
  obtain⟨x36,ex36,hl4⟩:=bnd hl4
  obtain⟨b26,b26o,b26r,b26v,b26f⟩:=aA.at hp 9 rfl bC ex36
  refine V hE hp rfl (aU rfl hE rfl rfl b26r) fun a hE=>V hE hp rfl (bD rfl hE rfl (fun w hw=>bH bG (b26f 0 _ rfl _ _ w (hw.get 9 rfl)))) fun a hE=>S hE 1 rfl fun a hE=>aC ?_
  have hE:=hE.cut (E':=[(0,(Pv bp0 0)),(6,w14),(7,(.map (some b2))),(8,(Iv b24)),(13,(Iv x36))]) ⟨rfl,rfl,rfl,rfl,rfl,trivial⟩
  refine aG (aG ?_)
  refine oN (by kernel_rfl) (by kernel_rfl) hp ?_
  refine Sq hE 2 rfl fun a hE=>Vq hE rfl (xf hE yH rfl rfl) fun a hE=>Vq hE rfl (xl hE nG 4 rfl rfl rfl rfl) fun a hE=>Sq hE 1 rfl fun a hE=>?_
  obtain⟨x37,ex37,hl4⟩:=bnd hl4
  refine yU (wk0 rfl) rfl rfl hE rfl [(Iv x36)] ⟨rfl,trivial⟩ E5 (v:=(Iv x37)) (fun w hw=>Calls.mono (fK x36 hw x37 ex37) fun e w' ⟨v,he,hv,hh⟩=>⟨by rw[he,hv],hh⟩) ?_
  intro a hE
  obtain⟨x38,ex38,hl4⟩:=bnd hl4
  obtain⟨b27,b27o,b27r,b27v,b27f⟩:=OwnQ.at hp 7 rfl pR ex38
  refine Vq hE rfl (aU rfl hE rfl rfl b27r) fun a hE=>Vq hE rfl (bD rfl hE rfl (fun w hw=>bH N8 (b27f 0 _ rfl _ _ w (hw.get 7 rfl)))) fun a hE=>Vq hE rfl (v:=(.bool x38.isNone)) (ex_qnil (e:=x38) (au:=(aF).2) pty71 rfl hE rfl rfl) fun a hE=>?_
  refine qR fun w hp=>?_
  have hp:=r15 hp
  refine dK hE rfl (fun hc20=>?_) (fun hc20=>?_)
  ·replace hl4:=(it hc20).symm.trans hl4
   refine aG (aB ?_)
   refine S hE 2 rfl fun a hE=>?_
   obtain⟨x39,ex39,hl4⟩:=bnd hl4
   refine V hE hp rfl (mX rfl hE rfl (aZ ex39)) fun a hE=>?_
   obtain⟨x40,ex40,hl4⟩:=bnd hl4
   obtain⟨b28,b28o,b28r,b28v,b28f⟩:=aA.at hp 2 rfl bC ex40
   refine V hE hp rfl (aU rfl hE rfl rfl b28r) fun a hE=>?_
   refine mY (wk0 rfl) rfl hE hp rfl rfl rfl 2 rfl ex40 b28v 0 (e':=x39) bG.size_ rfl rfl rfl ⟨rfl,rfl⟩ ?_
   intro w hp
   have hp:=r15 hp
   refine aC ?_
   refine dR ?_
   refine⟨_,(oj hl4).symm,fun hbb=>?_⟩
   subst hbb
   obtain rfl:=oj hj1
   exact⟨_,hE.cut ⟨rfl,rfl,trivial⟩,((hp.get 1 rfl).drop)⟩
  replace hl4:=(ie hc20).symm.trans hl4
  refine bP (aG ?_)
  refine aB (S hE 1 rfl fun a hE=>?_)
  refine aC (aG ?_)
  obtain⟨x41,ex41,hl4⟩:=bnd hl4
  obtain⟨x42,ex42,hl4⟩:=bnd hl4
  obtain⟨x43,ex43,hl4⟩:=bnd hl4
  obtain⟨x44,ex44,hl4⟩:=bnd hl4
  have hp:=hp.drew
  refine jS ([([],At0 Z ρ),([],At1 Z ρ (Pt bp0 (.cells #[aV,aX,aY,aS,aN,aT,aP,(Iv p0.head),(Pv aO 0),aQ,(Iv p0.literals),(.bool p0.broken)] 65 (0,0)))),([],At1 Z ρ (aA 71 aY (List.map (hq (aF).2) (p0.reason:List (Option Nat)))))]:Facts) (fun a w=>∃ypc113:Pc,Env 165 [(0,(Pv bp0 0)),(6,w14),(7,(.map (some b2))),(8,(Iv b24)),(9,N0),(13,(Iv x36)),(116,(Sl.v (Pc.s ypc113))),(117,(Iv (x44.length:Int))),(118,(Iv 0))] a∧Hp Z ρ (aA 3 (Sl.v (Pc.s ypc113)) x44::Pt (Pc.b ypc113) (.cells #[(Sl.v (Pc.s ypc113))] 78 (0,0))::cO 61 71 (78,3) aN aF (p0.watches:WD) none (some ((x43,ypc113):Nat×Pc))::aA 3 w95 sJ::aA 3 w14 b19.1::qM b2 (b19.2:List (Int×Bool))::Pt bp0 (.cells #[aV,aX,aY,aS,aN,aT,aP,(Iv p0.head),(Pv aO 0),aQ,(Iv p0.literals),(.bool p0.broken)] 65 (0,0))::aA 3 aV p0.value::aA 3 aX p0.level::aA 71 aY (List.map (hq (aF).2) (p0.reason:List (Option Nat)))::aA 3 aS p0.saved::aA 3 aT p0.trail::aA 3 aP p0.starts::Pt aO (.cells #[aK,aJ] 68 (0,0))::aA 3 aK p0.queue.list::aA 4 aJ p0.queue.isin::bT 25 3 aQ bF (p0.proof:(List (List Int)))::L) w) (by kernel_rfl) ⟨fun _=>⟨_,hp⟩,fun _=>⟨_,(hp.get 4 rfl)⟩,fun _=>⟨_,(hp.get 7 rfl)⟩,trivial⟩ (fun hS=>?_) ?_
  ·
   generalize w.drew=w at hS hp⊢
   refine Ts [0,1] hE hS rfl rfl (by kernel_rfl) fun a hE hS=>T0 2 hE hS rfl rfl rfl (by kernel_rfl) (fun _=>xf hE yH rfl rfl) fun a hE hS=>T 3 1 hE hS rfl rfl rfl (by kernel_rfl) (fun _=>xl hE nG 0 rfl rfl rfl rfl) fun a hE hS=>Ts [4,12] hE hS rfl rfl (by kernel_rfl) fun a hE hS=>?_
   refine W1 5 (by kernel_rfl) rfl ?_
   refine Cl hE rfl rfl E5 (fK x36 hp x41 ex41) ⟨rfl,trivial⟩ fun v a w hR hE=>?_
   obtain⟨rfl,hp⟩:=hR
   have hp:=r15 hp
   refine aC (aI ⟨gp0 hp,gp 4 hp rfl,gp 7 hp rfl,trivial⟩ fun hS=>?_)
   obtain⟨b30,b30o,b30r,b30v,b30f⟩:=OwnQ.at hp 7 rfl pR ex42
   refine T0 6 hE hS rfl rfl rfl (by kernel_rfl) (fun _=>aU rfl hE rfl rfl b30r) fun a hE hS=>T 7 2 hE hS rfl rfl rfl (by kernel_rfl) (fun _=>bD rfl hE rfl (fun w hw=>bH N8 (b30f 0 _ rfl _ _ w (hw.get 0 rfl)))) fun a hE hS=>?_
   rw[ex43,pqv_hq] at hE
   obtain⟨pc5,pc5h,hp⟩:=cO.take ex44 (hp.get 0 rfl)
   rw[pc5h] at hE
   have hp:=r17 hp
   refine Ts [8] hE hS rfl rfl (by kernel_rfl) fun a hE hS=>T0 9 hE hS rfl rfl rfl (by kernel_rfl) (fun _=>xf hE jE rfl rfl) fun a hE hS=>?_
   refine W1 10 (by kernel_rfl) rfl ?_
   refine V hE hp rfl (xl hE bJ 1 rfl rfl rfl rfl) fun a hE=>?_
   refine aC (aI ⟨gp0 hp,gp 6 hp rfl,gp 9 hp rfl,trivial⟩ fun hS=>?_)
   refine T0 11 hE hS rfl rfl rfl (by kernel_rfl) (fun _=>dL rfl hE rfl (aA.len hp 0 rfl bC)) fun a hE hS=>?_
   exact eG (by kernel_rfl) ⟨_,hE.cut ⟨rfl,rfl,rfl,rfl,rfl,rfl,rfl,rfl,rfl,trivial⟩,hp⟩
  rintro a w ⟨ypc113,hE,hp⟩
  have hp:=hp.emp (aA.nil (α:=Int) 3)
  have hp:=r18 hp
  obtain⟨b31,hc21,hl4⟩:=bnd hl4
  refine dH (fun a w=>∃(w117:Value),Env 165 [(0,(Pv bp0 0)),(6,w14),(7,(.map (some b2))),(8,(Iv b24)),(9,w117)] a∧Hp Z ρ (aA 3 w117 b31::aA 3 (Sl.v (Pc.s ypc113)) x44::Pt (Pc.b ypc113) (.cells #[(Sl.v (Pc.s ypc113))] 78 (0,0))::cO 61 71 (78,3) aN aF (p0.watches:WD) none (some ((x43,ypc113):Nat×Pc))::aA 3 w95 sJ::aA 3 w14 b19.1::qM b2 (b19.2:List (Int×Bool))::Pt bp0 (.cells #[aV,aX,aY,aS,aN,aT,aP,(Iv p0.head),(Pv aO 0),aQ,(Iv p0.literals),(.bool p0.broken)] 65 (0,0))::aA 3 aV p0.value::aA 3 aX p0.level::aA 71 aY (List.map (hq (aF).2) (p0.reason:List (Option Nat)))::aA 3 aS p0.saved::aA 3 aT p0.trail::aA 3 aP p0.starts::Pt aO (.cells #[aK,aJ] 68 (0,0))::aA 3 aK p0.queue.list::aA 4 aJ p0.queue.isin::bT 25 3 aQ bF (p0.proof:(List (List Int)))::L) w) ?_ ?_
  ·refine eU hc21 (fun s a w=>∃(w117:Value),Env 165 [(0,(Pv bp0 0)),(6,w14),(7,(.map (some b2))),(8,(Iv b24)),(9,w117),(13,(Iv x36)),(116,(Sl.v (Pc.s ypc113))),(117,(Iv (x44.length:Int))),(118,(Iv s.1))] a∧Hp Z ρ (aA 3 w117 s.2::aA 3 (Sl.v (Pc.s ypc113)) x44::Pt (Pc.b ypc113) (.cells #[(Sl.v (Pc.s ypc113))] 78 (0,0))::cO 61 71 (78,3) aN aF (p0.watches:WD) none (some ((x43,ypc113):Nat×Pc))::aA 3 w95 sJ::aA 3 w14 b19.1::qM b2 (b19.2:List (Int×Bool))::Pt bp0 (.cells #[aV,aX,aY,aS,aN,aT,aP,(Iv p0.head),(Pv aO 0),aQ,(Iv p0.literals),(.bool p0.broken)] 65 (0,0))::aA 3 aV p0.value::aA 3 aX p0.level::aA 71 aY (List.map (hq (aF).2) (p0.reason:List (Option Nat)))::aA 3 aS p0.saved::aA 3 aT p0.trail::aA 3 aP p0.starts::Pt aO (.cells #[aK,aJ] 68 (0,0))::aA 3 aK p0.queue.list::aA 4 aJ p0.queue.isin::bT 25 3 aQ bF (p0.proof:(List (List Int)))::L) w) ?_ ?_
   ·exact⟨_,hE.cut ⟨rfl,rfl,rfl,rfl,rfl,rfl,rfl,rfl,rfl,trivial⟩,hp⟩
   rintro⟨lp7_0,lp7_1⟩ st a w ⟨w117,hE,hp⟩ hl7
   dsimp only at hE hp hl7
   unfold pO at hl7
   refine aG (aB ?_)
   refine S hE 1 rfl fun a hE=>aC (aG ?_)
   refine dK hE rfl (fun hc22=>?_) (fun hc22=>?_)
   ·replace hl7:=(it hc22).symm.trans hl7
    refine bP (aG ?_)
    refine dF (aG ?_)
    refine aB ?_
    obtain⟨x45,ex45,hl7⟩:=bnd hl7
    obtain⟨b32,b32o,b32r,b32v,b32f⟩:=aA.at hp 1 rfl bC ex45
    refine V hE hp rfl (aU rfl hE rfl rfl b32r) fun a hE=>V hE hp rfl (bD rfl hE rfl (fun w hw=>bH bG (b32f 0 _ rfl _ _ w (hw.get 1 rfl)))) fun a hE=>S hE 1 rfl fun a hE=>aC (aG ?_)
    refine aB (S hE 3 rfl fun a hE=>?_)
    refine aC ?_
    refine dK hE rfl (fun hc23=>?_) (fun hc23=>?_)
    ·replace hl7:=(it hc23).symm.trans hl7
     refine aB (S hE 2 rfl fun a hE=>?_)
     refine iP (wk0 rfl) rfl rfl hE hp rfl [(0,(Iv x45))] ⟨⟨rfl,rfl⟩,trivial⟩ [(Iv x45)] 3 (fun w=>by simp[Instr.buildSlice,Instr.fill,Value.cells,go_sem]) ?_
     intro a w b33 hE hp
     have hp:=r19 hp
     obtain⟨x46,ex46,hl7⟩:=bnd hl7
     refine lY (wk0 rfl) rfl rfl hE hp rfl bC rfl rfl 1 rfl rfl (l2:=[x45]) rfl (fun j u hj=>by have:=Hp.cN 0 rfl 0 _ (bV rfl) w hp j u hj;simpa using this) ex46 ?_
     intro v4 a w hE hp
     have hp:=r19 hp
     refine S hE 1 rfl fun a hE=>aC (aB ?_)
     obtain⟨x47,ex47,hl7⟩:=bnd hl7
     refine V hE hp rfl (dD rfl hE rfl rfl (aZ ex47)) fun a hE=>S hE 1 rfl fun a hE=>aC ?_
     exact⟨_,(oj hl7).symm,_,hE.cut ⟨rfl,rfl,rfl,rfl,rfl,rfl,rfl,rfl,rfl,trivial⟩,(hp.drop)⟩
    replace hl7:=(ie hc23).symm.trans hl7
    refine bP (aB ?_)
    obtain⟨x48,ex48,hl7⟩:=bnd hl7
    refine V hE hp rfl (dD rfl hE rfl rfl (aZ ex48)) fun a hE=>S hE 1 rfl fun a hE=>aC ?_
    have hE:=hE.cut (E':=[(0,(Pv bp0 0)),(6,w14),(7,(.map (some b2))),(8,(Iv b24)),(9,w117),(13,(Iv x36)),(116,(Sl.v (Pc.s ypc113))),(117,(Iv (x44.length:Int))),(118,(Iv x48))]) ⟨rfl,rfl,rfl,rfl,rfl,rfl,rfl,rfl,rfl,trivial⟩
    exact⟨_,(oj hl7).symm,_,hE.cut ⟨rfl,rfl,rfl,rfl,rfl,rfl,rfl,rfl,rfl,trivial⟩,hp⟩
   replace hl7:=(ie hc22).symm.trans hl7
   refine dR ?_
   refine⟨_,(oj hl7).symm,fun hbb=>?_⟩
   subst hbb
   exact⟨_,hE.cut ⟨rfl,rfl,rfl,rfl,rfl,trivial⟩,hp⟩
  rintro a w ⟨w117,hE,hp⟩
  obtain⟨hp,hbk7⟩:=cO.back0 (Tc:=(78,3)) ex44 (((hp.get 3 rfl).get 3 rfl).get 3 rfl)
  have hp:=r16 hp
  have hp:=(hp.get 2 rfl).drop
  have hp:=r15 hp
  exact⟨_,(oj hl4).symm,_,_,hE.cut ⟨rfl,rfl,rfl,rfl,rfl,trivial⟩,hp⟩
 rintro a w ⟨w14,hE,hp⟩
 refine aG (aB ?_)
 refine S hE 1 rfl fun a hE=>aC (aG ?_)
 refine aG (aB ?_)
 refine S hE 1 rfl fun a hE=>aC ?_
 obtain⟨b34,hc24,hm⟩:=bnd hm
 refine dH (fun a w=>∃(w14:Value),Env 165 [(6,w14),(16,(Iv b34.1))] a∧Hp Z ρ (cO 61 71 (78,3) aN aF (p0.watches:WD) none none::aA 3 w14 b34.2::qM b2 (j1.2:List (Int×Bool))::Pt bp0 (.cells #[aV,aX,aY,aS,aN,aT,aP,(Iv p0.head),(Pv aO 0),aQ,(Iv p0.literals),(.bool p0.broken)] 65 (0,0))::aA 3 aV p0.value::aA 3 aX p0.level::aA 71 aY (List.map (hq (aF).2) (p0.reason:List (Option Nat)))::aA 3 aS p0.saved::aA 3 aT p0.trail::aA 3 aP p0.starts::Pt aO (.cells #[aK,aJ] 68 (0,0))::aA 3 aK p0.queue.list::aA 4 aJ p0.queue.isin::bT 25 3 aQ bF (p0.proof:(List (List Int)))::L) w) ?_ ?_
 ·refine eU hc24 (fun s a w=>∃(w14:Value),Env 165 [(0,(Pv bp0 0)),(6,w14),(16,(Iv s.1)),(17,(Iv s.2.1))] a∧Hp Z ρ (cO 61 71 (78,3) aN aF (p0.watches:WD) none none::aA 3 w14 s.2.2::qM b2 (j1.2:List (Int×Bool))::Pt bp0 (.cells #[aV,aX,aY,aS,aN,aT,aP,(Iv p0.head),(Pv aO 0),aQ,(Iv p0.literals),(.bool p0.broken)] 65 (0,0))::aA 3 aV p0.value::aA 3 aX p0.level::aA 71 aY (List.map (hq (aF).2) (p0.reason:List (Option Nat)))::aA 3 aS p0.saved::aA 3 aT p0.trail::aA 3 aP p0.starts::Pt aO (.cells #[aK,aJ] 68 (0,0))::aA 3 aK p0.queue.list::aA 4 aJ p0.queue.isin::bT 25 3 aQ bF (p0.proof:(List (List Int)))::L) w) ?_ ?_
  ·exact⟨_,hE.cut ⟨rfl,rfl,rfl,rfl,trivial⟩,hp⟩
  rintro⟨lp8_0,V5,Q4⟩ st a w ⟨w14,hE,hp⟩ hl8
  dsimp only at hE hp hl8
  unfold iC at hl8
  refine aG (aG ?_)
  refine aB (S hE 2 rfl fun a hE=>?_)
  refine V hE hp rfl (dL rfl hE rfl (aA.len hp 1 rfl bC)) fun a hE=>S hE 1 rfl fun a hE=>aC ?_
  refine dK hE rfl (fun hc25=>?_) (fun hc25=>?_)
  ·replace hl8:=(it hc25).symm.trans hl8
   refine bP (aG ?_)
   refine dF (aG ?_)
   refine oN (by kernel_rfl) (by kernel_rfl) hp ?_
   refine Sq hE 2 rfl fun a hE=>Vq hE rfl (xf hE yG rfl rfl) fun a hE=>Vq hE rfl (xl hE bJ 3 rfl rfl rfl rfl) fun a hE=>Sq hE 2 rfl fun a hE=>?_
   obtain⟨x49,ex49,hl8⟩:=bnd hl8
   obtain⟨b35,b35o,b35r,b35v,b35f⟩:=aA.at hp 1 rfl bC ex49
   refine Vq hE rfl (aU rfl hE rfl rfl b35r) fun a hE=>Vq hE rfl (bD rfl hE rfl (fun w hw=>bH bG (b35f 0 _ rfl _ _ w (hw.get 1 rfl)))) fun a hE=>?_
   obtain⟨x50,ex50,hl8⟩:=bnd hl8
   refine yU (wk0 rfl) rfl rfl hE rfl [(Iv x49)] ⟨rfl,trivial⟩ E5 (v:=(Iv x50)) (fun w hw=>Calls.mono (fK x49 hw x50 ex50) fun e w' ⟨v,he,hv,hh⟩=>⟨by rw[he,hv],hh⟩) ?_
   intro a hE
   obtain⟨x51,ex51,hl8⟩:=bnd hl8
   obtain⟨b36,b36o,b36r,b36v,b36f⟩:=aA.at hp 5 rfl bC ex51
   refine Vq hE rfl (aU rfl hE rfl rfl b36r) fun a hE=>Vq hE rfl (bD rfl hE rfl (fun w hw=>bH bG (b36f 0 _ rfl _ _ w (hw.get 5 rfl)))) fun a hE=>Sq hE 1 rfl fun a hE=>?_
   refine qR fun w hp=>?_
   have hp:=r14 hp
   have hE:=hE.cut (E':=[(0,(Pv bp0 0)),(6,w14),(16,(Iv lp8_0)),(17,(Iv V5)),(18,(Iv x51))]) ⟨rfl,rfl,rfl,rfl,rfl,trivial⟩
   refine aG (aB ?_)
   refine S hE 3 rfl fun a hE=>aC ?_
   refine dK hE rfl (fun hc26=>?_) (fun hc26=>?_)
   ·replace hl8:=(it hc26).symm.trans hl8
    refine aG (aB ?_)
    refine S hE 2 rfl fun a hE=>aC ?_
    obtain⟨x52,ex52,hl8⟩:=bnd hl8
    obtain⟨x53,ex53,hl8⟩:=bnd hl8
    obtain⟨x54,ex54,hl8⟩:=bnd hl8
    obtain⟨x55,ex55,hl8⟩:=bnd hl8
    have hp:=hp.drew
    refine jS ([([],At0 Z ρ),([11,13],At1 Z ρ (aA 3 w14 Q4))]:Facts) (fun a w=>Env 165 [(0,(Pv bp0 0)),(6,w14),(16,(Iv x51)),(17,(Iv V5))] a∧Hp Z ρ (cO 61 71 (78,3) aN aF (p0.watches:WD) none none::aA 3 w14 ((Q4.set (1:Int).toNat x52).set V5.toNat x53)::qM b2 (j1.2:List (Int×Bool))::Pt bp0 (.cells #[aV,aX,aY,aS,aN,aT,aP,(Iv p0.head),(Pv aO 0),aQ,(Iv p0.literals),(.bool p0.broken)] 65 (0,0))::aA 3 aV p0.value::aA 3 aX p0.level::aA 71 aY (List.map (hq (aF).2) (p0.reason:List (Option Nat)))::aA 3 aS p0.saved::aA 3 aT p0.trail::aA 3 aP p0.starts::Pt aO (.cells #[aK,aJ] 68 (0,0))::aA 3 aK p0.queue.list::aA 4 aJ p0.queue.isin::bT 25 3 aQ bF (p0.proof:(List (List Int)))::L) w) (by kernel_rfl) ⟨fun _=>⟨_,hp⟩,fun _=>⟨_,(hp.get 1 rfl)⟩,trivial⟩ (fun hS=>?_) ?_
    ·
     generalize w.drew=w at hS hp⊢
     refine Ts [0,1,2,3,4] hE hS rfl rfl (by kernel_rfl) fun a hE hS=>?_
     obtain⟨b41,b41o,b41r,b41v,b41f⟩:=aA.at hp 1 rfl bC ex52
     refine T0 5 hE hS rfl rfl rfl (by kernel_rfl) (fun _=>aU rfl hE rfl rfl b41r) fun a hE hS=>T 6 1 hE hS rfl rfl rfl (by kernel_rfl) (fun _=>bD rfl hE rfl (fun w hw=>bH bG (b41f 0 _ rfl _ _ w (hw.get 0 rfl)))) fun a hE hS=>Ts [7] hE hS rfl rfl (by kernel_rfl) fun a hE hS=>?_
     obtain⟨b42,b42o,b42r,b42v,b42f⟩:=aA.at hp 1 rfl bC ex53
     refine T0 8 hE hS rfl rfl rfl (by kernel_rfl) (fun _=>aU rfl hE rfl rfl b42r) fun a hE hS=>T 9 1 hE hS rfl rfl rfl (by kernel_rfl) (fun _=>bD rfl hE rfl (fun w hw=>bH bG (b42f 0 _ rfl _ _ w (hw.get 0 rfl)))) fun a hE hS=>?_
     obtain⟨b43,b43o,b43r,b43v,b43f⟩:=aA.at hp 1 rfl bC ex54
     refine T0 10 hE hS rfl rfl rfl (by kernel_rfl) (fun _=>aU rfl hE rfl rfl b43r) fun a hE hS=>?_
     refine W1 11 (by kernel_rfl) rfl ?_
     refine mY (wk0 rfl) rfl hE hp rfl rfl rfl 1 rfl ex54 b43v 0 (e':=x52) bG.size_ rfl rfl rfl ⟨rfl,rfl⟩ ?_
     intro w hp
     have hp:=r14 hp
     refine aC (aI ⟨gp0 hp,dead (by kernel_rfl),trivial⟩ fun hS=>?_)
     obtain⟨b44,b44o,b44r,b44v,b44f⟩:=aA.at hp 1 rfl bC ex55
     refine T0 12 hE hS rfl rfl rfl (by kernel_rfl) (fun _=>aU rfl hE rfl rfl b44r) fun a hE hS=>?_
     refine W1 13 (by kernel_rfl) rfl ?_
     refine mY (wk0 rfl) rfl hE hp rfl rfl rfl 1 rfl ex55 b44v 0 (e':=x53) bG.size_ rfl rfl rfl ⟨rfl,rfl⟩ ?_
     intro w hp
     have hp:=r14 hp
     refine aC (aI ⟨gp0 hp,dead (by kernel_rfl),trivial⟩ fun hS=>?_)
     exact eG (by kernel_rfl) ⟨hE.cut ⟨rfl,rfl,rfl,rfl,trivial⟩,hp⟩
    rintro a w ⟨hE,hp⟩
    refine aB (S hE 1 rfl fun a hE=>?_)
    obtain⟨x56,ex56,hl8⟩:=bnd hl8
    refine V hE hp rfl (dD rfl hE rfl rfl (aZ ex56)) fun a hE=>S hE 1 rfl fun a hE=>aC ?_
    exact⟨_,(oj hl8).symm,_,hE.cut ⟨rfl,rfl,rfl,rfl,trivial⟩,hp⟩
   replace hl8:=(ie hc26).symm.trans hl8
   refine bP (aB ?_)
   refine S hE 1 rfl fun a hE=>?_
   obtain⟨x57,ex57,hl8⟩:=bnd hl8
   refine V hE hp rfl (dD rfl hE rfl rfl (aZ ex57)) fun a hE=>S hE 1 rfl fun a hE=>aC ?_
   exact⟨_,(oj hl8).symm,_,hE.cut ⟨rfl,rfl,rfl,rfl,trivial⟩,hp⟩
  replace hl8:=(ie hc25).symm.trans hl8
  refine dR ?_
  refine⟨_,(oj hl8).symm,fun hbb=>?_⟩
  subst hbb
  exact⟨_,hE.cut ⟨rfl,rfl,trivial⟩,hp⟩
 rintro a w ⟨w14,hE,hp⟩
 refine aG (aB ?_)
 refine S hE 4 rfl fun a hE=>aC (dE ?_)
 obtain rfl:=oj hm
 exact ret2 hE rfl rfl rfl ⟨_,rfl,_,rfl,(((((((((((((((hp.get 13 rfl).get 13 rfl).get 13 rfl).get 13 rfl).get 13 rfl).get 13 rfl).get 6 rfl).get 13 rfl).get 13 rfl).get 13 rfl).get 13 rfl).get 13 rfl).get 12 rfl).get 13 rfl).drop)⟩
end Go.Proofs.Ytpkhmndpeipfmaa

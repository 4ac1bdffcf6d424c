/- The code goes as its model: assessor/solver.variable, assessor/solver.index, (*assessor/solver.solver).of, (*assessor/solver.solver).hold, (*assessor/solver.sol -/
import Derived.Test.YtpkhmndpeipfmaaKUnT
import Derived.Test.YtpkhmndpeipfmaaKUn5
import Derived.Test.YtpkhmndpeipfmaaKUn6
import Derived.Test.YtpkhmndpeipfmaaKUn8
import Derived.Test.YtpkhmndpeipfmaaKUn3
import Derived.LoopNIn
set_option linter.unusedVariables false
set_option linter.unusedSimpArgs false
set_option maxRecDepth 100000
set_option maxHeartbeats 4000000
namespace Go.Proofs.Ytpkhmndpeipfmaa
open Go.RowKit
theorem fK {Z:World} {ρ:PH} {L:List bZ} {w:World} (p0:Int) (hp:Hp Z ρ (L) w) (r:Int) (hm:dN p0=some r):
  Calls Try.prog 38 #[(Iv p0)] w (Ret fun v w'=>v=(Iv r)∧Hp Z ρ (L) w'):=by
 refine enter (N:=7) Try.func38 rfl rfl [(0,(Iv p0))] rfl (bM ⟨rfl,trivial⟩) fun a hE=>?_
 unfold dN at hm
 refine aG (aB ?_)
 refine S hE 1 rfl fun a hE=>aC (aG ?_)
 refine aB (S hE 2 rfl fun a hE=>?_)
 obtain⟨x1,ex1,hm⟩:=bnd hm
 refine V hE hp rfl (mX rfl hE rfl (aZ ex1)) fun a hE=>V hE hp rfl (v:=(Iv (max p0 x1))) (ex_max rfl hE rfl rfl) fun a hE=>S hE 1 rfl fun a hE=>aC (dE ?_)
 obtain rfl:=oj hm
 exact iH hE rfl rfl ⟨_,rfl,rfl,hp⟩
theorem iD {Z:World} {ρ:PH} {L:List bZ} {w:World} (p0:Int) (hp:Hp Z ρ (L) w) (r:Int) (hm:jW p0=some r):
  Calls Try.prog 65 #[(Iv p0)] w (Ret fun v w'=>v=(Iv r)∧Hp Z ρ (L) w'):=by
 refine enter (N:=10) Try.func65 rfl rfl [(0,(Iv p0))] rfl (bM ⟨rfl,trivial⟩) fun a hE=>?_
 unfold jW at hm
 refine aG (aB ?_)
 refine S hE 1 rfl fun a hE=>aC (aG ?_)
 refine aG (aB ?_)
 refine S hE 2 rfl fun a hE=>aC ?_
 refine dK hE rfl (fun hc1=>?_) (fun hc1=>?_)
 ·replace hm:=(it hc1).symm.trans hm
  refine aG (aB ?_)
  refine S hE 1 rfl fun a hE=>?_
  obtain⟨x1,ex1,hm⟩:=bnd hm
  refine V hE hp rfl (yO rfl hE rfl rfl (aZ ex1)) fun a hE=>?_
  obtain⟨x2,ex2,hm⟩:=bnd hm
  refine V hE hp rfl (dD rfl hE rfl rfl (aZ ex2)) fun a hE=>S hE 1 rfl fun a hE=>aC (dE ?_)
  obtain rfl:=oj hm
  exact iH hE rfl rfl ⟨_,rfl,rfl,hp⟩
 replace hm:=(ie hc1).symm.trans hm
 refine bP (aG ?_)
 refine aB (S hE 1 rfl fun a hE=>?_)
 obtain⟨x3,ex3,hm⟩:=bnd hm
 refine V hE hp rfl (yO rfl hE rfl rfl (aZ ex3)) fun a hE=>S hE 1 rfl fun a hE=>aC (dE ?_)
 obtain rfl:=oj hm
 exact iH hE rfl rfl ⟨_,rfl,rfl,hp⟩
theorem rE {Z:World} {ρ:PH} {L:List bZ} {w:World} {li:Option Int} {ai:Option (Nat×Pc)} (bp0:Nat) (p0:Sol) (aV:Value) (aX:Value) (aY:Value) (aS:Value) (aN:Value) (aF:List Sl×List Pc) (aT:Value) (aP:Value) (aO:Nat) (aK:Value) (aJ:Value) (aQ:Value) (bF:List Sl) (p1:Int) (hp:Hp Z ρ (Pt bp0 (.cells #[aV,aX,aY,aS,aN,aT,aP,(Iv p0.head),(Pv aO 0),aQ,(Iv p0.literals),(.bool p0.broken)] 65 (0,0))::aA 3 aV p0.value::aA 3 aX p0.level::aA 71 aY (List.map (hq (aF).2) (p0.reason:List (Option Nat)))::aA 3 aS p0.saved::cO 61 71 (78,3) aN aF (p0.watches:WD) li ai::aA 3 aT p0.trail::aA 3 aP p0.starts::Pt aO (.cells #[aK,aJ] 68 (0,0))::aA 3 aK p0.queue.list::aA 4 aJ p0.queue.isin::bT 25 3 aQ bF (p0.proof:(List (List Int)))::L) w) (r:Int) (hm:jY p0 p1=some r):
  Calls Try.prog 64 #[(Pv bp0 0),(Iv p1)] w (Ret fun v w'=>v=(Iv r)∧Hp Z ρ (Pt bp0 (.cells #[aV,aX,aY,aS,aN,aT,aP,(Iv p0.head),(Pv aO 0),aQ,(Iv p0.literals),(.bool p0.broken)] 65 (0,0))::aA 3 aV p0.value::aA 3 aX p0.level::aA 71 aY (List.map (hq (aF).2) (p0.reason:List (Option Nat)))::aA 3 aS p0.saved::cO 61 71 (78,3) aN aF (p0.watches:WD) li ai::aA 3 aT p0.trail::aA 3 aP p0.starts::Pt aO (.cells #[aK,aJ] 68 (0,0))::aA 3 aK p0.queue.list::aA 4 aJ p0.queue.isin::bT 25 3 aQ bF (p0.proof:(List (List Int)))::L) w'):=by
 refine enter (N:=18) Try.func64 rfl rfl [(0,(Pv bp0 0)),(1,(Iv p1))] rfl (bM ⟨rfl,rfl,trivial⟩) fun a hE=>?_
 unfold jY at hm
 refine aG (aB ?_)
 refine S hE 1 rfl fun a hE=>aC (aG ?_)
 refine aG ?_
 refine oN (by kernel_rfl) (by kernel_rfl) hp ?_
 refine Sq hE 2 rfl fun a hE=>Vq hE rfl (xf hE E8 rfl rfl) fun a hE=>Vq hE rfl (xl hE bJ 0 rfl rfl rfl rfl) fun a hE=>Sq hE 1 rfl fun a hE=>?_
 obtain⟨x1,ex1,hm⟩:=bnd hm
 refine yU (wk0 rfl) rfl rfl hE rfl [(Iv p1)] ⟨rfl,trivial⟩ E5 (v:=(Iv x1)) (fun w hw=>Calls.mono (fK p1 hw x1 ex1) fun e w' ⟨v,he,hv,hh⟩=>⟨by rw[he,hv],hh⟩) ?_
 intro a hE
 obtain⟨x2,ex2,hm⟩:=bnd hm
 obtain⟨b1,b1o,b1r,b1v,b1f⟩:=aA.at hp 1 rfl bC ex2
 refine Vq hE rfl (aU rfl hE rfl rfl b1r) fun a hE=>Vq hE rfl (bD rfl hE rfl (fun w hw=>bH bG (b1f 0 _ rfl _ _ w (hw.get 1 rfl)))) fun a hE=>?_
 refine qR fun w hp=>?_
 have hp:=r12 hp
 refine dF (aG ?_)
 refine aB (S hE 2 rfl fun a hE=>?_)
 refine aC ?_
 refine dK hE rfl (fun hc1=>?_) (fun hc1=>?_)
 ·replace hm:=(it hc1).symm.trans hm
  refine aG (aB ?_)
  refine S hE 1 rfl fun a hE=>aC (dE ?_)
  obtain rfl:=oj hm
  exact iH hE rfl rfl ⟨_,rfl,rfl,hp⟩
 replace hm:=(ie hc1).symm.trans hm
 refine aG (aB ?_)
 refine S hE 3 rfl fun a hE=>aC ?_
 refine dK hE rfl (fun hc2=>?_) (fun hc2=>?_)
 ·replace hm:=(it hc2).symm.trans hm
  refine aG (aB ?_)
  refine S hE 1 rfl fun a hE=>aC (dE ?_)
  obtain rfl:=oj hm
  exact iH hE rfl rfl ⟨_,rfl,rfl,hp⟩
 replace hm:=(ie hc2).symm.trans hm
 refine bP (aG ?_)
 refine aB (S hE 1 rfl fun a hE=>?_)
 refine aC (dE ?_)
 obtain rfl:=oj hm
 exact iH hE rfl rfl ⟨_,rfl,rfl,hp⟩
theorem nU {Z:World} {ρ:PH} {L:List bZ} {w:World} {li:Option Int} {ai:Option (Nat×Pc)} (bp0:Nat) (p0:Sol) (aV:Value) (aX:Value) (aY:Value) (aS:Value) (aN:Value) (aF:List Sl×List Pc) (aT:Value) (aP:Value) (aO:Nat) (aK:Value) (aJ:Value) (aQ:Value) (bF:List Sl) (p1:Int) (p2:(Option Nat)) (hp:Hp Z ρ (Pt bp0 (.cells #[aV,aX,aY,aS,aN,aT,aP,(Iv p0.head),(Pv aO 0),aQ,(Iv p0.literals),(.bool p0.broken)] 65 (0,0))::aA 3 aV p0.value::aA 3 aX p0.level::aA 71 aY (List.map (hq (aF).2) (p0.reason:List (Option Nat)))::aA 3 aS p0.saved::cO 61 71 (78,3) aN aF (p0.watches:WD) li ai::aA 3 aT p0.trail::aA 3 aP p0.starts::Pt aO (.cells #[aK,aJ] 68 (0,0))::aA 3 aK p0.queue.list::aA 4 aJ p0.queue.isin::bT 25 3 aQ bF (p0.proof:(List (List Int)))::L) w) (r:Sol) (hm:iF p0 p1 p2=some r):
  Calls Try.prog 56 #[(Pv bp0 0),(Iv p1),(pqv (hq (aF).2 p2))] w (Ret fun v w'=>∃(eQ:Value) (jZ:Value) (iY:Value) (eP:Value),v= .tuple #[]∧Hp Z ρ (Pt bp0 (.cells #[eQ,jZ,iY,aS,aN,eP,aP,(Iv r.head),(Pv aO 0),aQ,(Iv r.literals),(.bool r.broken)] 65 (0,0))::aA 3 eQ r.value::aA 3 jZ r.level::aA 71 iY (List.map (hq (aF).2) (r.reason:List (Option Nat)))::aA 3 aS p0.saved::cO 61 71 (78,3) aN aF (p0.watches:WD) li ai::aA 3 eP r.trail::aA 3 aP p0.starts::Pt aO (.cells #[aK,aJ] 68 (0,0))::aA 3 aK p0.queue.list::aA 4 aJ p0.queue.isin::bT 25 3 aQ bF (p0.proof:(List (List Int)))::L) w'):=by
 refine enter (N:=44) Try.func56 rfl rfl [(0,(Pv bp0 0)),(1,(Iv p1)),(2,(pqv (hq (aF).2 p2)))] rfl (bM ⟨rfl,rfl,rfl,trivial⟩) fun a hE=>?_
 unfold iF at hm
 refine aG (aB ?_)
 refine S hE 1 rfl fun a hE=>?_
 obtain⟨x1,ex1,hm⟩:=bnd hm
 refine Cl hE rfl rfl E5 (fK p1 hp x1 ex1) ⟨rfl,trivial⟩ fun v a w hR hE=>?_
 obtain⟨rfl,hp⟩:=hR
 have hp:=r12 hp
 refine S hE 1 rfl fun a hE=>aC (aG ?_)
 obtain⟨x2,ex2,hm⟩:=bnd hm
 obtain⟨x3,ex3,hm⟩:=bnd hm
 obtain⟨x4,ex4,hm⟩:=bnd hm
 have hp:=hp.drew
 refine jS ([([],At0 Z ρ),([],At1 Z ρ (Pt bp0 (.cells #[aV,aX,aY,aS,aN,aT,aP,(Iv p0.head),(Pv aO 0),aQ,(Iv p0.literals),(.bool p0.broken)] 65 (0,0))))]:Facts) (fun a w=>Env 44 [(0,(Pv bp0 0)),(1,(Iv p1))] a∧Hp Z ρ (Pt bp0 (.cells #[aV,aX,aY,aS,aN,aT,aP,(Iv p0.head),(Pv aO 0),aQ,(Iv p0.literals),(.bool p0.broken)] 65 (0,0))::aA 3 aV (p0.value.set x1.toNat p1)::aA 3 aX (p0.level.set x1.toNat (p0.starts.length:Int))::aA 71 aY (List.map (hq (aF).2) (p0.reason.set x1.toNat p2:List (Option Nat)))::aA 3 aS p0.saved::cO 61 71 (78,3) aN aF (p0.watches:WD) li ai::aA 3 aT p0.trail::aA 3 aP p0.starts::Pt aO (.cells #[aK,aJ] 68 (0,0))::aA 3 aK p0.queue.list::aA 4 aJ p0.queue.isin::bT 25 3 aQ bF (p0.proof:(List (List Int)))::L) w) (by kernel_rfl) ⟨fun _=>⟨_,hp⟩,fun _=>⟨_,(hp.get 0 rfl)⟩,trivial⟩ (fun hS=>?_) ?_
 ·
  generalize w.drew=w at hS hp⊢
  refine Ts [0,1] hE hS rfl rfl (by kernel_rfl) fun a hE hS=>T0 2 hE hS rfl rfl rfl (by kernel_rfl) (fun _=>xf hE E8 rfl rfl) fun a hE hS=>T 3 1 hE hS rfl rfl rfl (by kernel_rfl) (fun _=>xl hE bJ 0 rfl rfl rfl rfl) fun a hE hS=>Ts [4,5,6] hE hS rfl rfl (by kernel_rfl) fun a hE hS=>T0 7 hE hS rfl rfl rfl (by kernel_rfl) (fun _=>xf hE yG rfl rfl) fun a hE hS=>T 8 1 hE hS rfl rfl rfl (by kernel_rfl) (fun _=>xl hE bJ 0 rfl rfl rfl rfl) fun a hE hS=>Ts [9,10,11] hE hS rfl rfl (by kernel_rfl) fun a hE hS=>T0 12 hE hS rfl rfl rfl (by kernel_rfl) (fun _=>xf hE yH rfl rfl) fun a hE hS=>T 13 1 hE hS rfl rfl rfl (by kernel_rfl) (fun _=>xl hE nG 0 rfl rfl rfl rfl) fun a hE hS=>Ts [14,15,16,17] hE hS rfl rfl (by kernel_rfl) fun a hE hS=>T0 18 hE hS rfl rfl rfl (by kernel_rfl) (fun _=>xf hE pU rfl rfl) fun a hE hS=>T 19 1 hE hS rfl rfl rfl (by kernel_rfl) (fun _=>xl hE bJ 0 rfl rfl rfl rfl) fun a hE hS=>T0 20 hE hS rfl rfl rfl (by kernel_rfl) (fun _=>dL rfl hE rfl (aA.len hp 7 rfl bC)) fun a hE hS=>Ts [21] hE hS rfl rfl (by kernel_rfl) fun a hE hS=>?_
  obtain⟨b4,b4o,b4r,b4v,b4f⟩:=aA.at hp 1 rfl bC ex2
  refine T0 22 hE hS rfl rfl rfl (by kernel_rfl) (fun _=>aU rfl hE rfl rfl b4r) fun a hE hS=>?_
  refine W1 23 (by kernel_rfl) rfl ?_
  refine mY (wk0 rfl) rfl hE hp rfl rfl rfl 1 rfl ex2 b4v 0 (e':=p1) bG.size_ rfl rfl rfl ⟨rfl,rfl⟩ ?_
  intro w hp
  have hp:=r12 hp
  refine aC (aI ⟨gp0 hp,gp 0 hp rfl,trivial⟩ fun hS=>?_)
  obtain⟨b5,b5o,b5r,b5v,b5f⟩:=aA.at hp 2 rfl bC ex3
  refine T0 24 hE hS rfl rfl rfl (by kernel_rfl) (fun _=>aU rfl hE rfl rfl b5r) fun a hE hS=>?_
  refine W1 25 (by kernel_rfl) rfl ?_
  refine mY (wk0 rfl) rfl hE hp rfl rfl rfl 2 rfl ex3 b5v 0 (e':=(p0.starts.length:Int)) bG.size_ rfl rfl rfl ⟨rfl,rfl⟩ ?_
  intro w hp
  have hp:=r12 hp
  refine aC (aI ⟨gp0 hp,gp 0 hp rfl,trivial⟩ fun hS=>?_)
  obtain⟨b6,b6o,b6r,b6v,b6f⟩:=OwnQ.at hp 3 rfl pR ex4
  refine T0 26 hE hS rfl rfl rfl (by kernel_rfl) (fun _=>aU rfl hE rfl rfl b6r) fun a hE hS=>?_
  refine W1 27 (by kernel_rfl) rfl ?_
  refine s_qstel (wk0 rfl) rfl hE hp rfl rfl rfl 3 rfl ex4 b6v (e':=p2) rfl N8.size_ ?_
  intro w hp
  have hp:=r12 hp
  refine aC (aI ⟨gp0 hp,gp 0 hp rfl,trivial⟩ fun hS=>?_)
  exact eG (by kernel_rfl) ⟨hE.cut ⟨rfl,rfl,trivial⟩,hp⟩
 rintro a w ⟨hE,hp⟩
 refine aB (S hE 3 rfl fun a hE=>?_)
 refine V hE hp rfl (xf hE oD rfl rfl) fun a hE=>V hE hp rfl (xl hE bJ 0 rfl rfl rfl rfl) fun a hE=>S hE 1 rfl fun a hE=>?_
 refine iP (wk0 rfl) rfl rfl hE hp rfl [(0,(Iv p1))] ⟨⟨rfl,rfl⟩,trivial⟩ [(Iv p1)] 3 (fun w=>by simp[Instr.buildSlice,Instr.fill,Value.cells,go_sem]) ?_
 intro a w b7 hE hp
 have hp:=r13 hp
 obtain⟨x5,ex5,hm⟩:=bnd hm
 refine lY (wk0 rfl) rfl rfl hE hp rfl bC rfl rfl 7 rfl rfl (l2:=[p1]) rfl (fun j u hj=>by have:=Hp.cN 0 rfl 0 _ (bV rfl) w hp j u hj;simpa using this) ex5 ?_
 intro v1 a w hE hp
 have hp:=r13 hp
 refine S hE 1 rfl fun a hE=>V hE hp rfl (xf hE oD rfl rfl) fun a hE=>?_
 refine oK (wk0 rfl) rfl hE hp rfl rfl rfl 1 rfl bJ.size_ (aA.cells hp 7 rfl) (aA.one hp 7 rfl) rfl [aV,aX,aY,aS,aN,v1,aP,(Iv p0.head),(Pv aO 0),aQ,(Iv p0.literals),(.bool p0.broken)] rfl ?_
 intro w hp
 have hp:=r13 hp
 refine aC ?_
 obtain rfl:=oj hm
 exact wZ hE rfl ⟨_,rfl,_,_,_,_,rfl,(hp.drop)⟩
theorem vT {Z:World} {ρ:PH} {L:List bZ} {w:World} (bp0:Nat) (p0:Sol) (aV:Value) (aX:Value) (aY:Value) (aS:Value) (aN:Value) (aF:List Sl×List Pc) (aT:Value) (aP:Value) (aO:Nat) (aK:Value) (aJ:Value) (aQ:Value) (bF:List Sl) (p1:(Option Nat)) (hp:Hp Z ρ (Pt bp0 (.cells #[aV,aX,aY,aS,aN,aT,aP,(Iv p0.head),(Pv aO 0),aQ,(Iv p0.literals),(.bool p0.broken)] 65 (0,0))::aA 3 aV p0.value::aA 3 aX p0.level::aA 71 aY (List.map (hq (aF).2) (p0.reason:List (Option Nat)))::aA 3 aS p0.saved::cO 61 71 (78,3) aN aF (p0.watches:WD) none none::aA 3 aT p0.trail::aA 3 aP p0.starts::Pt aO (.cells #[aK,aJ] 68 (0,0))::aA 3 aK p0.queue.list::aA 4 aJ p0.queue.isin::bT 25 3 aQ bF (p0.proof:(List (List Int)))::L) w) (r:Sol) (hm:kZ p0 p1=some r):
  Calls Try.prog 55 #[(Pv bp0 0),(pqv (hq (aF).2 p1))] w (Ret fun v w'=>∃(dS:Value) (dQ:List Sl),v= .tuple #[]∧Hp Z ρ (Pt bp0 (.cells #[aV,aX,aY,aS,dS,aT,aP,(Iv r.head),(Pv aO 0),aQ,(Iv r.literals),(.bool r.broken)] 65 (0,0))::aA 3 aV p0.value::aA 3 aX p0.level::aA 71 aY (List.map (hq ((dQ,aF.2)).2) (p0.reason:List (Option Nat)))::aA 3 aS p0.saved::cO 61 71 (78,3) dS (dQ,aF.2) (r.watches:WD) none none::aA 3 aT p0.trail::aA 3 aP p0.starts::Pt aO (.cells #[aK,aJ] 68 (0,0))::aA 3 aK p0.queue.list::aA 4 aJ p0.queue.isin::bT 25 3 aQ bF (p0.proof:(List (List Int)))::L) w'):=by
 refine enter (N:=35) Try.func55 rfl rfl [(0,(Pv bp0 0)),(1,(pqv (hq (aF).2 p1)))] rfl (bM ⟨rfl,rfl,trivial⟩) fun a hE=>?_
 unfold kZ at hm
 refine aG (aB ?_)
 refine S hE 1 rfl fun a hE=>?_
 obtain⟨x1,ex1,hm⟩:=bnd hm
 rw[ex1,pqv_hq] at hE
 obtain⟨x2,ex2,hm⟩:=bnd hm
 obtain⟨pc1,pc1h,hp⟩:=cO.take ex2 (hp.get 5 rfl)
 rw[pc1h] at hE
 have hp:=r14 hp
 refine S hE 1 rfl fun a hE=>V hE hp rfl (xf hE jE rfl rfl) fun a hE=>V hE hp rfl (xl hE bJ 1 rfl rfl rfl rfl) fun a hE=>?_
 obtain⟨x3,ex3,hm⟩:=bnd hm
 obtain⟨v1,v1r,v1f⟩:=aA.viewF hp 0 rfl bC none (some (.i64,2)) rfl rfl ex3
 refine V hE hp rfl (wV rfl hE rfl none (some (.i64,2)) (by exact trivial) (by exact rfl) v1r) fun a hE=>V hE hp rfl (dL rfl hE rfl (D5.len v1f hp 0 rfl bC)) fun a hE=>S hE 1 rfl fun a hE=>aC ?_
 obtain⟨b1,hc1,hm⟩:=bnd hm
 refine dH (fun a w=>∃(w6:Value) (us6:List Sl),Env 35 [] a∧Hp Z ρ (aA 3 (Sl.v (Pc.s pc1)) x2::Pt (Pc.b pc1) (.cells #[(Sl.v (Pc.s pc1))] 78 (0,0))::cO 61 71 (78,3) w6 (us6,aF.2) (b1:WD) none (some ((x1,pc1):Nat×Pc))::Pt bp0 (.cells #[aV,aX,aY,aS,w6,aT,aP,(Iv p0.head),(Pv aO 0),aQ,(Iv p0.literals),(.bool p0.broken)] 65 (0,0))::aA 3 aV p0.value::aA 3 aX p0.level::aA 71 aY (List.map (hq ((us6,aF.2)).2) (p0.reason:List (Option Nat)))::aA 3 aS p0.saved::aA 3 aT p0.trail::aA 3 aP p0.starts::Pt aO (.cells #[aK,aJ] 68 (0,0))::aA 3 aK p0.queue.list::aA 4 aJ p0.queue.isin::bT 25 3 aQ bF (p0.proof:(List (List Int)))::L) w) ?_ ?_
 ·refine eU hc1 (fun s a w=>∃(w6:Value) (us6:List Sl),Env 35 [(0,(Pv bp0 0)),(1,(Pv (Pc.b pc1) 0)),(10,v1),(11,(Iv (x3.length:Int))),(12,(Iv s.1))] a∧Hp Z ρ (aA 3 (Sl.v (Pc.s pc1)) x2::Pt (Pc.b pc1) (.cells #[(Sl.v (Pc.s pc1))] 78 (0,0))::cO 61 71 (78,3) w6 (us6,aF.2) (s.2:WD) none (some ((x1,pc1):Nat×Pc))::Pt bp0 (.cells #[aV,aX,aY,aS,w6,aT,aP,(Iv p0.head),(Pv aO 0),aQ,(Iv p0.literals),(.bool p0.broken)] 65 (0,0))::aA 3 aV p0.value::aA 3 aX p0.level::aA 71 aY (List.map (hq ((us6,aF.2)).2) (p0.reason:List (Option Nat)))::aA 3 aS p0.saved::aA 3 aT p0.trail::aA 3 aP p0.starts::Pt aO (.cells #[aK,aJ] 68 (0,0))::aA 3 aK p0.queue.list::aA 4 aJ p0.queue.isin::bT 25 3 aQ bF (p0.proof:(List (List Int)))::L) w) ?_ ?_
  ·exact⟨_,(aF).1,hE.cut ⟨rfl,rfl,rfl,rfl,rfl,trivial⟩,hp⟩
  rintro⟨aW,bU⟩ st a w ⟨w6,us6,hE,hp⟩ hl1
  dsimp only at hE hp hl1
  unfold kS at hl1
  refine aG (aB ?_)
  refine S hE 1 rfl fun a hE=>aC (aG ?_)
  refine dK hE rfl (fun hc2=>?_) (fun hc2=>?_)
  ·replace hl1:=(it hc2).symm.trans hl1
   refine bP (aG ?_)
   refine dF (aG ?_)
   refine aB ?_
   obtain⟨x4,ex4,hl1⟩:=bnd hl1
   obtain⟨b2,b2o,b2r,b2f⟩:=D5.at v1f hp 0 rfl bC ex4
   refine V hE hp rfl (aU rfl hE rfl rfl b2r) fun a hE=>V hE hp rfl (bD rfl hE rfl (fun w hw=>bH bG (b2f 0 _ rfl _ _ w (hw.get 0 rfl)))) fun a hE=>S hE 1 rfl fun a hE=>aC ?_
   obtain⟨x5,ex5,hl1⟩:=bnd hl1
   obtain⟨x6,ex6,hl1⟩:=bnd hl1
   obtain⟨x7,ex7,hl1⟩:=bnd hl1
   obtain⟨x8,ex8,hl1⟩:=bnd hl1
   obtain⟨x9,ex9,hl1⟩:=bnd hl1
   have hp:=hp.drew
   refine jS ([([],At0 Z ρ),([16,18],At1 Z ρ (cO 61 71 (78,3) w6 (us6,aF.2) (bU:WD) none (some ((x1,pc1):Nat×Pc)))),([],At1 Z ρ (Pt bp0 (.cells #[aV,aX,aY,aS,w6,aT,aP,(Iv p0.head),(Pv aO 0),aQ,(Iv p0.literals),(.bool p0.broken)] 65 (0,0))))]:Facts) (fun a w=>∃yus6:List Sl,∃y18:Nat,Env 35 [(0,(Pv bp0 0)),(1,(Pv (Pc.b pc1) 0)),(10,v1),(11,(Iv (x3.length:Int))),(12,(Iv aW))] a∧Hp Z ρ (cO 61 71 (78,3) w6 (yus6,aF.2) ((bU.1.set x6.toNat x8,bU.2):WD) none (some ((x1,pc1):Nat×Pc))::Pt y18 (.cells #[(Pv (Pc.b pc1) 0)] 71 (0,0))::aA 3 (Sl.v (Pc.s pc1)) x2::Pt (Pc.b pc1) (.cells #[(Sl.v (Pc.s pc1))] 78 (0,0))::Pt bp0 (.cells #[aV,aX,aY,aS,w6,aT,aP,(Iv p0.head),(Pv aO 0),aQ,(Iv p0.literals),(.bool p0.broken)] 65 (0,0))::aA 3 aV p0.value::aA 3 aX p0.level::aA 71 aY (List.map (hq ((yus6,aF.2)).2) (p0.reason:List (Option Nat)))::aA 3 aS p0.saved::aA 3 aT p0.trail::aA 3 aP p0.starts::Pt aO (.cells #[aK,aJ] 68 (0,0))::aA 3 aK p0.queue.list::aA 4 aJ p0.queue.isin::bT 25 3 aQ bF (p0.proof:(List (List Int)))::L) w) (by kernel_rfl) ⟨fun _=>⟨_,hp⟩,fun _=>⟨_,(hp.get 2 rfl)⟩,fun _=>⟨_,(hp.get 3 rfl)⟩,trivial⟩ (fun hS=>?_) ?_
   ·
    generalize w.drew=w at hS hp⊢
    refine Ts [0,1] hE hS rfl rfl (by kernel_rfl) fun a hE hS=>T0 2 hE hS rfl rfl rfl (by kernel_rfl) (fun _=>xf hE vY rfl rfl) fun a hE hS=>T 3 2 hE hS rfl rfl rfl (by kernel_rfl) (fun _=>xl hE N7 0 rfl rfl rfl rfl) fun a hE hS=>Ts [4,6,7] hE hS rfl rfl (by kernel_rfl) fun a hE hS=>T0 8 hE hS rfl rfl rfl (by kernel_rfl) (fun _=>xf hE vY rfl rfl) fun a hE hS=>T 9 2 hE hS rfl rfl rfl (by kernel_rfl) (fun _=>xl hE N7 0 rfl rfl rfl rfl) fun a hE hS=>Ts [10,14] hE hS rfl rfl (by kernel_rfl) fun a hE hS=>?_
    refine jH [5,15] (by kernel_rfl) rfl ?_
    refine List.forall_mem_cons.2 ⟨?_,List.forall_mem_cons.2 ⟨?_,fun _ h=>absurd h (by simp)⟩⟩
    ·
     refine dZ rfl ?_
     refine Cl hE rfl rfl zJ (iD x4 hp x5 ex5) ⟨rfl,trivial⟩ fun v a w hR hE=>?_
     obtain⟨rfl,hp⟩:=hR
     have hp:=r14 hp
     refine aC (aI ⟨gp0 hp,gp 2 hp rfl,gp 3 hp rfl,trivial⟩ fun hS=>?_)
     refine jH [11,15] (by kernel_rfl) rfl ?_
     refine List.forall_mem_cons.2 ⟨?_,List.forall_mem_cons.2 ⟨?_,fun _ h=>absurd h (by simp)⟩⟩
     ·
      refine dZ rfl ?_
      refine Cl hE rfl rfl zJ (iD x4 hp x6 ex6) ⟨rfl,trivial⟩ fun v a w hR hE=>?_
      obtain⟨rfl,hp⟩:=hR
      have hp:=r14 hp
      refine aC (aI ⟨gp0 hp,gp 2 hp rfl,gp 3 hp rfl,trivial⟩ fun hS=>?_)
      obtain⟨b6u,b6,b6o,b6h,b6r,b6v,b6f⟩:=cO.hdr (hp.get 2 rfl) tX ex7
      refine T0 12 hE hS rfl rfl rfl (by kernel_rfl) (fun _=>aU rfl hE rfl rfl b6r) fun a hE hS=>T 13 1 hE hS rfl rfl rfl (by kernel_rfl) (fun _=>bD rfl hE rfl (fun w hw=>bH nG (b6f 0 _ rfl _ _ w (hw.get 0 rfl)))) fun a hE hS=>?_
      refine W1 15 (by kernel_rfl) rfl ?_
      refine iP (wk0 rfl) rfl rfl hE hp rfl [(0,(Pv (Pc.b pc1) 0))] ⟨⟨rfl,rfl⟩,trivial⟩ [(Pv (Pc.b pc1) 0)] 71 (fun w=>by simp[Instr.buildSlice,Instr.fill,Value.cells,go_sem]) ?_
      intro a w b7 hE hp
      have hp:=r15 hp
      refine aC (aI ⟨gp0 hp,gp 3 hp rfl,gp 4 hp rfl,trivial⟩ fun hS=>?_)
      refine W1 16 (by kernel_rfl) rfl ?_
      have hp:=cO.takeRow (show neL x6 none from trivial) b6h ex7 (hp.get 3 rfl)
      have hp:=r16 hp
      have hwx8:=Q5.away hp 1 rfl
      refine lY (wk0 rfl) rfl rfl hE hp rfl pR rfl rfl 0 rfl rfl (l2:=List.map (hdP ((us6,aF.2)).2) ([x1]:List Nat)) rfl (fun j u hj=>by have:=Hp.cN 2 rfl 0 _ (bV rfl) w hp j u (by simpa[flat,Enc.enc,hwx8,Pc.v] using hj);simpa using this) (qI ex8) ?_
      intro v3 a w hE hp
      have hp:=r16 hp
      refine aC (aI ⟨gp0 hp,dead (by kernel_rfl),gp 5 hp rfl,trivial⟩ fun hS=>?_)
      obtain⟨b8,b8o,b8r,b8v⟩:=Q5.adr (hp.get 1 rfl) tX b6h
      rw[←gQ ex9] at b8r
      refine T0 17 hE hS rfl rfl rfl (by kernel_rfl) (fun _=>aU rfl hE rfl rfl b8r) fun a hE hS=>?_
      refine W1 18 (by kernel_rfl) rfl ?_
      obtain⟨sl2,sl2e⟩:=aA.toSl hp 0 rfl
      refine s_pput (wk0 rfl) rfl hE sl2e ((hp.get 1 rfl).get 1 rfl) rfl rfl rfl (show neL x6 none from trivial) b6h ex7 b8v nG.size_ ?_
      intro w hp
      have hp:=r15 hp
      refine aC (aI ⟨gp0 hp,dead (by kernel_rfl),gp 4 hp rfl,trivial⟩ fun hS=>?_)
      exact eG (by kernel_rfl) ⟨(((us6,aF.2).1.set x6.toNat sl2,(us6,aF.2).2)).1,_,hE.cut ⟨rfl,rfl,rfl,rfl,rfl,trivial⟩,hp⟩
     refine dZ rfl ?_
     refine iP (wk0 rfl) rfl rfl hE hp rfl [(0,(Pv (Pc.b pc1) 0))] ⟨⟨rfl,rfl⟩,trivial⟩ [(Pv (Pc.b pc1) 0)] 71 (fun w=>by simp[Instr.buildSlice,Instr.fill,Value.cells,go_sem]) ?_
     intro a w b9 hE hp
     have hp:=r15 hp
     refine aC (aI ⟨gp0 hp,gp 3 hp rfl,gp 4 hp rfl,trivial⟩ fun hS=>?_)
     refine W1 11 (by kernel_rfl) rfl ?_
     refine Cl hE rfl rfl zJ (iD x4 hp x6 ex6) ⟨rfl,trivial⟩ fun v a w hR hE=>?_
     obtain⟨rfl,hp⟩:=hR
     have hp:=r15 hp
     refine aC (aI ⟨gp0 hp,gp 3 hp rfl,gp 4 hp rfl,trivial⟩ fun hS=>?_)
     obtain⟨b10u,b10,b10o,b10h,b10r,b10v,b10f⟩:=cO.hdr (hp.get 3 rfl) tX ex7
     refine T0 12 hE hS rfl rfl rfl (by kernel_rfl) (fun _=>aU rfl hE rfl rfl b10r) fun a hE hS=>T 13 1 hE hS rfl rfl rfl (by kernel_rfl) (fun _=>bD rfl hE rfl (fun w hw=>bH nG (b10f 0 _ rfl _ _ w (hw.get 0 rfl)))) fun a hE hS=>?_
     refine W1 16 (by kernel_rfl) rfl ?_
     have hp:=cO.takeRow (show neL x6 none from trivial) b10h ex7 (hp.get 3 rfl)
     have hp:=r16 hp
     have hwx8:=Q5.away hp 1 rfl
     refine lY (wk0 rfl) rfl rfl hE hp rfl pR rfl rfl 0 rfl rfl (l2:=List.map (hdP ((us6,aF.2)).2) ([x1]:List Nat)) rfl (fun j u hj=>by have:=Hp.cN 2 rfl 0 _ (bV rfl) w hp j u (by simpa[flat,Enc.enc,hwx8,Pc.v] using hj);simpa using this) (qI ex8) ?_
     intro v4 a w hE hp
     have hp:=r16 hp
     refine aC (aI ⟨gp0 hp,dead (by kernel_rfl),gp 5 hp rfl,trivial⟩ fun hS=>?_)
     obtain⟨b11,b11o,b11r,b11v⟩:=Q5.adr (hp.get 1 rfl) tX b10h
     rw[←gQ ex9] at b11r
     refine T0 17 hE hS rfl rfl rfl (by kernel_rfl) (fun _=>aU rfl hE rfl rfl b11r) fun a hE hS=>?_
     refine W1 18 (by kernel_rfl) rfl ?_
     obtain⟨sl3,sl3e⟩:=aA.toSl hp 0 rfl
     refine s_pput (wk0 rfl) rfl hE sl3e ((hp.get 1 rfl).get 1 rfl) rfl rfl rfl (show neL x6 none from trivial) b10h ex7 b11v nG.size_ ?_
     intro w hp
     have hp:=r15 hp
     refine aC (aI ⟨gp0 hp,dead (by kernel_rfl),gp 4 hp rfl,trivial⟩ fun hS=>?_)
     exact eG (by kernel_rfl) ⟨(((us6,aF.2).1.set x6.toNat sl3,(us6,aF.2).2)).1,_,hE.cut ⟨rfl,rfl,rfl,rfl,rfl,trivial⟩,hp⟩
    refine dZ rfl ?_
    refine iP (wk0 rfl) rfl rfl hE hp rfl [(0,(Pv (Pc.b pc1) 0))] ⟨⟨rfl,rfl⟩,trivial⟩ [(Pv (Pc.b pc1) 0)] 71 (fun w=>by simp[Instr.buildSlice,Instr.fill,Value.cells,go_sem]) ?_
    intro a w b12 hE hp
    have hp:=r15 hp
    refine aC (aI ⟨gp0 hp,gp 3 hp rfl,gp 4 hp rfl,trivial⟩ fun hS=>?_)
    refine W1 5 (by kernel_rfl) rfl ?_
    refine Cl hE rfl rfl zJ (iD x4 hp x5 ex5) ⟨rfl,trivial⟩ fun v a w hR hE=>?_
    obtain⟨rfl,hp⟩:=hR
    have hp:=r15 hp
    refine aC (aI ⟨gp0 hp,gp 3 hp rfl,gp 4 hp rfl,trivial⟩ fun hS=>?_)
    refine W1 11 (by kernel_rfl) rfl ?_
    refine Cl hE rfl rfl zJ (iD x4 hp x6 ex6) ⟨rfl,trivial⟩ fun v a w hR hE=>?_
    obtain⟨rfl,hp⟩:=hR
    have hp:=r15 hp
    refine aC (aI ⟨gp0 hp,gp 3 hp rfl,gp 4 hp rfl,trivial⟩ fun hS=>?_)
    obtain⟨b13u,b13,b13o,b13h,b13r,b13v,b13f⟩:=cO.hdr (hp.get 3 rfl) tX ex7
    refine T0 12 hE hS rfl rfl rfl (by kernel_rfl) (fun _=>aU rfl hE rfl rfl b13r) fun a hE hS=>T 13 1 hE hS rfl rfl rfl (by kernel_rfl) (fun _=>bD rfl hE rfl (fun w hw=>bH nG (b13f 0 _ rfl _ _ w (hw.get 0 rfl)))) fun a hE hS=>?_
    refine W1 16 (by kernel_rfl) rfl ?_
    have hp:=cO.takeRow (show neL x6 none from trivial) b13h ex7 (hp.get 3 rfl)
    have hp:=r16 hp
    have hwx8:=Q5.away hp 1 rfl
    refine lY (wk0 rfl) rfl rfl hE hp rfl pR rfl rfl 0 rfl rfl (l2:=List.map (hdP ((us6,aF.2)).2) ([x1]:List Nat)) rfl (fun j u hj=>by have:=Hp.cN 2 rfl 0 _ (bV rfl) w hp j u (by simpa[flat,Enc.enc,hwx8,Pc.v] using hj);simpa using this) (qI ex8) ?_
    intro v5 a w hE hp
    have hp:=r16 hp
    refine aC (aI ⟨gp0 hp,dead (by kernel_rfl),gp 5 hp rfl,trivial⟩ fun hS=>?_)
    obtain⟨b14,b14o,b14r,b14v⟩:=Q5.adr (hp.get 1 rfl) tX b13h
    rw[←gQ ex9] at b14r
    refine T0 17 hE hS rfl rfl rfl (by kernel_rfl) (fun _=>aU rfl hE rfl rfl b14r) fun a hE hS=>?_
    refine W1 18 (by kernel_rfl) rfl ?_
    obtain⟨sl4,sl4e⟩:=aA.toSl hp 0 rfl
    refine s_pput (wk0 rfl) rfl hE sl4e ((hp.get 1 rfl).get 1 rfl) rfl rfl rfl (show neL x6 none from trivial) b13h ex7 b14v nG.size_ ?_
    intro w hp
    have hp:=r15 hp
    refine aC (aI ⟨gp0 hp,dead (by kernel_rfl),gp 4 hp rfl,trivial⟩ fun hS=>?_)
    exact eG (by kernel_rfl) ⟨(((us6,aF.2).1.set x6.toNat sl4,(us6,aF.2).2)).1,_,hE.cut ⟨rfl,rfl,rfl,rfl,rfl,trivial⟩,hp⟩
   rintro a w ⟨yus6,y18,hE,hp⟩
   refine aB ?_
   obtain⟨x10,ex10,hl1⟩:=bnd hl1
   refine V hE hp rfl (dD rfl hE rfl rfl (aZ ex10)) fun a hE=>S hE 1 rfl fun a hE=>aC ?_
   exact⟨_,(oj hl1).symm,_,((yus6,aF.2)).1,hE.cut ⟨rfl,rfl,rfl,rfl,rfl,trivial⟩,((((((((((((((((hp.get 14 rfl).get 14 rfl).get 14 rfl).get 14 rfl).get 14 rfl).get 14 rfl).get 14 rfl).get 14 rfl).get 14 rfl).get 14 rfl).get 14 rfl).get 11 rfl).get 14 rfl).get 14 rfl).get 14 rfl).drop)⟩
  replace hl1:=(ie hc2).symm.trans hl1
  refine dR ?_
  refine⟨_,(oj hl1).symm,fun hbb=>?_⟩
  subst hbb
  exact⟨_,((us6,aF.2)).1,hE.cut trivial,hp⟩
 rintro a w ⟨w6,us6,hE,hp⟩
 obtain⟨hp,hbk1⟩:=cO.back (Tc:=(78,3)) (((hp.get 2 rfl).get 2 rfl).get 2 rfl)
 have hp:=r12 hp
 obtain rfl:=oj hm
 exact wZ hE rfl ⟨_,rfl,_,_,rfl,((((((((((((hp.get 11 rfl).get 11 rfl).get 11 rfl).get 11 rfl).get 11 rfl).get 11 rfl).get 6 rfl).get 11 rfl).get 11 rfl).get 11 rfl).get 11 rfl).get 11 rfl)⟩
theorem xZ {Z:World} {ρ:PH} {L:List bZ} {w:World} (bp0:Nat) (p0:Sol) (aV:Value) (aX:Value) (aY:Value) (aS:Value) (aN:Value) (aF:List Sl×List Pc) (aT:Value) (aP:Value) (aO:Nat) (aK:Value) (aJ:Value) (aQ:Value) (bF:List Sl) (p1:(List Int)) (vp1:Value) (hp1:bW ρ vp1 p1) (hp:Hp Z ρ (Pt bp0 (.cells #[aV,aX,aY,aS,aN,aT,aP,(Iv p0.head),(Pv aO 0),aQ,(Iv p0.literals),(.bool p0.broken)] 65 (0,0))::aA 3 aV p0.value::aA 3 aX p0.level::aA 71 aY (List.map (hq (aF).2) (p0.reason:List (Option Nat)))::aA 3 aS p0.saved::cO 61 71 (78,3) aN aF (p0.watches:WD) none none::aA 3 aT p0.trail::aA 3 aP p0.starts::Pt aO (.cells #[aK,aJ] 68 (0,0))::aA 3 aK p0.queue.list::aA 4 aJ p0.queue.isin::bT 25 3 aQ bF (p0.proof:(List (List Int)))::L) w) (r:Sol) (hm:mO p0 p1=some r):
  Calls Try.prog 49 #[(Pv bp0 0),vp1] w (Ret fun v w'=>∃(eQ:Value) (jZ:Value) (iY:Value) (dS:Value) (dQ:List Sl×List Pc) (eP:Value),v= .tuple #[]∧Hp Z ρ (Pt bp0 (.cells #[eQ,jZ,iY,aS,dS,eP,aP,(Iv r.head),(Pv aO 0),aQ,(Iv r.literals),(.bool r.broken)] 65 (0,0))::aA 3 eQ r.value::aA 3 jZ r.level::aA 71 iY (List.map (hq (dQ).2) (r.reason:List (Option Nat)))::aA 3 aS p0.saved::cO 61 71 (78,3) dS dQ (r.watches:WD) none none::aA 3 eP r.trail::aA 3 aP p0.starts::Pt aO (.cells #[aK,aJ] 68 (0,0))::aA 3 aK p0.queue.list::aA 4 aJ p0.queue.isin::bT 25 3 aQ bF (p0.proof:(List (List Int)))::L) w'):=by
 refine enter (N:=36) Try.func49 rfl rfl [(0,(Pv bp0 0)),(1,vp1)] rfl (bM ⟨rfl,rfl,trivial⟩) fun a hE=>?_
 unfold mO at hm
 refine aG (aB ?_)
 refine S hE 1 rfl fun a hE=>V hE hp rfl (dL rfl hE rfl (bW.len hp1 bC)) fun a hE=>aC (dF ?_)
 refine aG (aB ?_)
 refine S hE 2 rfl fun a hE=>aC ?_
 refine dK hE rfl (fun hc1=>?_) (fun hc1=>?_)
 ·replace hm:=(it hc1).symm.trans hm
  refine aB (S hE 2 rfl fun a hE=>?_)
  refine V hE hp rfl (xf hE J4 rfl rfl) fun a hE=>?_
  refine dO (wk0 rfl) rfl hE hp rfl rfl rfl 0 rfl sO.size_ rfl (bY ⟨rfl,trivial⟩) [aV,aX,aY,aS,aN,aT,aP,(Iv p0.head),(Pv aO 0),aQ,(Iv p0.literals),(.bool true)] rfl ?_
  intro w hp
  have hp:=r12 hp
  refine aC ?_
  obtain rfl:=oj hm
  exact wZ hE rfl ⟨_,rfl,_,_,_,_,_,_,rfl,hp⟩
 replace hm:=(ie hc1).symm.trans hm
 refine aG (aB ?_)
 refine S hE 2 rfl fun a hE=>aC ?_
 refine dK hE rfl (fun hc2=>?_) (fun hc2=>?_)
 ·replace hm:=(it hc2).symm.trans hm
  refine aG (aB ?_)
  refine S hE 2 rfl fun a hE=>?_
  obtain⟨x1,ex1,hm⟩:=bnd hm
  obtain⟨b1,b1o,b1c,b1r,b1k,b1f⟩:=bW.at hp1 bC ex1
  obtain rfl:b1c=Enc.enc x1:=b1k
  have b1f:AtP ρ b1 b1o [(Iv x1)]:=b1f
  refine V hE hp rfl (aU rfl hE rfl rfl b1r) fun a hE=>V hE hp rfl (bD rfl hE rfl (fun w hw=>bH bG (b1f.c 0 rfl w hw))) fun a hE=>?_
  obtain⟨x2,ex2,hm⟩:=bnd hm
  refine Cl hE rfl rfl ent64 (rE bp0 p0 aV aX aY aS aN aF aT aP aO aK aJ aQ bF x1 ((((((((((((hp.get 11 rfl).get 11 rfl).get 11 rfl).get 11 rfl).get 11 rfl).get 11 rfl).get 11 rfl).get 11 rfl).get 11 rfl).get 11 rfl).get 11 rfl).get 11 rfl) x2 ex2) ⟨rfl,rfl,trivial⟩ fun v a w hR hE=>?_
  obtain⟨rfl,hp⟩:=hR
  have hp:=r12 hp
  refine aC (dF ?_)
  refine aG (aB ?_)
  refine S hE 2 rfl fun a hE=>aC ?_
  refine dK hE rfl (fun hc3=>?_) (fun hc3=>?_)
  ·replace hm:=(it hc3).symm.trans hm
   refine aB (S hE 2 rfl fun a hE=>?_)
   refine V hE hp rfl (xf hE J4 rfl rfl) fun a hE=>?_
   refine dO (wk0 rfl) rfl hE hp rfl rfl rfl 0 rfl sO.size_ rfl (bY ⟨rfl,trivial⟩) [aV,aX,aY,aS,aN,aT,aP,(Iv p0.head),(Pv aO 0),aQ,(Iv p0.literals),(.bool true)] rfl ?_
   intro w hp
   have hp:=r12 hp
   refine aC ?_
   obtain rfl:=oj hm
   exact wZ hE rfl ⟨_,rfl,_,_,_,_,_,_,rfl,hp⟩
  replace hm:=(ie hc3).symm.trans hm
  refine aG (aB ?_)
  refine S hE 2 rfl fun a hE=>aC ?_
  refine dK hE rfl (fun hc4=>?_) (fun hc4=>?_)
  ·replace hm:=(it hc4).symm.trans hm
   refine aB (S hE 2 rfl fun a hE=>?_)
   obtain⟨x3,ex3,hm⟩:=bnd hm
   obtain⟨b2,b2o,b2c,b2r,b2k,b2f⟩:=bW.at hp1 bC ex3
   obtain rfl:b2c=Enc.enc x3:=b2k
   have b2f:AtP ρ b2 b2o [(Iv x3)]:=b2f
   refine V hE hp rfl (aU rfl hE rfl rfl b2r) fun a hE=>V hE hp rfl (bD rfl hE rfl (fun w hw=>bH bG (b2f.c 0 rfl w hw))) fun a hE=>?_
   obtain⟨x4,ex4,hm⟩:=bnd hm
   refine Cl hE rfl rfl ent56 (nU bp0 p0 aV aX aY aS aN aF aT aP aO aK aJ aQ bF x3 none ((((((((((((hp.get 11 rfl).get 11 rfl).get 11 rfl).get 11 rfl).get 11 rfl).get 11 rfl).get 11 rfl).get 11 rfl).get 11 rfl).get 11 rfl).get 11 rfl).get 11 rfl) x4 ex4) ⟨rfl,rfl,rfl,trivial⟩ fun v a w hR hE=>?_
   obtain⟨lD,rW,qE,lC,rfl,hp⟩:=hR
   have hp:=r12 hp
   refine aC ?_
   obtain rfl:=oj hm
   exact wZ hE rfl ⟨_,rfl,_,_,_,_,_,_,rfl,hp⟩
  replace hm:=(ie hc4).symm.trans hm
  refine bP ?_
  obtain rfl:=oj hm
  exact wZ hE rfl ⟨_,rfl,_,_,_,_,_,_,rfl,hp⟩
 replace hm:=(ie hc2).symm.trans hm
 refine aB (S hE 2 rfl fun a hE=>?_)
 obtain⟨x5,ex5,hm⟩:=bnd hm
 refine s_call (wk0 rfl) rfl rfl hE rfl [vp1] ⟨rfl,trivial⟩ ent39 (uS p1 vp1 hp1 hp x5 ex5) Ret.ret ?_
 intro v1 a w hR hE
 obtain⟨u,hu,hp⟩:=Ret.of hR
 rw[←hu] at hp
 have hp:=r13 hp
 refine V hE hp rfl (v:=(.agg #[v1])) (qN rfl hE [(0,v1)] (by exact⟨⟨rfl,rfl⟩,trivial⟩) (fun w=>by have hc0:=aA.cells hp 0 rfl;simp only[Value.cells] at hc0;simp[Instr.build,Instr.fill,Value.cells,hc0,go_sem])) fun a hE=>?_
 refine rO (wk0 rfl) rfl rfl hE hp rfl (v:=(.agg #[v1])) rfl ?_
 intro a w b3 hE hp
 have hp:=r14 hp
 obtain⟨x6,ex6,hm⟩:=bnd hm
 obtain⟨x7,ex7,hm⟩:=bnd hm
 obtain⟨ut1,pc1,pc1b,pc1s,hp⟩:=cO.give (Tc:=(78,3)) ex6 ex7 ((((hp.get 5 rfl).get 7 rfl).get 2 rfl).get 3 rfl)
 subst pc1b
 subst pc1s
 have hp:=r14 hp
 obtain⟨hp,hbk1⟩:=cO.back (Tc:=(78,3)) (((hp.get 2 rfl).get 2 rfl).get 2 rfl)
 rw[←hbk1] at hE
 have hp:=r12 hp
 obtain⟨x8,ex8,hm⟩:=bnd hm
 refine Cl hE rfl rfl ent55 (vT bp0 (Sol.mk p0.value p0.level p0.reason p0.saved ((p0.watches.1,x6).1,(p0.watches.1,x6).2.set p0.watches.2.length x5) p0.trail p0.starts p0.head p0.queue p0.proof p0.literals p0.broken) aV aX aY aS aN ut1 aT aP aO aK aJ aQ bF (some p0.watches.2.length) ((((((((((((hp.get 11 rfl).get 11 rfl).get 11 rfl).get 11 rfl).get 11 rfl).get 11 rfl).get 6 rfl).get 11 rfl).get 8 rfl).get 11 rfl).get 11 rfl).get 11 rfl) x8 ex8) ⟨rfl,rfl,trivial⟩ fun v a w hR hE=>?_
 obtain⟨xC,rH,rfl,hp⟩:=hR
 have hp:=r12 hp
 refine aC ?_
 obtain rfl:=oj hm
 exact wZ hE rfl ⟨_,rfl,_,_,_,_,_,_,rfl,hp⟩
theorem wpIn_peel {F:Fence} {n:Nat} {P:Program} {Q:Exit→Act→World→Prop} {a:Act} {w:World} {c:Code} (h:c.wpIn F n P (Exit.then (fun a w=>∃m,Code.roundsIn F n P c Q m a w) Q) a w):(Code.loop c).wpIn F n P Q a w:=by
 intro b k cs hro hb hr
 have go:∀(m:Nat) (a:Act) (w:World),Code.roundsIn F n P c Q m a w→∃e a' w',Q e a' w'∧ArrivesIn (Machine.fenced P F) P (lone (b.atR a (.code c:: .inLoop c::k)) cs w) b k cs e a' w':=by
  intro m
  induction m with
  |zero=>intro a w h;exact h.elim
  |succ m ih=>
   intro a w h
   obtain⟨e,a1,w1,hq,har⟩:=h b (.inLoop c::k) cs hro hb hr
   cases e with
   |normal=>
    obtain⟨e2,a2,w2,hq2,har2⟩:=ih a1 w1 hq
    exact⟨e2,a2,w2,hq2,.of_steps (StepsIn.trans har (.one (fenced_calm hb hr rfl) stepR_inLoop)) har2⟩
   |_=>exact⟨_,a1,w1,hq,.pass (x:= .inLoop c) rfl (fun _ _=> .inl (by simp)) har⟩
 obtain⟨e,a1,w1,hq,har⟩:=h b (.inLoop c::k) cs hro hb hr
 have first:∃e a' w',Q e a' w'∧ArrivesIn (Machine.fenced P F) P (lone (b.atR a (.code c:: .inLoop c::k)) cs w) b k cs e a' w':=by
  cases e with
  |normal=>
   obtain⟨m,hm⟩:=hq
   obtain⟨e2,a2,w2,hq2,har2⟩:=go m a1 w1 hm
   exact⟨e2,a2,w2,hq2,.of_steps (StepsIn.trans har (.one (fenced_calm hb hr rfl) stepR_inLoop)) har2⟩
  |_=>exact⟨_,a1,w1,hq,.pass (x:= .inLoop c) rfl (fun _ _=> .inl (by simp)) har⟩
 obtain⟨e,a',w',hq,har⟩:=first
 exact⟨e,a',w',hq,.of_steps (.one (fenced_calm hb hr rfl) stepR_loop) har⟩
section
variable {Rn:Option Nat} {P:Program} {Q:Exit→Act→World→Prop} {a:Act} {w:World} {cs:List Code} {c:Code}
theorem k_peel (h:wpK Rn P (fun e a w=>match e with| .normal=>∃m,Code.roundsIn (fR Rn) 0 P c (Exit.then (wpK Rn P Q cs) Q) m a w|e=>Q e a w) [c] a w):wpK Rn P Q (.loop c::cs) a w:=
 wpIn_peel (wpIn_mono h (fun e a w q=>by cases e<;>exact q))
theorem in_loop {σ β:Type} {body:σ→Option (Step σ β)} {s:σ} {b:β} {Q':Exit→Act→World→Prop} (hm:dC body s=some b) (I:σ→Act→World→Prop) (h0:I s a w)
  (round:∀s st a w,I s a w→body s=some st→wpK Rn P (fun e a w=>match e with| .normal=>∃s',st= .next s'∧I s' a w|e=>∃b',st= .done b'∧(b'=b→Q' e a w)) [c] a w):∃m,Code.roundsIn (fR Rn) 0 P c Q' m a w:=by
 obtain⟨n,hn⟩:=yJ.1 hm
 refine⟨n,?_⟩
 clear hm
 induction n generalizing s a w with
 |zero=>simp[qX] at hn
 |succ n ih=>
  unfold qX at hn
  cases hb:body s with
  |none=>rw[hb] at hn;cases hn
  |some st=>
   rw[hb] at hn
   refine wpIn_mono (k_one (round s st a w h0 hb)) (fun e a' w' q=>?_)
   cases st with
   |next s'=>
    cases e with
    |normal=>
     obtain⟨s2,e2,i2⟩:=q
     simp only[Step.next.injEq] at e2
     subst e2
     exact ih i2 hn
    |_=>obtain⟨b',e2,_⟩:=q;cases e2
   |done b2=>
    have hbb:b2=b:=oj hn
    cases e with
    |normal=>obtain⟨s2,e2,_⟩:=q;cases e2
    |_=>
     obtain⟨b',e2,k2⟩:=q
     simp only[Step.done.injEq] at e2
     exact k2 (e2.symm.trans hbb)
end
section
variable {P:Program} {ops:Array Oper} {J:Act→World→Prop} {F:Facts} {fuel:Nat} {listed:Array Bool} {a:Act} {w:World}
theorem v_dag (hS:invV F listed w)
  (K:∀(G:Nat→Array Bool→Act→World→Prop) (I:Array Bool→World→Prop),(∀n l a w,kL P .any ops (QJ J) F n l a w→G n l a w)→(∀n l l' a w,l=l'→G n l' a w→kL P .any ops (QJ J) F n l a w)→(∀l w,I l w→invV F l w)→(∀l l' w,l=l'→invV F l w→I l' w)→I listed w→G fuel listed a w):
  kL P .any ops (QJ J) F fuel listed a w:=
 K (kL P .any ops (QJ J) F) (invV F) (fun _ _ _ _ h=>h) (fun _ _ _ _ _ e h=>e▸h) (fun _ _ h=>h) (fun _ _ _ e h=>e▸h) hS
end
end Go.Proofs.Ytpkhmndpeipfmaa

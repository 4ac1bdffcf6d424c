/- The code goes as its model: (*assessor/solver.solver).propagate. (Printed by wip/sp/gen.py.) -/
import Derived.Test.YtpkhmndpeipfmaaKUnT
import Derived.Test.YtpkhmndpeipfmaaKUn5
import Derived.Test.YtpkhmndpeipfmaaKUn6
import Derived.Test.YtpkhmndpeipfmaaKUn9
set_option linter.unusedVariables false
set_option linter.unusedSimpArgs false
set_option maxRecDepth 100000
set_option maxHeartbeats 4000000
namespace Go.Proofs.Ytpkhmndpeipfmaa
open Go.RowKit
theorem zG {Z:World} {ρ:PH} {L:List bZ} {w:World} (bp0:Nat) (p0:Sol) (aV:Value) (aX:Value) (aY:Value) (aS:Value) (aN:Value) (aF:List Sl×List Pc) (aT:Value) (aP:Value) (aO:Nat) (aK:Value) (aJ:Value) (aQ:Value) (bF:List Sl) (hp:Hp Z ρ (Pt bp0 (.cells #[aV,aX,aY,aS,aN,aT,aP,(Iv p0.head),(Pv aO 0),aQ,(Iv p0.literals),(.bool p0.broken)] 65 (0,0))::aA 3 aV p0.value::aA 3 aX p0.level::aA 71 aY (List.map (hq (aF).2) (p0.reason:List (Option Nat)))::aA 3 aS p0.saved::cO 61 71 (78,3) aN aF (p0.watches:WD) none none::aA 3 aT p0.trail::aA 3 aP p0.starts::Pt aO (.cells #[aK,aJ] 68 (0,0))::aA 3 aK p0.queue.list::aA 4 aJ p0.queue.isin::bT 25 3 aQ bF (p0.proof:(List (List Int)))::L) w) (r:((Option Nat)×Sol)) (hm:kR p0=some r):
  Calls Try.prog 50 #[(Pv bp0 0)] w (Ret fun v w'=>∃(eQ:Value) (jZ:Value) (iY:Value) (dS:Value) (dQ:List Sl) (eP:Value),v=(pqv (hq ((dQ,aF.2)).2 r.1))∧Hp Z ρ (Pt bp0 (.cells #[eQ,jZ,iY,aS,dS,eP,aP,(Iv r.2.head),(Pv aO 0),aQ,(Iv r.2.literals),(.bool r.2.broken)] 65 (0,0))::aA 3 eQ r.2.value::aA 3 jZ r.2.level::aA 71 iY (List.map (hq ((dQ,aF.2)).2) (r.2.reason:List (Option Nat)))::aA 3 aS p0.saved::cO 61 71 (78,3) dS (dQ,aF.2) (r.2.watches:WD) none none::aA 3 eP r.2.trail::aA 3 aP p0.starts::Pt aO (.cells #[aK,aJ] 68 (0,0))::aA 3 aK p0.queue.list::aA 4 aJ p0.queue.isin::bT 25 3 aQ bF (p0.proof:(List (List Int)))::L) w'):=by
 refine enter (N:=222) Try.func50 rfl rfl [(0,(Pv bp0 0))] rfl (bM ⟨rfl,trivial⟩) fun a hE=>?_
 unfold kR at hm
 refine aG (aB ?_)
 refine S hE 1 rfl fun a hE=>aC (aG ?_)
 obtain⟨b1,hc1,hm⟩:=bnd hm
 refine dH (fun a w=>∃s:(Int×Int×Bool×(List Int)×(List Int)×(List (Option Nat))×WD×(List Int)),b1= .brk s∧(∃(w2:Value) (w3:Value) (w4:Value) (w6:Value) (us6:List Sl) (w7:Value),Env 222 [] a∧Hp Z ρ (Pt bp0 (.cells #[w2,w3,w4,aS,w6,w7,aP,(Iv s.1),(Pv aO 0),aQ,(Iv s.2.1),(.bool s.2.2.1)] 65 (0,0))::aA 3 w2 s.2.2.2.1::aA 3 w3 s.2.2.2.2.1::aA 71 w4 (List.map (hq ((us6,aF.2)).2) (s.2.2.2.2.2.1:List (Option Nat)))::aA 3 aS p0.saved::cO 61 71 (78,3) w6 (us6,aF.2) (s.2.2.2.2.2.2.1:WD) none none::aA 3 w7 s.2.2.2.2.2.2.2::aA 3 aP p0.starts::Pt aO (.cells #[aK,aJ] 68 (0,0))::aA 3 aK p0.queue.list::aA 4 aJ p0.queue.isin::bT 25 3 aQ bF (p0.proof:(List (List Int)))::L) w)) ?_ ?_
 ·refine eU hc1 (fun s a w=>∃(w2:Value) (w3:Value) (w4:Value) (w6:Value) (us6:List Sl) (w7:Value),Env 222 [(0,(Pv bp0 0))] a∧Hp Z ρ (Pt bp0 (.cells #[w2,w3,w4,aS,w6,w7,aP,(Iv s.1),(Pv aO 0),aQ,(Iv s.2.1),(.bool s.2.2.1)] 65 (0,0))::aA 3 w2 s.2.2.2.1::aA 3 w3 s.2.2.2.2.1::aA 71 w4 (List.map (hq ((us6,aF.2)).2) (s.2.2.2.2.2.1:List (Option Nat)))::aA 3 aS p0.saved::cO 61 71 (78,3) w6 (us6,aF.2) (s.2.2.2.2.2.2.1:WD) none none::aA 3 w7 s.2.2.2.2.2.2.2::aA 3 aP p0.starts::Pt aO (.cells #[aK,aJ] 68 (0,0))::aA 3 aK p0.queue.list::aA 4 aJ p0.queue.isin::bT 25 3 aQ bF (p0.proof:(List (List Int)))::L) w) ?_ ?_
  ·exact⟨_,_,_,_,(aF).1,_,hE.cut ⟨rfl,trivial⟩,hp⟩
  rintro⟨aW,bU,dJ,jB,kD,lF,vU,vI⟩ st a w ⟨w2,w3,w4,w6,us6,w7,hE,hp⟩ hl1
  dsimp only at hE hp hl1
  unfold kW at hl1
  refine aG (aG ?_)
  refine oN (by kernel_rfl) (by kernel_rfl) hp ?_
  refine Sq hE 2 rfl fun a hE=>Vq hE rfl (xf hE vZ rfl rfl) fun a hE=>Vq hE rfl (xl hE bG 0 rfl rfl rfl rfl) fun a hE=>Sq hE 2 rfl fun a hE=>Vq hE rfl (xf hE oD rfl rfl) fun a hE=>Vq hE rfl (xl hE bJ 0 rfl rfl rfl rfl) fun a hE=>Vq hE rfl (dL rfl hE rfl (aA.len hp 6 rfl bC)) fun a hE=>Sq hE 1 rfl fun a hE=>?_
  refine qR fun w hp=>?_
  have hp:=r12 hp
  refine dK hE rfl (fun hc2=>?_) (fun hc2=>?_)
  ·replace hl1:=(it hc2).symm.trans hl1
   refine bP (dF ?_)
   refine aG ?_
   refine oN (by kernel_rfl) (by kernel_rfl) hp ?_
   refine Sq hE 2 rfl fun a hE=>Vq hE rfl (xf hE oD rfl rfl) fun a hE=>Vq hE rfl (xl hE bJ 0 rfl rfl rfl rfl) fun a hE=>Sq hE 2 rfl fun a hE=>Vq hE rfl (xf hE vZ rfl rfl) fun a hE=>Vq hE rfl (xl hE bG 0 rfl rfl rfl rfl) fun a hE=>?_
   obtain⟨x1,ex1,hl1⟩:=bnd hl1
   obtain⟨b2,b2o,b2r,b2v,b2f⟩:=aA.at hp 6 rfl bC ex1
   refine Vq hE rfl (aU rfl hE rfl rfl b2r) fun a hE=>Vq hE rfl (bD rfl hE rfl (fun w hw=>bH bG (b2f 0 _ rfl _ _ w (hw.get 6 rfl)))) fun a hE=>?_
   obtain⟨x2,ex2,hl1⟩:=bnd hl1
   refine Vq hE rfl (mX rfl hE rfl (aZ ex2)) fun a hE=>Sq hE 1 rfl fun a hE=>?_
   refine qR fun w hp=>?_
   have hp:=r12 hp
   refine aG (aB ?_)
   refine S hE 2 rfl fun a hE=>V hE hp rfl (xf hE vZ rfl rfl) fun a hE=>V hE hp rfl (xl hE bG 0 rfl rfl rfl rfl) fun a hE=>?_
   obtain⟨x3,ex3,hl1⟩:=bnd hl1
   refine V hE hp rfl (dD rfl hE rfl rfl (aZ ex3)) fun a hE=>S hE 1 rfl fun a hE=>V hE hp rfl (xf hE vZ rfl rfl) fun a hE=>?_
   refine dO (wk0 rfl) rfl hE hp rfl rfl rfl 0 rfl bG.size_ rfl (bY ⟨rfl,trivial⟩) [w2,w3,w4,aS,w6,w7,aP,(Iv x3),(Pv aO 0),aQ,(Iv bU),(.bool dJ)] rfl ?_
   intro w hp
   have hp:=r12 hp
   refine aC ?_
   have hE:=hE.cut (E':=[(0,(Pv bp0 0)),(3,(Iv x2))]) ⟨rfl,rfl,trivial⟩
   refine aG ?_
   refine oN (by kernel_rfl) (by kernel_rfl) hp ?_
   refine Sq hE 2 rfl fun a hE=>Vq hE rfl (xf hE vY rfl rfl) fun a hE=>Vq hE rfl (xl hE N7 0 rfl rfl rfl rfl) fun a hE=>Sq hE 1 rfl fun a hE=>?_
   obtain⟨x4,ex4,hl1⟩:=bnd hl1
   refine yU (wk0 rfl) rfl rfl hE rfl [(Iv x2)] ⟨rfl,trivial⟩ zJ (v:=(Iv x4)) (fun w hw=>Calls.mono (iD x2 hw x4 ex4) fun e w' ⟨v,he,hv,hh⟩=>⟨by rw[he,hv],hh⟩) ?_
   intro a hE
   obtain⟨x5,ex5,hl1⟩:=bnd hl1
   obtain⟨b3u,b3,b3o,b3h,b3r,b3v,b3f⟩:=cO.hdr (hp.get 5 rfl) tX ex5
   refine Vq hE rfl (aU rfl hE rfl rfl b3r) fun a hE=>Vq hE rfl (bD rfl hE rfl (fun w hw=>bH nG (b3f 0 _ rfl _ _ w (hw.get 5 rfl)))) fun a hE=>Sq hE 1 rfl fun a hE=>?_
   refine qR fun w hp=>?_
   have hp:=r12 hp
   refine aG (aB ?_)
   refine S hE 1 rfl fun a hE=>?_
   have hp:=cO.lend b3h ex5 (hp.get 5 rfl)
   have hp:=r13 hp
   refine V hE hp rfl (wV rfl hE rfl none (some (.i64,0)) (by exact trivial) (by exact rfl) (OwnP.shr0 hp 0 rfl pR .i64)) fun a hE=>S hE 1 rfl fun a hE=>aC (aG ?_)
   refine aG (aB ?_)
   refine S hE 1 rfl fun a hE=>V hE hp rfl (dL rfl hE rfl (OwnP.len hp 0 rfl pR)) fun a hE=>S hE 1 rfl fun a hE=>aC ?_
   obtain⟨b4,hc3,hl1⟩:=bnd hl1
   refine dH (fun a w=>∃s:(Nat×(List Nat)×WD×Int×Int×Bool×(List Int)×(List Int)×(List (Option Nat))×(List Int)),b4= .brk s∧(∃(w6q:Value) (us6q:List Sl) (w2:Value) (w3:Value) (w4:Value) (w7:Value),Env 222 [(0,(Pv bp0 0)),(3,(Iv x2)),(5,(yB (Sl.v b3u) s.1))] a∧Hp Z ρ (aA 71 (Sl.v b3u) (List.map (hdP ((us6q,aF.2)).2) (s.2.1:List Nat))::cO 61 71 (78,3) w6q (us6q,aF.2) (s.2.2.1:WD) (some (x4:Int)) none::Pt bp0 (.cells #[w2,w3,w4,aS,w6q,w7,aP,(Iv s.2.2.2.1),(Pv aO 0),aQ,(Iv s.2.2.2.2.1),(.bool s.2.2.2.2.2.1)] 65 (0,0))::aA 3 w2 s.2.2.2.2.2.2.1::aA 3 w3 s.2.2.2.2.2.2.2.1::aA 71 w4 (List.map (hq ((us6q,aF.2)).2) (s.2.2.2.2.2.2.2.2.1:List (Option Nat)))::aA 3 aS p0.saved::aA 3 w7 s.2.2.2.2.2.2.2.2.2::aA 3 aP p0.starts::Pt aO (.cells #[aK,aJ] 68 (0,0))::aA 3 aK p0.queue.list::aA 4 aJ p0.queue.isin::bT 25 3 aQ bF (p0.proof:(List (List Int)))::L) w)) ?_ ?_
   ·refine eU hc3 (fun s a w=>∃(w6q:Value) (us6q:List Sl) (w2:Value) (w3:Value) (w4:Value) (w7:Value),Env 222 [(0,(Pv bp0 0)),(3,(Iv x2)),(4,(Sl.v b3u)),(5,(yB (Sl.v b3u) s.1)),(47,(Sl.v b3u)),(48,(Iv (x5.length:Int))),(49,(Iv s.2.1))] a∧Hp Z ρ (aA 71 (Sl.v b3u) (List.map (hdP ((us6q,aF.2)).2) (s.2.2.1:List Nat))::cO 61 71 (78,3) w6q (us6q,aF.2) (s.2.2.2.1:WD) (some (x4:Int)) none::Pt bp0 (.cells #[w2,w3,w4,aS,w6q,w7,aP,(Iv s.2.2.2.2.1),(Pv aO 0),aQ,(Iv s.2.2.2.2.2.1),(.bool s.2.2.2.2.2.2.1)] 65 (0,0))::aA 3 w2 s.2.2.2.2.2.2.2.1::aA 3 w3 s.2.2.2.2.2.2.2.2.1::aA 71 w4 (List.map (hq ((us6q,aF.2)).2) (s.2.2.2.2.2.2.2.2.2.1:List (Option Nat)))::aA 3 aS p0.saved::aA 3 w7 s.2.2.2.2.2.2.2.2.2.2::aA 3 aP p0.starts::Pt aO (.cells #[aK,aJ] 68 (0,0))::aA 3 aK p0.queue.list::aA 4 aJ p0.queue.isin::bT 25 3 aQ bF (p0.proof:(List (List Int)))::L) w) ?_ ?_
    ·exact⟨_,((us6,aF.2)).1,_,_,_,_,hE.cut ⟨rfl,rfl,rfl,rfl,rfl,rfl,rfl,trivial⟩,hp⟩
    rintro⟨dG,fB,gU,fM,iI,iR,iT,qG,qH,sH,pF⟩ st a w ⟨w6q,us6q,w2,w3,w4,w7,hE,hp⟩ hl2
    dsimp only at hE hp hl2
    unfold eH at hl2
    refine aG (aB ?_)
    refine S hE 1 rfl fun a hE=>aC (aG ?_)
    refine dK hE rfl (fun hc4=>?_) (fun hc4=>?_)
    ·replace hl2:=(it hc4).symm.trans hl2
     refine bP (aG ?_)
     obtain⟨j1,hj1,hl2⟩:=bnd hl2
     refine dH (fun a w=>∃s:(Nat×(List Nat)×WD×Int×Int×Bool×(List Int)×(List Int)×(List (Option Nat))×(List Int)),j1= .brk s∧(∃(w6:Value) (us6:List Sl) (w2:Value) (w3:Value) (w4:Value) (w7:Value),Env 222 [(0,(Pv bp0 0)),(3,(Iv x2)),(4,(Sl.v b3u)),(5,(yB (Sl.v b3u) s.1)),(47,(Sl.v b3u)),(48,(Iv (x5.length:Int))),(49,(Iv fB))] a∧Hp Z ρ (aA 71 (Sl.v b3u) (List.map (hdP ((us6,aF.2)).2) (s.2.1:List Nat))::cO 61 71 (78,3) w6 (us6,aF.2) (s.2.2.1:WD) (some (x4:Int)) none::Pt bp0 (.cells #[w2,w3,w4,aS,w6,w7,aP,(Iv s.2.2.2.1),(Pv aO 0),aQ,(Iv s.2.2.2.2.1),(.bool s.2.2.2.2.2.1)] 65 (0,0))::aA 3 w2 s.2.2.2.2.2.2.1::aA 3 w3 s.2.2.2.2.2.2.2.1::aA 71 w4 (List.map (hq ((us6,aF.2)).2) (s.2.2.2.2.2.2.2.2.1:List (Option Nat)))::aA 3 aS p0.saved::aA 3 w7 s.2.2.2.2.2.2.2.2.2::aA 3 aP p0.starts::Pt aO (.cells #[aK,aJ] 68 (0,0))::aA 3 aK p0.queue.list::aA 4 aJ p0.queue.isin::bT 25 3 aQ bF (p0.proof:(List (List Int)))::L) w)) ?_ ?_
     ·
      refine aG (aB ?_)
      refine S hE 1 rfl fun a hE=>?_
      obtain⟨x7,ex7,hj1⟩:=bnd hj1
      obtain⟨b5,b5o,b5r,b5f⟩:=OwnP.at hp 0 rfl pR ex7
      refine V hE hp rfl (aU rfl hE rfl rfl b5r) fun a hE=>V hE hp rfl (bD rfl hE rfl (fun w hw=>bH N8 (b5f 0 _ rfl _ _ w (hw.get 0 rfl)))) fun a hE=>S hE 2 rfl fun a hE=>aC (aG ?_)
      refine aG (aB ?_)
      refine S hE 1 rfl fun a hE=>?_
      obtain⟨x8,ex8,hj1⟩:=bnd hj1
      obtain⟨pc1,pc1h,hp⟩:=cO.take ex8 (hp.get 1 rfl)
      rw[pc1h] at hE
      have hp:=r15 hp
      refine S hE 1 rfl fun a hE=>V hE hp rfl (xf hE jE rfl rfl) fun a hE=>V hE hp rfl (xl hE bJ 1 rfl rfl rfl rfl) fun a hE=>?_
      obtain⟨x9,ex9,hj1⟩:=bnd hj1
      obtain⟨b6,b6o,b6r,b6v,b6f⟩:=aA.at hp 0 rfl bC ex9
      refine V hE hp rfl (aU rfl hE rfl rfl b6r) fun a hE=>V hE hp rfl (bD rfl hE rfl (fun w hw=>bH bG (b6f 0 _ rfl _ _ w (hw.get 0 rfl)))) fun a hE=>S hE 2 rfl fun a hE=>aC ?_
      have hE:=hE.cut (E':=[(0,(Pv bp0 0)),(3,(Iv x2)),(4,(Sl.v b3u)),(5,(yB (Sl.v b3u) dG)),(6,(Iv fB)),(7,(Pv (Pc.b pc1) 0)),(47,(Sl.v b3u)),(48,(Iv (x5.length:Int))),(49,(Iv fB)),(61,(.bool (decide (x9=x2))))]) ⟨rfl,rfl,rfl,rfl,rfl,rfl,rfl,rfl,rfl,rfl,trivial⟩
      obtain⟨j2,hj2,hj1⟩:=bnd hj1
      refine k_cut (fun a w=>Env 222 [(0,(Pv bp0 0)),(3,(Iv x2)),(4,(Sl.v b3u)),(5,(yB (Sl.v b3u) dG)),(6,(Iv fB)),(7,(Pv (Pc.b pc1) 0)),(47,(Sl.v b3u)),(48,(Iv (x5.length:Int))),(49,(Iv fB))] a∧Hp Z ρ (aA 3 (Sl.v (Pc.s pc1)) j2::Pt (Pc.b pc1) (.cells #[(Sl.v (Pc.s pc1))] 78 (0,0))::cO 61 71 (78,3) w6q (us6q,aF.2) (fM:WD) (some (x4:Int)) (some ((x7,pc1):Nat×Pc))::aA 71 (Sl.v b3u) (List.map (hdP ((us6q,aF.2)).2) (gU:List Nat))::Pt bp0 (.cells #[w2,w3,w4,aS,w6q,w7,aP,(Iv iI),(Pv aO 0),aQ,(Iv iR),(.bool iT)] 65 (0,0))::aA 3 w2 qG::aA 3 w3 qH::aA 71 w4 (List.map (hq ((us6q,aF.2)).2) (sH:List (Option Nat)))::aA 3 aS p0.saved::aA 3 w7 pF::aA 3 aP p0.starts::Pt aO (.cells #[aK,aJ] 68 (0,0))::aA 3 aK p0.queue.list::aA 4 aJ p0.queue.isin::bT 25 3 aQ bF (p0.proof:(List (List Int)))::L) w) ?_ ?_
      ·
       refine dK hE rfl (fun hc5=>?_) (fun hc5=>?_)
       ·replace hj2:=(it hc5).symm.trans hj2
        obtain⟨x10,ex10,hj2⟩:=bnd hj2
        obtain⟨x11,ex11,hj2⟩:=bnd hj2
        obtain⟨x12,ex12,hj2⟩:=bnd hj2
        obtain⟨x13,ex13,hj2⟩:=bnd hj2
        have hp:=hp.drew
        refine jS ([([],At0 Z ρ),([21,23],At1 Z ρ (aA 3 (Sl.v (Pc.s pc1)) x8)),([],At1 Z ρ (Pt (Pc.b pc1) (.cells #[(Sl.v (Pc.s pc1))] 78 (0,0))))]:Facts) (fun a w=>Env 222 [(0,(Pv bp0 0)),(3,(Iv x2)),(4,(Sl.v b3u)),(5,(yB (Sl.v b3u) dG)),(6,(Iv fB)),(7,(Pv (Pc.b pc1) 0)),(47,(Sl.v b3u)),(48,(Iv (x5.length:Int))),(49,(Iv fB))] a∧Hp Z ρ (aA 3 (Sl.v (Pc.s pc1)) ((x8.set (0:Int).toNat x10).set (1:Int).toNat x11)::Pt (Pc.b pc1) (.cells #[(Sl.v (Pc.s pc1))] 78 (0,0))::cO 61 71 (78,3) w6q (us6q,aF.2) (fM:WD) (some (x4:Int)) (some ((x7,pc1):Nat×Pc))::aA 71 (Sl.v b3u) (List.map (hdP ((us6q,aF.2)).2) (gU:List Nat))::Pt bp0 (.cells #[w2,w3,w4,aS,w6q,w7,aP,(Iv iI),(Pv aO 0),aQ,(Iv iR),(.bool iT)] 65 (0,0))::aA 3 w2 qG::aA 3 w3 qH::aA 71 w4 (List.map (hq ((us6q,aF.2)).2) (sH:List (Option Nat)))::aA 3 aS p0.saved::aA 3 w7 pF::aA 3 aP p0.starts::Pt aO (.cells #[aK,aJ] 68 (0,0))::aA 3 aK p0.queue.list::aA 4 aJ p0.queue.isin::bT 25 3 aQ bF (p0.proof:(List (List Int)))::L) w) (by kernel_rfl) ⟨fun _=>⟨_,hp⟩,fun _=>⟨_,(hp.get 0 rfl)⟩,fun _=>⟨_,(hp.get 1 rfl)⟩,trivial⟩ (fun hS=>?_) ?_
        ·
         generalize w.drew=w at hS hp⊢
         refine Ts [0,1] hE hS rfl rfl (by kernel_rfl) fun a hE hS=>T0 2 hE hS rfl rfl rfl (by kernel_rfl) (fun _=>xf hE jE rfl rfl) fun a hE hS=>T 3 2 hE hS rfl rfl rfl (by kernel_rfl) (fun _=>xl hE bJ 0 rfl rfl rfl rfl) fun a hE hS=>Ts [4,5] hE hS rfl rfl (by kernel_rfl) fun a hE hS=>T0 6 hE hS rfl rfl rfl (by kernel_rfl) (fun _=>xf hE jE rfl rfl) fun a hE hS=>T 7 2 hE hS rfl rfl rfl (by kernel_rfl) (fun _=>xl hE bJ 0 rfl rfl rfl rfl) fun a hE hS=>Ts [8,9] hE hS rfl rfl (by kernel_rfl) fun a hE hS=>T0 10 hE hS rfl rfl rfl (by kernel_rfl) (fun _=>xf hE jE rfl rfl) fun a hE hS=>T 11 2 hE hS rfl rfl rfl (by kernel_rfl) (fun _=>xl hE bJ 0 rfl rfl rfl rfl) fun a hE hS=>?_
         obtain⟨b11,b11o,b11r,b11v,b11f⟩:=aA.at hp 0 rfl bC ex10
         refine T0 12 hE hS rfl rfl rfl (by kernel_rfl) (fun _=>aU rfl hE rfl rfl b11r) fun a hE hS=>T 13 1 hE hS rfl rfl rfl (by kernel_rfl) (fun _=>bD rfl hE rfl (fun w hw=>bH bG (b11f 0 _ rfl _ _ w (hw.get 0 rfl)))) fun a hE hS=>Ts [14,15] hE hS rfl rfl (by kernel_rfl) fun a hE hS=>T0 16 hE hS rfl rfl rfl (by kernel_rfl) (fun _=>xf hE jE rfl rfl) fun a hE hS=>T 17 2 hE hS rfl rfl rfl (by kernel_rfl) (fun _=>xl hE bJ 0 rfl rfl rfl rfl) fun a hE hS=>?_
         obtain⟨b12,b12o,b12r,b12v,b12f⟩:=aA.at hp 0 rfl bC ex11
         refine T0 18 hE hS rfl rfl rfl (by kernel_rfl) (fun _=>aU rfl hE rfl rfl b12r) fun a hE hS=>T 19 1 hE hS rfl rfl rfl (by kernel_rfl) (fun _=>bD rfl hE rfl (fun w hw=>bH bG (b12f 0 _ rfl _ _ w (hw.get 0 rfl)))) fun a hE hS=>?_
         obtain⟨b13,b13o,b13r,b13v,b13f⟩:=aA.at hp 0 rfl bC ex12
         refine T0 20 hE hS rfl rfl rfl (by kernel_rfl) (fun _=>aU rfl hE rfl rfl b13r) fun a hE hS=>?_
         refine W1 21 (by kernel_rfl) rfl ?_
         refine mY (wk0 rfl) rfl hE hp rfl rfl rfl 0 rfl ex12 b13v 0 (e':=x10) bG.size_ rfl rfl rfl ⟨rfl,rfl⟩ ?_
         intro w hp
         have hp:=r15 hp
         refine aC (aI ⟨gp0 hp,dead (by kernel_rfl),gp 1 hp rfl,trivial⟩ fun hS=>?_)
         obtain⟨b14,b14o,b14r,b14v,b14f⟩:=aA.at hp 0 rfl bC ex13
         refine T0 22 hE hS rfl rfl rfl (by kernel_rfl) (fun _=>aU rfl hE rfl rfl b14r) fun a hE hS=>?_
         refine W1 23 (by kernel_rfl) rfl ?_
         refine mY (wk0 rfl) rfl hE hp rfl rfl rfl 0 rfl ex13 b14v 0 (e':=x11) bG.size_ rfl rfl rfl ⟨rfl,rfl⟩ ?_
         intro w hp
         have hp:=r15 hp
         refine aC (aI ⟨gp0 hp,dead (by kernel_rfl),gp 1 hp rfl,trivial⟩ fun hS=>?_)
         exact eG (by kernel_rfl) ⟨hE.cut ⟨rfl,rfl,rfl,rfl,rfl,rfl,rfl,rfl,rfl,trivial⟩,hp⟩
        rintro a w ⟨hE,hp⟩
        obtain rfl:=oj hj2
        exact⟨hE.cut ⟨rfl,rfl,rfl,rfl,rfl,rfl,rfl,rfl,rfl,trivial⟩,hp⟩
       replace hj2:=(ie hc5).symm.trans hj2
       refine bP ?_
       obtain rfl:=oj hj2
       exact⟨hE.cut ⟨rfl,rfl,rfl,rfl,rfl,rfl,rfl,rfl,rfl,trivial⟩,hp⟩
      rintro a w ⟨hE,hp⟩
      refine aG (aG ?_)
      refine aB (S hE 3 rfl fun a hE=>?_)
      refine V hE hp rfl (xf hE jE rfl rfl) fun a hE=>V hE hp rfl (xl hE bJ 1 rfl rfl rfl rfl) fun a hE=>?_
      obtain⟨x14,ex14,hj1⟩:=bnd hj1
      obtain⟨b15,b15o,b15r,b15v,b15f⟩:=aA.at hp 0 rfl bC ex14
      refine V hE hp rfl (aU rfl hE rfl rfl b15r) fun a hE=>V hE hp rfl (bD rfl hE rfl (fun w hw=>bH bG (b15f 0 _ rfl _ _ w (hw.get 0 rfl)))) fun a hE=>?_
      obtain⟨x15,ex15,hj1⟩:=bnd hj1
      refine Cl hE rfl rfl ent64 (rE bp0 (Sol.mk qG qH sH p0.saved fM pF p0.starts iI p0.queue p0.proof iR iT) w2 w3 w4 aS w6q (us6q,aF.2) w7 aP aO aK aJ aQ bF x14 ((((((((((((hp.get 14 rfl).get 14 rfl).get 14 rfl).get 14 rfl).get 14 rfl).get 14 rfl).get 8 rfl).get 14 rfl).get 14 rfl).get 14 rfl).get 14 rfl).get 14 rfl) x15 ex15) ⟨rfl,rfl,trivial⟩ fun v a w hR hE=>?_
      obtain⟨rfl,hp⟩:=hR
      have hp:=r15 hp
      refine S hE 1 rfl fun a hE=>aC ?_
      refine dK hE rfl (fun hc6=>?_) (fun hc6=>?_)
      ·replace hj1:=(it hc6).symm.trans hj1
       refine aG (aB ?_)
       refine S hE 2 rfl fun a hE=>?_
       refine iP (wk0 rfl) rfl rfl hE hp rfl [(0,(Pv (Pc.b pc1) 0))] ⟨⟨rfl,rfl⟩,trivial⟩ [(Pv (Pc.b pc1) 0)] 71 (fun w=>by simp[Instr.buildSlice,Instr.fill,Value.cells,go_sem]) ?_
       intro a w b16 hE hp
       have hp:=r16 hp
       obtain⟨x16,ex16,hj1⟩:=bnd hj1
       refine s_kapp (wk0 rfl) rfl rfl hE hp rfl pR rfl 15 rfl rfl (h:=x7) (by have h1:=Hp.c 0 rfl 0 rfl w hp;have h2:=cO.away hp 6 rfl;rw[h2];exact h1) (J6 ex16) ?_
       intro a w hE hp
       have hp:=r16 hp
       refine S hE 1 rfl fun a hE=>aC ?_
       refine dR ?_
       have hp:=(hp.get 0 rfl).drop
       obtain⟨hp,hbk1⟩:=cO.back (Tc:=(78,3)) (((hp.get 5 rfl).get 13 rfl).get 13 rfl)
       have hp:=r13 hp
       obtain rfl:=oj hj1
       exact⟨_,rfl,_,((us6q,aF.2)).1,_,_,_,_,hE.cut ⟨rfl,rfl,rfl,rfl,rfl,rfl,rfl,trivial⟩,(((((((((((((hp.get 11 rfl).get 11 rfl).get 11 rfl).get 11 rfl).get 11 rfl).get 11 rfl).get 11 rfl).get 11 rfl).get 11 rfl).get 11 rfl).get 11 rfl).get 11 rfl).get 12 rfl)⟩
      replace hj1:=(ie hc6).symm.trans hj1
      refine bP (aG ?_)
      refine aB (S hE 1 rfl fun a hE=>?_)
      refine aC (aG ?_)
      obtain⟨b17,hc7,hj1⟩:=bnd hj1
      refine dH (fun a w=>Env 222 [(0,(Pv bp0 0)),(3,(Iv x2)),(4,(Sl.v b3u)),(5,(yB (Sl.v b3u) dG)),(6,(Iv fB)),(7,(Pv (Pc.b pc1) 0)),(8,(Iv b17)),(47,(Sl.v b3u)),(48,(Iv (x5.length:Int))),(49,(Iv fB))] a∧Hp Z ρ (Pt bp0 (.cells #[w2,w3,w4,aS,w6q,w7,aP,(Iv iI),(Pv aO 0),aQ,(Iv iR),(.bool iT)] 65 (0,0))::aA 3 w2 qG::aA 3 w3 qH::aA 71 w4 (List.map (hq ((us6q,aF.2)).2) (sH:List (Option Nat)))::aA 3 aS p0.saved::cO 61 71 (78,3) w6q (us6q,aF.2) (fM:WD) (some (x4:Int)) (some ((x7,pc1):Nat×Pc))::aA 3 w7 pF::aA 3 aP p0.starts::Pt aO (.cells #[aK,aJ] 68 (0,0))::aA 3 aK p0.queue.list::aA 4 aJ p0.queue.isin::bT 25 3 aQ bF (p0.proof:(List (List Int)))::aA 3 (Sl.v (Pc.s pc1)) j2::Pt (Pc.b pc1) (.cells #[(Sl.v (Pc.s pc1))] 78 (0,0))::aA 71 (Sl.v b3u) (List.map (hdP ((us6q,aF.2)).2) (gU:List Nat))::L) w) ?_ ?_
      ·refine eU hc7 (fun s a w=>Env 222 [(0,(Pv bp0 0)),(3,(Iv x2)),(4,(Sl.v b3u)),(5,(yB (Sl.v b3u) dG)),(6,(Iv fB)),(7,(Pv (Pc.b pc1) 0)),(8,(Iv s)),(47,(Sl.v b3u)),(48,(Iv (x5.length:Int))),(49,(Iv fB))] a∧Hp Z ρ (Pt bp0 (.cells #[w2,w3,w4,aS,w6q,w7,aP,(Iv iI),(Pv aO 0),aQ,(Iv iR),(.bool iT)] 65 (0,0))::aA 3 w2 qG::aA 3 w3 qH::aA 71 w4 (List.map (hq ((us6q,aF.2)).2) (sH:List (Option Nat)))::aA 3 aS p0.saved::cO 61 71 (78,3) w6q (us6q,aF.2) (fM:WD) (some (x4:Int)) (some ((x7,pc1):Nat×Pc))::aA 3 w7 pF::aA 3 aP p0.starts::Pt aO (.cells #[aK,aJ] 68 (0,0))::aA 3 aK p0.queue.list::aA 4 aJ p0.queue.isin::bT 25 3 aQ bF (p0.proof:(List (List Int)))::aA 3 (Sl.v (Pc.s pc1)) j2::Pt (Pc.b pc1) (.cells #[(Sl.v (Pc.s pc1))] 78 (0,0))::aA 71 (Sl.v b3u) (List.map (hdP ((us6q,aF.2)).2) (gU:List Nat))::L) w) ?_ ?_
       ·exact⟨hE.cut ⟨rfl,rfl,rfl,rfl,rfl,rfl,rfl,rfl,rfl,rfl,trivial⟩,hp⟩
       rintro lN st a w ⟨hE,hp⟩ hl3
       unfold fG at hl3
       refine aG (aG ?_)
       refine aB (S hE 3 rfl fun a hE=>?_)
       refine V hE hp rfl (xf hE jE rfl rfl) fun a hE=>V hE hp rfl (xl hE bJ 13 rfl rfl rfl rfl) fun a hE=>V hE hp rfl (dL rfl hE rfl (aA.len hp 12 rfl bC)) fun a hE=>S hE 2 rfl fun a hE=>?_
       obtain⟨m1,hg1,hl3⟩:=bnd hl3
       refine lZ [_,_,_,_,_,_,_,_,_,_,_] (fun a w=>Env 222 [(115,(.bool m1)),(0,(Pv bp0 0)),(3,(Iv x2)),(4,(Sl.v b3u)),(5,(yB (Sl.v b3u) dG)),(6,(Iv fB)),(7,(Pv (Pc.b pc1) 0)),(8,(Iv lN)),(47,(Sl.v b3u)),(48,(Iv (x5.length:Int))),(49,(Iv fB))] a∧Hp Z ρ (Pt bp0 (.cells #[w2,w3,w4,aS,w6q,w7,aP,(Iv iI),(Pv aO 0),aQ,(Iv iR),(.bool iT)] 65 (0,0))::aA 3 w2 qG::aA 3 w3 qH::aA 71 w4 (List.map (hq ((us6q,aF.2)).2) (sH:List (Option Nat)))::aA 3 aS p0.saved::cO 61 71 (78,3) w6q (us6q,aF.2) (fM:WD) (some (x4:Int)) (some ((x7,pc1):Nat×Pc))::aA 3 w7 pF::aA 3 aP p0.starts::Pt aO (.cells #[aK,aJ] 68 (0,0))::aA 3 aK p0.queue.list::aA 4 aJ p0.queue.isin::bT 25 3 aQ bF (p0.proof:(List (List Int)))::aA 3 (Sl.v (Pc.s pc1)) j2::Pt (Pc.b pc1) (.cells #[(Sl.v (Pc.s pc1))] 78 (0,0))::aA 71 (Sl.v b3u) (List.map (hdP ((us6q,aF.2)).2) (gU:List Nat))::L) w) ?_ ?_
       ·rcases Bool.eq_false_or_eq_true (decide (lN<(j2.length:Int))) with hc8|hc8
        ·
         replace hg1:=(it hc8).symm.trans hg1
         refine Gs hE hc8 rfl rfl fun a hE=>Gs hE hc8 rfl rfl fun a hE=>Gs hE hc8 rfl rfl fun a hE=>G hE hp hc8 rfl (xf hE jE rfl rfl) fun a hE=>G hE hp hc8 rfl (xl hE bJ 13 rfl rfl rfl rfl) fun a hE=>Gs hE hc8 rfl rfl fun a hE=>?_
         obtain⟨x17,ex17,hg1⟩:=bnd hg1
         obtain⟨b18,b18o,b18r,b18v,b18f⟩:=aA.at hp 12 rfl bC ex17
         refine G hE hp hc8 rfl (aU rfl hE rfl rfl b18r) fun a hE=>G hE hp hc8 rfl (bD rfl hE rfl (fun w hw=>bH bG (b18f 0 _ rfl _ _ w (hw.get 12 rfl)))) fun a hE=>?_
         obtain⟨x18,ex18,hg1⟩:=bnd hg1
         refine Cg hE hc8 rfl rfl ent64 (rE bp0 (Sol.mk qG qH sH p0.saved fM pF p0.starts iI p0.queue p0.proof iR iT) w2 w3 w4 aS w6q (us6q,aF.2) w7 aP aO aK aJ aQ bF x17 ((((((((((((hp.get 11 rfl).get 11 rfl).get 11 rfl).get 11 rfl).get 11 rfl).get 11 rfl).get 11 rfl).get 11 rfl).get 11 rfl).get 11 rfl).get 11 rfl).get 11 rfl) x18 ex18) ⟨rfl,rfl,trivial⟩ fun v a w hR hE=>?_
         obtain⟨rfl,hp⟩:=hR
         have hp:=r15 hp
         refine Gs hE hc8 rfl rfl fun a hE=>pk1 hE hc8 rfl rfl rfl rfl fun a hE=>?_
         obtain rfl:=oj hg1
         exact aC ⟨hE.cut ⟨rfl,rfl,rfl,rfl,rfl,rfl,rfl,rfl,rfl,rfl,rfl,trivial⟩,hp⟩
        replace hg1:=(ie hc8).symm.trans hg1
        refine Gk hE hc8 rfl fun a hE=>Gk hE hc8 rfl fun a hE=>Gk hE hc8 rfl fun a hE=>Gk hE hc8 rfl fun a hE=>Gk hE hc8 rfl fun a hE=>Gk hE hc8 rfl fun a hE=>Gk hE hc8 rfl fun a hE=>Gk hE hc8 rfl fun a hE=>Gk hE hc8 rfl fun a hE=>Gk hE hc8 rfl fun a hE=>pk0 hE hc8 rfl rfl rfl rfl fun a hE=>?_
        obtain rfl:=oj hg1
        exact aC ⟨hE.cut ⟨rfl,rfl,rfl,rfl,rfl,rfl,rfl,rfl,rfl,rfl,rfl,trivial⟩,hp⟩
       rintro a w ⟨hE,hp⟩
       refine aC ?_
       refine dK hE rfl (fun hc9=>?_) (fun hc9=>?_)
       ·replace hl3:=(it hc9).symm.trans hl3
        refine bP (dF ?_)
        refine aB (S hE 1 rfl fun a hE=>?_)
        obtain⟨x19,ex19,hl3⟩:=bnd hl3
        refine V hE hp rfl (dD rfl hE rfl rfl (aZ ex19)) fun a hE=>S hE 1 rfl fun a hE=>aC ?_
        exact⟨_,(oj hl3).symm,hE.cut ⟨rfl,rfl,rfl,rfl,rfl,rfl,rfl,rfl,rfl,rfl,trivial⟩,hp⟩
       replace hl3:=(ie hc9).symm.trans hl3
       refine dR ?_
       refine⟨_,(oj hl3).symm,fun hbb=>?_⟩
       subst hbb
       exact⟨hE.cut ⟨rfl,rfl,rfl,rfl,rfl,rfl,rfl,rfl,rfl,rfl,trivial⟩,hp⟩
      rintro a w ⟨hE,hp⟩
      refine aG (aG ?_)
      refine aB (S hE 3 rfl fun a hE=>?_)
      refine V hE hp rfl (xf hE jE rfl rfl) fun a hE=>V hE hp rfl (xl hE bJ 13 rfl rfl rfl rfl) fun a hE=>V hE hp rfl (dL rfl hE rfl (aA.len hp 12 rfl bC)) fun a hE=>S hE 1 rfl fun a hE=>aC ?_
      refine dK hE rfl (fun hc10=>?_) (fun hc10=>?_)
      ·replace hj1:=(it hc10).symm.trans hj1
       refine aG ?_
       obtain⟨x20,ex20,hj1⟩:=bnd hj1
       obtain⟨x21,ex21,hj1⟩:=bnd hj1
       obtain⟨x22,ex22,hj1⟩:=bnd hj1
       obtain⟨x23,ex23,hj1⟩:=bnd hj1
       have hp:=hp.drew
       refine jS ([([],At0 Z ρ),([23,25],At1 Z ρ (aA 3 (Sl.v (Pc.s pc1)) j2)),([],At1 Z ρ (Pt (Pc.b pc1) (.cells #[(Sl.v (Pc.s pc1))] 78 (0,0))))]:Facts) (fun a w=>Env 222 [(0,(Pv bp0 0)),(3,(Iv x2)),(4,(Sl.v b3u)),(5,(yB (Sl.v b3u) dG)),(7,(Pv (Pc.b pc1) 0)),(47,(Sl.v b3u)),(48,(Iv (x5.length:Int))),(49,(Iv fB))] a∧Hp Z ρ (Pt bp0 (.cells #[w2,w3,w4,aS,w6q,w7,aP,(Iv iI),(Pv aO 0),aQ,(Iv iR),(.bool iT)] 65 (0,0))::aA 3 w2 qG::aA 3 w3 qH::aA 71 w4 (List.map (hq ((us6q,aF.2)).2) (sH:List (Option Nat)))::aA 3 aS p0.saved::cO 61 71 (78,3) w6q (us6q,aF.2) (fM:WD) (some (x4:Int)) (some ((x7,pc1):Nat×Pc))::aA 3 w7 pF::aA 3 aP p0.starts::Pt aO (.cells #[aK,aJ] 68 (0,0))::aA 3 aK p0.queue.list::aA 4 aJ p0.queue.isin::bT 25 3 aQ bF (p0.proof:(List (List Int)))::aA 3 (Sl.v (Pc.s pc1)) ((j2.set (1:Int).toNat x20).set b17.toNat x21)::Pt (Pc.b pc1) (.cells #[(Sl.v (Pc.s pc1))] 78 (0,0))::aA 71 (Sl.v b3u) (List.map (hdP ((us6q,aF.2)).2) (gU:List Nat))::L) w) (by kernel_rfl) ⟨fun _=>⟨_,hp⟩,fun _=>⟨_,(hp.get 12 rfl)⟩,fun _=>⟨_,(hp.get 13 rfl)⟩,trivial⟩ (fun hS=>?_) ?_
       ·
        generalize w.drew=w at hS hp⊢
        refine Ts [0,1] hE hS rfl rfl (by kernel_rfl) fun a hE hS=>T0 2 hE hS rfl rfl rfl (by kernel_rfl) (fun _=>xf hE jE rfl rfl) fun a hE hS=>T 3 2 hE hS rfl rfl rfl (by kernel_rfl) (fun _=>xl hE bJ 0 rfl rfl rfl rfl) fun a hE hS=>Ts [4,5] hE hS rfl rfl (by kernel_rfl) fun a hE hS=>T0 6 hE hS rfl rfl rfl (by kernel_rfl) (fun _=>xf hE jE rfl rfl) fun a hE hS=>T 7 2 hE hS rfl rfl rfl (by kernel_rfl) (fun _=>xl hE bJ 0 rfl rfl rfl rfl) fun a hE hS=>Ts [8,9,10] hE hS rfl rfl (by kernel_rfl) fun a hE hS=>T0 11 hE hS rfl rfl rfl (by kernel_rfl) (fun _=>xf hE jE rfl rfl) fun a hE hS=>T 12 2 hE hS rfl rfl rfl (by kernel_rfl) (fun _=>xl hE bJ 0 rfl rfl rfl rfl) fun a hE hS=>Ts [13] hE hS rfl rfl (by kernel_rfl) fun a hE hS=>?_
        obtain⟨b23,b23o,b23r,b23v,b23f⟩:=aA.at hp 12 rfl bC ex20
        refine T0 14 hE hS rfl rfl rfl (by kernel_rfl) (fun _=>aU rfl hE rfl rfl b23r) fun a hE hS=>T 15 1 hE hS rfl rfl rfl (by kernel_rfl) (fun _=>bD rfl hE rfl (fun w hw=>bH bG (b23f 0 _ rfl _ _ w (hw.get 0 rfl)))) fun a hE hS=>Ts [16,17] hE hS rfl rfl (by kernel_rfl) fun a hE hS=>T0 18 hE hS rfl rfl rfl (by kernel_rfl) (fun _=>xf hE jE rfl rfl) fun a hE hS=>T 19 2 hE hS rfl rfl rfl (by kernel_rfl) (fun _=>xl hE bJ 0 rfl rfl rfl rfl) fun a hE hS=>?_
        obtain⟨b24,b24o,b24r,b24v,b24f⟩:=aA.at hp 12 rfl bC ex21
        refine T0 20 hE hS rfl rfl rfl (by kernel_rfl) (fun _=>aU rfl hE rfl rfl b24r) fun a hE hS=>T 21 1 hE hS rfl rfl rfl (by kernel_rfl) (fun _=>bD rfl hE rfl (fun w hw=>bH bG (b24f 0 _ rfl _ _ w (hw.get 0 rfl)))) fun a hE hS=>?_
        obtain⟨b25,b25o,b25r,b25v,b25f⟩:=aA.at hp 12 rfl bC ex22
        refine T0 22 hE hS rfl rfl rfl (by kernel_rfl) (fun _=>aU rfl hE rfl rfl b25r) fun a hE hS=>?_
        refine W1 23 (by kernel_rfl) rfl ?_
        refine mY (wk0 rfl) rfl hE hp rfl rfl rfl 12 rfl ex22 b25v 0 (e':=x20) bG.size_ rfl rfl rfl ⟨rfl,rfl⟩ ?_
        intro w hp
        have hp:=r15 hp
        refine aC (aI ⟨gp0 hp,dead (by kernel_rfl),gp 13 hp rfl,trivial⟩ fun hS=>?_)
        obtain⟨b26,b26o,b26r,b26v,b26f⟩:=aA.at hp 12 rfl bC ex23
        refine T0 24 hE hS rfl rfl rfl (by kernel_rfl) (fun _=>aU rfl hE rfl rfl b26r) fun a hE hS=>?_
        refine W1 25 (by kernel_rfl) rfl ?_
        refine mY (wk0 rfl) rfl hE hp rfl rfl rfl 12 rfl ex23 b26v 0 (e':=x21) bG.size_ rfl rfl rfl ⟨rfl,rfl⟩ ?_
        intro w hp
        have hp:=r15 hp
        refine aC (aI ⟨gp0 hp,dead (by kernel_rfl),gp 13 hp rfl,trivial⟩ fun hS=>?_)
        exact eG (by kernel_rfl) ⟨hE.cut ⟨rfl,rfl,rfl,rfl,rfl,rfl,rfl,rfl,trivial⟩,hp⟩
       rintro a w ⟨hE,hp⟩
       refine aG ?_
       obtain⟨x24,ex24,hj1⟩:=bnd hj1
       obtain⟨x25,ex25,hj1⟩:=bnd hj1
       obtain⟨x26,ex26,hj1⟩:=bnd hj1
       obtain⟨x27,ex27,hj1⟩:=bnd hj1
       obtain⟨x28,ex28,hj1⟩:=bnd hj1
       obtain⟨x29,ex29,hj1⟩:=bnd hj1
       obtain⟨x30,ex30,hj1⟩:=bnd hj1
       obtain⟨x31,ex31,hj1⟩:=bnd hj1
       have hp:=hp.drew
       refine jS ([([],At0 Z ρ),([],At1 Z ρ (Pt bp0 (.cells #[w2,w3,w4,aS,w6q,w7,aP,(Iv iI),(Pv aO 0),aQ,(Iv iR),(.bool iT)] 65 (0,0)))),([26,28],At1 Z ρ (cO 61 71 (78,3) w6q (us6q,aF.2) (fM:WD) (some (x4:Int)) (some ((x7,pc1):Nat×Pc)))),([],At1 Z ρ (aA 3 (Sl.v (Pc.s pc1)) ((j2.set (1:Int).toNat x20).set b17.toNat x21))),([],At1 Z ρ (Pt (Pc.b pc1) (.cells #[(Sl.v (Pc.s pc1))] 78 (0,0))))]:Facts) (fun a w=>∃yus6:List Sl,∃y65:Nat,Env 222 [(0,(Pv bp0 0)),(3,(Iv x2)),(4,(Sl.v b3u)),(5,(yB (Sl.v b3u) dG)),(47,(Sl.v b3u)),(48,(Iv (x5.length:Int))),(49,(Iv fB))] a∧Hp Z ρ (cO 61 71 (78,3) w6q (yus6,aF.2) ((fM.1.set x27.toNat x30,fM.2):WD) (some (x4:Int)) (some ((x7,pc1):Nat×Pc))::Pt y65 (.cells #[(Pv (Pc.b pc1) 0)] 71 (0,0))::Pt bp0 (.cells #[w2,w3,w4,aS,w6q,w7,aP,(Iv iI),(Pv aO 0),aQ,(Iv iR),(.bool iT)] 65 (0,0))::aA 3 w2 qG::aA 3 w3 qH::aA 71 w4 (List.map (hq ((yus6,aF.2)).2) (sH:List (Option Nat)))::aA 3 aS p0.saved::aA 3 w7 pF::aA 3 aP p0.starts::Pt aO (.cells #[aK,aJ] 68 (0,0))::aA 3 aK p0.queue.list::aA 4 aJ p0.queue.isin::bT 25 3 aQ bF (p0.proof:(List (List Int)))::aA 3 (Sl.v (Pc.s pc1)) ((j2.set (1:Int).toNat x20).set b17.toNat x21)::Pt (Pc.b pc1) (.cells #[(Sl.v (Pc.s pc1))] 78 (0,0))::aA 71 (Sl.v b3u) (List.map (hdP ((yus6,aF.2)).2) (gU:List Nat))::L) w) (by kernel_rfl) ⟨fun _=>⟨_,hp⟩,fun _=>⟨_,(hp.get 0 rfl)⟩,fun _=>⟨_,(hp.get 5 rfl)⟩,fun _=>⟨_,(hp.get 12 rfl)⟩,fun _=>⟨_,(hp.get 13 rfl)⟩,trivial⟩ (fun hS=>?_) ?_
       ·
        generalize w.drew=w at hS hp⊢
        refine Ts [0,1] hE hS rfl rfl (by kernel_rfl) fun a hE hS=>T0 2 hE hS rfl rfl rfl (by kernel_rfl) (fun _=>xf hE vY rfl rfl) fun a hE hS=>T 3 1 hE hS rfl rfl rfl (by kernel_rfl) (fun _=>xl hE N7 0 rfl rfl rfl rfl) fun a hE hS=>Ts [4,5] hE hS rfl rfl (by kernel_rfl) fun a hE hS=>T0 6 hE hS rfl rfl rfl (by kernel_rfl) (fun _=>xf hE jE rfl rfl) fun a hE hS=>T 7 4 hE hS rfl rfl rfl (by kernel_rfl) (fun _=>xl hE bJ 0 rfl rfl rfl rfl) fun a hE hS=>?_
        obtain⟨b32,b32o,b32r,b32v,b32f⟩:=aA.at hp 12 rfl bC ex24
        refine T0 8 hE hS rfl rfl rfl (by kernel_rfl) (fun _=>aU rfl hE rfl rfl b32r) fun a hE hS=>T 9 3 hE hS rfl rfl rfl (by kernel_rfl) (fun _=>bD rfl hE rfl (fun w hw=>bH bG (b32f 0 _ rfl _ _ w (hw.get 0 rfl)))) fun a hE hS=>Ts [11,12] hE hS rfl rfl (by kernel_rfl) fun a hE hS=>T0 13 hE hS rfl rfl rfl (by kernel_rfl) (fun _=>xf hE vY rfl rfl) fun a hE hS=>T 14 1 hE hS rfl rfl rfl (by kernel_rfl) (fun _=>xl hE N7 0 rfl rfl rfl rfl) fun a hE hS=>Ts [15,16] hE hS rfl rfl (by kernel_rfl) fun a hE hS=>T0 17 hE hS rfl rfl rfl (by kernel_rfl) (fun _=>xf hE jE rfl rfl) fun a hE hS=>T 18 4 hE hS rfl rfl rfl (by kernel_rfl) (fun _=>xl hE bJ 0 rfl rfl rfl rfl) fun a hE hS=>?_
        obtain⟨b33,b33o,b33r,b33v,b33f⟩:=aA.at hp 12 rfl bC ex26
        refine T0 19 hE hS rfl rfl rfl (by kernel_rfl) (fun _=>aU rfl hE rfl rfl b33r) fun a hE hS=>T 20 3 hE hS rfl rfl rfl (by kernel_rfl) (fun _=>bD rfl hE rfl (fun w hw=>bH bG (b33f 0 _ rfl _ _ w (hw.get 0 rfl)))) fun a hE hS=>Ts [24] hE hS rfl rfl (by kernel_rfl) fun a hE hS=>?_
        refine jH [10,25] (by kernel_rfl) rfl ?_
        refine List.forall_mem_cons.2 ⟨?_,List.forall_mem_cons.2 ⟨?_,fun _ h=>absurd h (by simp)⟩⟩
        ·
         refine dZ rfl ?_
         refine Cl hE rfl rfl zJ (iD x24 hp x25 ex25) ⟨rfl,trivial⟩ fun v a w hR hE=>?_
         obtain⟨rfl,hp⟩:=hR
         have hp:=r15 hp
         refine aC (aI ⟨gp0 hp,gp 0 hp rfl,gp 5 hp rfl,gp 12 hp rfl,gp 13 hp rfl,trivial⟩ fun hS=>?_)
         refine jH [21,25] (by kernel_rfl) rfl ?_
         refine List.forall_mem_cons.2 ⟨?_,List.forall_mem_cons.2 ⟨?_,fun _ h=>absurd h (by simp)⟩⟩
         ·
          refine dZ rfl ?_
          refine Cl hE rfl rfl zJ (iD x26 hp x27 ex27) ⟨rfl,trivial⟩ fun v a w hR hE=>?_
          obtain⟨rfl,hp⟩:=hR
          have hp:=r15 hp
          refine aC (aI ⟨gp0 hp,gp 0 hp rfl,gp 5 hp rfl,gp 12 hp rfl,gp 13 hp rfl,trivial⟩ fun hS=>?_)
          obtain⟨b34u,b34,b34o,b34h,b34r,b34v,b34f⟩:=cO.hdr (hp.get 5 rfl) tX ex28
          refine T0 22 hE hS rfl rfl rfl (by kernel_rfl) (fun _=>aU rfl hE rfl rfl b34r) fun a hE hS=>T 23 2 hE hS rfl rfl rfl (by kernel_rfl) (fun _=>bD rfl hE rfl (fun w hw=>bH nG (b34f 0 _ rfl _ _ w (hw.get 0 rfl)))) fun a hE hS=>?_
          refine W1 25 (by kernel_rfl) rfl ?_
          refine iP (wk0 rfl) rfl rfl hE hp rfl [(0,(Pv (Pc.b pc1) 0))] ⟨⟨rfl,rfl⟩,trivial⟩ [(Pv (Pc.b pc1) 0)] 71 (fun w=>by simp[Instr.buildSlice,Instr.fill,Value.cells,go_sem]) ?_
          intro a w b35 hE hp
          have hp:=r16 hp
          refine aC (aI ⟨gp0 hp,gp 1 hp rfl,gp 6 hp rfl,gp 13 hp rfl,gp 14 hp rfl,trivial⟩ fun hS=>?_)
          refine W1 26 (by kernel_rfl) rfl ?_
          have nx29:neL x27 (some (x4:Int)):=sV ex29
          have hp:=cO.takeRow nx29 b34h ex28 (hp.get 6 rfl)
          have hp:=r17 hp
          have hwx30:=Q5.away hp 1 rfl
          refine lY (wk0 rfl) rfl rfl hE hp rfl pR rfl rfl 0 rfl rfl (l2:=List.map (hdP ((us6q,aF.2)).2) ([x7]:List Nat)) rfl (fun j u hj=>by have:=Hp.cN 2 rfl 0 _ (bV rfl) w hp j u (by simpa[flat,Enc.enc,hwx30,Pc.v] using hj);simpa using this) (qI ex30) ?_
          intro v2 a w hE hp
          have hp:=r17 hp
          refine aC (aI ⟨gp0 hp,gp 3 hp rfl,dead (by kernel_rfl),gp 14 hp rfl,gp 15 hp rfl,trivial⟩ fun hS=>?_)
          obtain⟨b36,b36o,b36r,b36v⟩:=Q5.adr (hp.get 1 rfl) tX b34h
          rw[←gQ ex31] at b36r
          refine T0 27 hE hS rfl rfl rfl (by kernel_rfl) (fun _=>aU rfl hE rfl rfl b36r) fun a hE hS=>?_
          refine W1 28 (by kernel_rfl) rfl ?_
          obtain⟨sl2,sl2e⟩:=aA.toSl hp 0 rfl
          refine s_pput (wk0 rfl) rfl hE sl2e ((hp.get 1 rfl).get 1 rfl) rfl rfl rfl nx29 b34h ex28 b36v nG.size_ ?_
          intro w hp
          have hp:=r16 hp
          refine aC (aI ⟨gp0 hp,gp 2 hp rfl,dead (by kernel_rfl),gp 13 hp rfl,gp 14 hp rfl,trivial⟩ fun hS=>?_)
          exact eG (by kernel_rfl) ⟨(((us6q,aF.2).1.set x27.toNat sl2,(us6q,aF.2).2)).1,_,hE.cut ⟨rfl,rfl,rfl,rfl,rfl,rfl,rfl,trivial⟩,hp⟩
         refine dZ rfl ?_
         refine iP (wk0 rfl) rfl rfl hE hp rfl [(0,(Pv (Pc.b pc1) 0))] ⟨⟨rfl,rfl⟩,trivial⟩ [(Pv (Pc.b pc1) 0)] 71 (fun w=>by simp[Instr.buildSlice,Instr.fill,Value.cells,go_sem]) ?_
         intro a w b37 hE hp
         have hp:=r16 hp
         refine aC (aI ⟨gp0 hp,gp 1 hp rfl,gp 6 hp rfl,gp 13 hp rfl,gp 14 hp rfl,trivial⟩ fun hS=>?_)
         refine W1 21 (by kernel_rfl) rfl ?_
         refine Cl hE rfl rfl zJ (iD x26 hp x27 ex27) ⟨rfl,trivial⟩ fun v a w hR hE=>?_
         obtain⟨rfl,hp⟩:=hR
         have hp:=r16 hp
         refine aC (aI ⟨gp0 hp,gp 1 hp rfl,gp 6 hp rfl,gp 13 hp rfl,gp 14 hp rfl,trivial⟩ fun hS=>?_)
         obtain⟨b38u,b38,b38o,b38h,b38r,b38v,b38f⟩:=cO.hdr (hp.get 6 rfl) tX ex28
         refine T0 22 hE hS rfl rfl rfl (by kernel_rfl) (fun _=>aU rfl hE rfl rfl b38r) fun a hE hS=>T 23 2 hE hS rfl rfl rfl (by kernel_rfl) (fun _=>bD rfl hE rfl (fun w hw=>bH nG (b38f 0 _ rfl _ _ w (hw.get 0 rfl)))) fun a hE hS=>?_
         refine W1 26 (by kernel_rfl) rfl ?_
         have nx29:neL x27 (some (x4:Int)):=sV ex29
         have hp:=cO.takeRow nx29 b38h ex28 (hp.get 6 rfl)
         have hp:=r17 hp
         have hwx30:=Q5.away hp 1 rfl
         refine lY (wk0 rfl) rfl rfl hE hp rfl pR rfl rfl 0 rfl rfl (l2:=List.map (hdP ((us6q,aF.2)).2) ([x7]:List Nat)) rfl (fun j u hj=>by have:=Hp.cN 2 rfl 0 _ (bV rfl) w hp j u (by simpa[flat,Enc.enc,hwx30,Pc.v] using hj);simpa using this) (qI ex30) ?_
         intro v3 a w hE hp
         have hp:=r17 hp
         refine aC (aI ⟨gp0 hp,gp 3 hp rfl,dead (by kernel_rfl),gp 14 hp rfl,gp 15 hp rfl,trivial⟩ fun hS=>?_)
         obtain⟨b39,b39o,b39r,b39v⟩:=Q5.adr (hp.get 1 rfl) tX b38h
         rw[←gQ ex31] at b39r
         refine T0 27 hE hS rfl rfl rfl (by kernel_rfl) (fun _=>aU rfl hE rfl rfl b39r) fun a hE hS=>?_
         refine W1 28 (by kernel_rfl) rfl ?_
         obtain⟨sl3,sl3e⟩:=aA.toSl hp 0 rfl
         refine s_pput (wk0 rfl) rfl hE sl3e ((hp.get 1 rfl).get 1 rfl) rfl rfl rfl nx29 b38h ex28 b39v nG.size_ ?_
         intro w hp
         have hp:=r16 hp
         refine aC (aI ⟨gp0 hp,gp 2 hp rfl,dead (by kernel_rfl),gp 13 hp rfl,gp 14 hp rfl,trivial⟩ fun hS=>?_)
         exact eG (by kernel_rfl) ⟨(((us6q,aF.2).1.set x27.toNat sl3,(us6q,aF.2).2)).1,_,hE.cut ⟨rfl,rfl,rfl,rfl,rfl,rfl,rfl,trivial⟩,hp⟩
        refine dZ rfl ?_
        refine iP (wk0 rfl) rfl rfl hE hp rfl [(0,(Pv (Pc.b pc1) 0))] ⟨⟨rfl,rfl⟩,trivial⟩ [(Pv (Pc.b pc1) 0)] 71 (fun w=>by simp[Instr.buildSlice,Instr.fill,Value.cells,go_sem]) ?_
        intro a w b40 hE hp
        have hp:=r16 hp
        refine aC (aI ⟨gp0 hp,gp 1 hp rfl,gp 6 hp rfl,gp 13 hp rfl,gp 14 hp rfl,trivial⟩ fun hS=>?_)
        refine W1 10 (by kernel_rfl) rfl ?_
        refine Cl hE rfl rfl zJ (iD x24 hp x25 ex25) ⟨rfl,trivial⟩ fun v a w hR hE=>?_
        obtain⟨rfl,hp⟩:=hR
        have hp:=r16 hp
        refine aC (aI ⟨gp0 hp,gp 1 hp rfl,gp 6 hp rfl,gp 13 hp rfl,gp 14 hp rfl,trivial⟩ fun hS=>?_)
        refine W1 21 (by kernel_rfl) rfl ?_
        refine Cl hE rfl rfl zJ (iD x26 hp x27 ex27) ⟨rfl,trivial⟩ fun v a w hR hE=>?_
        obtain⟨rfl,hp⟩:=hR
        have hp:=r16 hp
        refine aC (aI ⟨gp0 hp,gp 1 hp rfl,gp 6 hp rfl,gp 13 hp rfl,gp 14 hp rfl,trivial⟩ fun hS=>?_)
        obtain⟨b41u,b41,b41o,b41h,b41r,b41v,b41f⟩:=cO.hdr (hp.get 6 rfl) tX ex28
        refine T0 22 hE hS rfl rfl rfl (by kernel_rfl) (fun _=>aU rfl hE rfl rfl b41r) fun a hE hS=>T 23 2 hE hS rfl rfl rfl (by kernel_rfl) (fun _=>bD rfl hE rfl (fun w hw=>bH nG (b41f 0 _ rfl _ _ w (hw.get 0 rfl)))) fun a hE hS=>?_
        refine W1 26 (by kernel_rfl) rfl ?_
        have nx29:neL x27 (some (x4:Int)):=sV ex29
        have hp:=cO.takeRow nx29 b41h ex28 (hp.get 6 rfl)
        have hp:=r17 hp
        have hwx30:=Q5.away hp 1 rfl
        refine lY (wk0 rfl) rfl rfl hE hp rfl pR rfl rfl 0 rfl rfl (l2:=List.map (hdP ((us6q,aF.2)).2) ([x7]:List Nat)) rfl (fun j u hj=>by have:=Hp.cN 2 rfl 0 _ (bV rfl) w hp j u (by simpa[flat,Enc.enc,hwx30,Pc.v] using hj);simpa using this) (qI ex30) ?_
        intro v4 a w hE hp
        have hp:=r17 hp
        refine aC (aI ⟨gp0 hp,gp 3 hp rfl,dead (by kernel_rfl),gp 14 hp rfl,gp 15 hp rfl,trivial⟩ fun hS=>?_)
        obtain⟨b42,b42o,b42r,b42v⟩:=Q5.adr (hp.get 1 rfl) tX b41h
        rw[←gQ ex31] at b42r
        refine T0 27 hE hS rfl rfl rfl (by kernel_rfl) (fun _=>aU rfl hE rfl rfl b42r) fun a hE hS=>?_
        refine W1 28 (by kernel_rfl) rfl ?_
        obtain⟨sl4,sl4e⟩:=aA.toSl hp 0 rfl
        refine s_pput (wk0 rfl) rfl hE sl4e ((hp.get 1 rfl).get 1 rfl) rfl rfl rfl nx29 b41h ex28 b42v nG.size_ ?_
        intro w hp
        have hp:=r16 hp
        refine aC (aI ⟨gp0 hp,gp 2 hp rfl,dead (by kernel_rfl),gp 13 hp rfl,gp 14 hp rfl,trivial⟩ fun hS=>?_)
        exact eG (by kernel_rfl) ⟨(((us6q,aF.2).1.set x27.toNat sl4,(us6q,aF.2).2)).1,_,hE.cut ⟨rfl,rfl,rfl,rfl,rfl,rfl,rfl,trivial⟩,hp⟩
       rintro a w ⟨yus6,y65,hE,hp⟩
       refine dR ?_
       have hp:=(hp.get 1 rfl).drop
       obtain⟨hp,hbk2⟩:=cO.back (Tc:=(78,3)) ((hp.get 13 rfl).get 13 rfl)
       have hp:=r13 hp
       obtain rfl:=oj hj1
       exact⟨_,rfl,_,((yus6,aF.2)).1,_,_,_,_,hE.cut ⟨rfl,rfl,rfl,rfl,rfl,rfl,rfl,trivial⟩,(((((((((((((hp.get 11 rfl).get 11 rfl).get 11 rfl).get 11 rfl).get 11 rfl).get 11 rfl).get 11 rfl).get 11 rfl).get 11 rfl).get 11 rfl).get 11 rfl).get 11 rfl).get 12 rfl)⟩
      replace hj1:=(ie hc10).symm.trans hj1
      refine bP (aG ?_)
      refine aB (S hE 2 rfl fun a hE=>?_)
      refine iP (wk0 rfl) rfl rfl hE hp rfl [(0,(Pv (Pc.b pc1) 0))] ⟨⟨rfl,rfl⟩,trivial⟩ [(Pv (Pc.b pc1) 0)] 71 (fun w=>by simp[Instr.buildSlice,Instr.fill,Value.cells,go_sem]) ?_
      intro a w b43 hE hp
      have hp:=r16 hp
      obtain⟨x32,ex32,hj1⟩:=bnd hj1
      refine s_kapp (wk0 rfl) rfl rfl hE hp rfl pR rfl 15 rfl rfl (h:=x7) (by have h1:=Hp.c 0 rfl 0 rfl w hp;have h2:=cO.away hp 6 rfl;rw[h2];exact h1) (J6 ex32) ?_
      intro a w hE hp
      have hp:=r16 hp
      refine S hE 1 rfl fun a hE=>aC (aG ?_)
      refine aG (aB ?_)
      refine S hE 3 rfl fun a hE=>V hE hp rfl (xf hE jE rfl rfl) fun a hE=>V hE hp rfl (xl hE bJ 14 rfl rfl rfl rfl) fun a hE=>?_
      obtain⟨x33,ex33,hj1⟩:=bnd hj1
      obtain⟨b44,b44o,b44r,b44v,b44f⟩:=aA.at hp 13 rfl bC ex33
      refine V hE hp rfl (aU rfl hE rfl rfl b44r) fun a hE=>V hE hp rfl (bD rfl hE rfl (fun w hw=>bH bG (b44f 0 _ rfl _ _ w (hw.get 13 rfl)))) fun a hE=>?_
      obtain⟨x34,ex34,hj1⟩:=bnd hj1
      refine Cl hE rfl rfl ent64 (rE bp0 (Sol.mk qG qH sH p0.saved fM pF p0.starts iI p0.queue p0.proof iR iT) w2 w3 w4 aS w6q (us6q,aF.2) w7 aP aO aK aJ aQ bF x33 ((((((((((((hp.get 12 rfl).get 12 rfl).get 12 rfl).get 12 rfl).get 12 rfl).get 12 rfl).get 12 rfl).get 12 rfl).get 12 rfl).get 12 rfl).get 12 rfl).get 12 rfl) x34 ex34) ⟨rfl,rfl,trivial⟩ fun v a w hR hE=>?_
      obtain⟨rfl,hp⟩:=hR
      have hp:=r16 hp
      refine S hE 1 rfl fun a hE=>aC ?_
      refine dK hE rfl (fun hc11=>?_) (fun hc11=>?_)
      ·replace hj1:=(it hc11).symm.trans hj1
       refine aG ?_
       obtain⟨x35,ex35,hj1⟩:=bnd hj1
       obtain⟨x36,ex36,hj1⟩:=bnd hj1
       obtain⟨x37,ex37,hj1⟩:=bnd hj1
       obtain⟨x38,ex38,hj1⟩:=bnd hj1
       obtain⟨x39,ex39,hj1⟩:=bnd hj1
       obtain⟨x40,ex40,hj1⟩:=bnd hj1
       have hp:=hp.drew
       refine jS ([([],At0 Z ρ),([],At1 Z ρ (Pt bp0 (.cells #[w2,w3,w4,aS,w6q,w7,aP,(Iv iI),(Pv aO 0),aQ,(Iv iR),(.bool iT)] 65 (0,0))))]:Facts) (fun a w=>∃yus6:List Sl,Env 222 [(7,(Pv (Pc.b pc1) 0))] a∧Hp Z ρ (cO 61 71 (78,3) w6q (yus6,aF.2) ((fM.1.set x4.toNat x38,fM.2):WD) none (some ((x7,pc1):Nat×Pc))::Pt bp0 (.cells #[w2,w3,w4,aS,w6q,w7,aP,(Iv iI),(Pv aO 0),aQ,(Iv iR),(.bool iT)] 65 (0,0))::aA 3 w2 qG::aA 3 w3 qH::aA 71 w4 (List.map (hq ((yus6,aF.2)).2) (sH:List (Option Nat)))::aA 3 aS p0.saved::aA 3 w7 pF::aA 3 aP p0.starts::Pt aO (.cells #[aK,aJ] 68 (0,0))::aA 3 aK p0.queue.list::aA 4 aJ p0.queue.isin::bT 25 3 aQ bF (p0.proof:(List (List Int)))::Pt b43 (.cells #[(Pv (Pc.b pc1) 0)] 71 (0,0))::aA 3 (Sl.v (Pc.s pc1)) j2::Pt (Pc.b pc1) (.cells #[(Sl.v (Pc.s pc1))] 78 (0,0))::L) w) (by kernel_rfl) ⟨fun _=>⟨_,hp⟩,fun _=>⟨_,(hp.get 0 rfl)⟩,trivial⟩ (fun hS=>?_) ?_
       ·
        generalize w.drew=w at hS hp⊢
        refine Ts [0,1] hE hS rfl rfl (by kernel_rfl) fun a hE hS=>T0 2 hE hS rfl rfl rfl (by kernel_rfl) (fun _=>xf hE vY rfl rfl) fun a hE hS=>T 3 1 hE hS rfl rfl rfl (by kernel_rfl) (fun _=>xl hE N7 0 rfl rfl rfl rfl) fun a hE hS=>Ts [4,6,7,8] hE hS rfl rfl (by kernel_rfl) fun a hE hS=>T0 9 hE hS rfl rfl rfl (by kernel_rfl) (fun _=>dD rfl hE rfl rfl (aZ ex36)) fun a hE hS=>?_
        refine jH [5,10] (by kernel_rfl) rfl ?_
        refine List.forall_mem_cons.2 ⟨?_,List.forall_mem_cons.2 ⟨?_,fun _ h=>absurd h (by simp)⟩⟩
        ·
         refine dZ rfl ?_
         refine Cl hE rfl rfl zJ (iD x2 hp x35 ex35) ⟨rfl,trivial⟩ fun v a w hR hE=>?_
         obtain⟨rfl,hp⟩:=hR
         have hp:=r16 hp
         refine aC (aI ⟨gp0 hp,gp 0 hp rfl,trivial⟩ fun hS=>?_)
         refine W1 10 (by kernel_rfl) rfl ?_
         obtain⟨v7,v7r⟩:=aA.view hp 15 rfl pR (some (.i64,x36)) none rfl (by simp) (sub_map ex37)
         refine V hE hp rfl (wV rfl hE rfl (some (.i64,x36)) none (by exact rfl) (by exact trivial) v7r) fun a hE=>?_
         refine aC (aI ⟨gp0 hp,gp 0 hp rfl,trivial⟩ fun hS=>?_)
         refine W1 11 (by kernel_rfl) rfl ?_
         refine s_kapps (wk0 rfl) rfl rfl hE hp rfl pR rfl 15 rfl rfl (ki:= .i64) (lo:=x36.toNat) (by have h0:=(W9 ex37).1;intro w;rw[Int.toNat_of_nonneg h0];exact v7r w) ex38 ?_
         intro v8 a w hE hp
         have hp:=r16 hp
         refine aC (aI ⟨gp0 hp,gp 0 hp rfl,trivial⟩ fun hS=>?_)
         obtain⟨b46u,b46,b46o,b46h,b46r,b46v,b46f⟩:=cO.hdr (hp.get 5 rfl) tX ex39
         refine T0 12 hE hS rfl rfl rfl (by kernel_rfl) (fun _=>aU rfl hE rfl rfl b46r) fun a hE hS=>?_
         refine W1 13 (by kernel_rfl) rfl ?_
         obtain⟨sl6,sl6e⟩:=aA.toSl hp 15 rfl
         refine s_pputI (wk0 rfl) rfl hE sl6e (gQ ex40) ((hp.get 5 rfl).get 15 rfl) rfl rfl rfl b46h ex39 b46v nG.size_ ?_
         intro w hp
         have hp:=r15 hp
         refine aC (aI ⟨gp0 hp,gp 1 hp rfl,trivial⟩ fun hS=>?_)
         exact eG (by kernel_rfl) ⟨(((us6q,aF.2).1.set x4.toNat sl6,(us6q,aF.2).2)).1,hE.cut ⟨rfl,trivial⟩,hp⟩
        refine dZ rfl ?_
        obtain⟨v9,v9r⟩:=aA.view hp 15 rfl pR (some (.i64,x36)) none rfl (by simp) (sub_map ex37)
        refine V hE hp rfl (wV rfl hE rfl (some (.i64,x36)) none (by exact rfl) (by exact trivial) v9r) fun a hE=>?_
        refine aC (aI ⟨gp0 hp,gp 0 hp rfl,trivial⟩ fun hS=>?_)
        refine W1 5 (by kernel_rfl) rfl ?_
        refine Cl hE rfl rfl zJ (iD x2 hp x35 ex35) ⟨rfl,trivial⟩ fun v a w hR hE=>?_
        obtain⟨rfl,hp⟩:=hR
        have hp:=r16 hp
        refine aC (aI ⟨gp0 hp,gp 0 hp rfl,trivial⟩ fun hS=>?_)
        refine W1 11 (by kernel_rfl) rfl ?_
        refine s_kapps (wk0 rfl) rfl rfl hE hp rfl pR rfl 15 rfl rfl (ki:= .i64) (lo:=x36.toNat) (by have h0:=(W9 ex37).1;intro w;rw[Int.toNat_of_nonneg h0];exact v9r w) ex38 ?_
        intro v10 a w hE hp
        have hp:=r16 hp
        refine aC (aI ⟨gp0 hp,gp 0 hp rfl,trivial⟩ fun hS=>?_)
        obtain⟨b47u,b47,b47o,b47h,b47r,b47v,b47f⟩:=cO.hdr (hp.get 5 rfl) tX ex39
        refine T0 12 hE hS rfl rfl rfl (by kernel_rfl) (fun _=>aU rfl hE rfl rfl b47r) fun a hE hS=>?_
        refine W1 13 (by kernel_rfl) rfl ?_
        obtain⟨sl7,sl7e⟩:=aA.toSl hp 15 rfl
        refine s_pputI (wk0 rfl) rfl hE sl7e (gQ ex40) ((hp.get 5 rfl).get 15 rfl) rfl rfl rfl b47h ex39 b47v nG.size_ ?_
        intro w hp
        have hp:=r15 hp
        refine aC (aI ⟨gp0 hp,gp 1 hp rfl,trivial⟩ fun hS=>?_)
        exact eG (by kernel_rfl) ⟨(((us6q,aF.2).1.set x4.toNat sl7,(us6q,aF.2).2)).1,hE.cut ⟨rfl,trivial⟩,hp⟩
       rintro a w ⟨yus6,hE,hp⟩
       refine aG (aB ?_)
       refine S hE 2 rfl fun a hE=>aC (dE ?_)
       obtain rfl:=oj hj1
       refine⟨_,(oj hl2).symm,fun hb=>?_⟩
       subst hb
       refine⟨_,(oj hl1).symm,fun hb=>?_⟩
       subst hb
       have hp:=(hp.get 12 rfl).drop
       obtain⟨hp,hbk3⟩:=cO.back (Tc:=(78,3)) ((hp.get 13 rfl).get 13 rfl)
       rw[←hbk3] at hE
       have hp:=r12 hp
       obtain rfl:=oj hm
       exact iH hE rfl rfl ⟨_,rfl,_,_,_,_,_,_,rfl,((((((((((((hp.get 11 rfl).get 11 rfl).get 11 rfl).get 11 rfl).get 11 rfl).get 11 rfl).get 6 rfl).get 11 rfl).get 11 rfl).get 11 rfl).get 11 rfl).get 11 rfl)⟩
      replace hj1:=(ie hc11).symm.trans hj1
      refine bP (aB ?_)
      refine S hE 3 rfl fun a hE=>V hE hp rfl (xf hE jE rfl rfl) fun a hE=>V hE hp rfl (xl hE bJ 14 rfl rfl rfl rfl) fun a hE=>?_
      obtain⟨x41,ex41,hj1⟩:=bnd hj1
      obtain⟨b48,b48o,b48r,b48v,b48f⟩:=aA.at hp 13 rfl bC ex41
      refine V hE hp rfl (aU rfl hE rfl rfl b48r) fun a hE=>V hE hp rfl (bD rfl hE rfl (fun w hw=>bH bG (b48f 0 _ rfl _ _ w (hw.get 13 rfl)))) fun a hE=>S hE 1 rfl fun a hE=>?_
      have hawc:=cO.away hp 5 rfl
      obtain⟨x42,ex42,hj1⟩:=bnd hj1
      refine s_call (wk0 rfl) rfl rfl hE rfl [(Pv bp0 0),(Iv x41),(Pc.v (hdP ((us6q,aF.2)).2 x7))] ⟨rfl,rfl,(by rw[hawc];rfl),trivial⟩ ent56 (nU bp0 (Sol.mk qG qH sH p0.saved fM pF p0.starts iI p0.queue p0.proof iR iT) w2 w3 w4 aS w6q (us6q,aF.2) w7 aP aO aK aJ aQ bF x41 (some x7) ((((((((((((hp.get 11 rfl).get 11 rfl).get 11 rfl).get 11 rfl).get 11 rfl).get 11 rfl).get 11 rfl).get 11 rfl).get 11 rfl).get 11 rfl).get 11 rfl).get 11 rfl) x42 ex42) Ret.ret ?_
      intro v a w hR hE
      obtain⟨lD,rW,qE,lC,rfl,hp⟩:=Ret.of hR
      have hp:=r16 hp
      refine aC ?_
      have hp:=(hp.get 12 rfl).drop
      obtain⟨hp,hbk4⟩:=cO.back (Tc:=(78,3)) (((hp.get 5 rfl).get 13 rfl).get 13 rfl)
      have hp:=r13 hp
      obtain rfl:=oj hj1
      exact⟨_,rfl,_,((us6q,aF.2)).1,_,_,_,_,hE.cut ⟨rfl,rfl,rfl,rfl,rfl,rfl,rfl,trivial⟩,(((((((((((((hp.get 11 rfl).get 11 rfl).get 11 rfl).get 11 rfl).get 11 rfl).get 11 rfl).get 11 rfl).get 11 rfl).get 11 rfl).get 11 rfl).get 11 rfl).get 11 rfl).get 12 rfl)⟩
     rintro a w ⟨j1s,rfl,w6,us6,w2,w3,w4,w7,hE,hp⟩
     dsimp only at hl2
     refine aB ?_
     obtain⟨x43,ex43,hl2⟩:=bnd hl2
     refine V hE hp rfl (dD rfl hE rfl rfl (aZ ex43)) fun a hE=>S hE 1 rfl fun a hE=>aC ?_
     exact⟨_,(oj hl2).symm,_,((us6,aF.2)).1,_,_,_,_,hE.cut ⟨rfl,rfl,rfl,rfl,rfl,rfl,rfl,trivial⟩,hp⟩
    replace hl2:=(ie hc4).symm.trans hl2
    refine dR ?_
    refine⟨_,(oj hl2).symm,fun hbb=>?_⟩
    exact⟨_,hbb.symm,_,((us6q,aF.2)).1,_,_,_,_,hE.cut ⟨rfl,rfl,rfl,trivial⟩,hp⟩
   rintro a w ⟨b4s,rfl,w6q,us6q,w2,w3,w4,w7,hE,hp⟩
   dsimp only at hl1
   obtain⟨x44,ex44,hl1⟩:=bnd hl1
   obtain⟨x45,ex45,hl1⟩:=bnd hl1
   obtain⟨x46,ex46,hl1⟩:=bnd hl1
   obtain⟨x47,ex47,hl1⟩:=bnd hl1
   have hp:=hp.drew
   refine jS ([([],At0 Z ρ),([],At1 Z ρ (Pt bp0 (.cells #[w2,w3,w4,aS,w6q,w7,aP,(Iv b4s.2.2.2.1),(Pv aO 0),aQ,(Iv b4s.2.2.2.2.1),(.bool b4s.2.2.2.2.2.1)] 65 (0,0))))]:Facts) (fun a w=>∃yus6:List Sl,Env 222 [(0,(Pv bp0 0))] a∧Hp Z ρ (cO 61 71 (78,3) w6q (yus6,aF.2) ((b4s.2.2.1.1.set x4.toNat (b4s.2.1.take b4s.1),b4s.2.2.1.2):WD) none none::Pt bp0 (.cells #[w2,w3,w4,aS,w6q,w7,aP,(Iv b4s.2.2.2.1),(Pv aO 0),aQ,(Iv b4s.2.2.2.2.1),(.bool b4s.2.2.2.2.2.1)] 65 (0,0))::aA 3 w2 b4s.2.2.2.2.2.2.1::aA 3 w3 b4s.2.2.2.2.2.2.2.1::aA 71 w4 (List.map (hq ((yus6,aF.2)).2) (b4s.2.2.2.2.2.2.2.2.1:List (Option Nat)))::aA 3 aS p0.saved::aA 3 w7 b4s.2.2.2.2.2.2.2.2.2::aA 3 aP p0.starts::Pt aO (.cells #[aK,aJ] 68 (0,0))::aA 3 aK p0.queue.list::aA 4 aJ p0.queue.isin::bT 25 3 aQ bF (p0.proof:(List (List Int)))::L) w) (by kernel_rfl) ⟨fun _=>⟨_,hp⟩,fun _=>⟨_,(hp.get 2 rfl)⟩,trivial⟩ (fun hS=>?_) ?_
   ·
    generalize w.drew=w at hS hp⊢
    refine Ts [0,1] hE hS rfl rfl (by kernel_rfl) fun a hE hS=>T0 2 hE hS rfl rfl rfl (by kernel_rfl) (fun _=>xf hE vY rfl rfl) fun a hE hS=>T 3 1 hE hS rfl rfl rfl (by kernel_rfl) (fun _=>xl hE N7 0 rfl rfl rfl rfl) fun a hE hS=>Ts [4,6] hE hS rfl rfl (by kernel_rfl) fun a hE hS=>?_
    refine W1 5 (by kernel_rfl) rfl ?_
    refine Cl hE rfl rfl zJ (iD x2 hp x44 ex44) ⟨rfl,trivial⟩ fun v a w hR hE=>?_
    obtain⟨rfl,hp⟩:=hR
    have hp:=r13 hp
    refine aC (aI ⟨gp0 hp,gp 2 hp rfl,trivial⟩ fun hS=>?_)
    obtain⟨b50u,b50,b50o,b50h,b50r,b50v,b50f⟩:=cO.hdr (hp.get 1 rfl) tX ex45
    refine T0 7 hE hS rfl rfl rfl (by kernel_rfl) (fun _=>aU rfl hE rfl rfl b50r) fun a hE hS=>?_
    refine W1 8 (by kernel_rfl) rfl ?_
    have hp:=OwnP.shr (m:=b4s.1) hp pR (J6 ex46)
    have hp:=r13 hp
    obtain⟨sl9,sl9e⟩:=aA.toSl hp 0 rfl
    refine s_pputI (wk0 rfl) rfl hE sl9e (gQ ex47) ((hp.get 1 rfl).get 1 rfl) rfl rfl rfl b50h ex45 b50v nG.size_ ?_
    intro w hp
    have hp:=r12 hp
    refine aC (aI ⟨gp0 hp,gp 1 hp rfl,trivial⟩ fun hS=>?_)
    exact eG (by kernel_rfl) ⟨(((us6q,aF.2).1.set x4.toNat sl9,(us6q,aF.2).2)).1,hE.cut ⟨rfl,trivial⟩,hp⟩
   rintro a w ⟨yus6,hE,hp⟩
   exact⟨_,(oj hl1).symm,_,_,_,_,((yus6,aF.2)).1,_,hE.cut ⟨rfl,trivial⟩,((((((((((((hp.get 11 rfl).get 11 rfl).get 11 rfl).get 11 rfl).get 11 rfl).get 11 rfl).get 6 rfl).get 11 rfl).get 11 rfl).get 11 rfl).get 11 rfl).get 11 rfl)⟩
  replace hl1:=(ie hc2).symm.trans hl1
  refine dR ?_
  refine⟨_,(oj hl1).symm,fun hbb=>?_⟩
  exact⟨_,hbb.symm,_,_,_,_,((us6,aF.2)).1,_,hE.cut trivial,hp⟩
 rintro a w ⟨b1s,rfl,w2,w3,w4,w6,us6,w7,hE,hp⟩
 dsimp only at hm
 refine aG (aB ?_)
 refine S hE 1 rfl fun a hE=>aC (dE ?_)
 obtain rfl:=oj hm
 exact iH hE rfl rfl ⟨_,rfl,_,_,_,_,_,_,rfl,hp⟩
end Go.Proofs.Ytpkhmndpeipfmaa

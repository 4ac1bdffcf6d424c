/- The code goes as its model: (*assessor/solver.solver).undo, (*assessor/solver.solver).decide. (Printed by wip/sp/gen.py.) -/
import Derived.Test.YtpkhmndpeipfmaaKUnT
import Derived.Test.YtpkhmndpeipfmaaKUn5
import Derived.Test.YtpkhmndpeipfmaaKUn6
import Derived.Test.YtpkhmndpeipfmaaKUn9
set_option linter.unusedVariables false
set_option linter.unusedSimpArgs false
set_option maxRecDepth 100000
set_option maxHeartbeats 4000000
namespace Go.Proofs.Ytpkhmndpeipfmaa
open Go.RowKit
theorem U9 {Z:World} {ρ:PH} {L:List bZ} {w:World} (bp0:Nat) (p0:Sol) (aV:Value) (aX:Value) (aY:Value) (aS:Value) (aN:Value) (aF:List Sl×List Pc) (aT:Value) (aP:Value) (aO:Nat) (aK:Value) (aJ:Value) (aQ:Value) (bF:List Sl) (p1:Int) (hp:Hp Z ρ (Pt bp0 (.cells #[aV,aX,aY,aS,aN,aT,aP,(Iv p0.head),(Pv aO 0),aQ,(Iv p0.literals),(.bool p0.broken)] 65 (0,0))::aA 3 aV p0.value::aA 3 aX p0.level::aA 71 aY (List.map (hq (aF).2) (p0.reason:List (Option Nat)))::aA 3 aS p0.saved::cO 61 71 (78,3) aN aF (p0.watches:WD) none none::aA 3 aT p0.trail::aA 3 aP p0.starts::Pt aO (.cells #[aK,aJ] 68 (0,0))::aA 3 aK p0.queue.list::aA 4 aJ p0.queue.isin::bT 25 3 aQ bF (p0.proof:(List (List Int)))::L) w) (r:Sol) (hm:nX p0 p1=some r):
  Calls Try.prog 54 #[(Pv bp0 0),(Iv p1)] w (Ret fun v w'=>∃(eQ:Value) (jZ:Value) (iY:Value) (sS:Value) (dS:Value) (dQ:List Sl×List Pc) (eP:Value) (rD:Value) (mW:Value) (mV:Value) (sQ:Value) (xA:List Sl),v= .tuple #[]∧Hp Z ρ (Pt bp0 (.cells #[eQ,jZ,iY,sS,dS,eP,rD,(Iv r.head),(Pv aO 0),sQ,(Iv r.literals),(.bool r.broken)] 65 (0,0))::aA 3 eQ r.value::aA 3 jZ r.level::aA 71 iY (List.map (hq (dQ).2) (r.reason:List (Option Nat)))::aA 3 sS r.saved::cO 61 71 (78,3) dS dQ (r.watches:WD) none none::aA 3 eP r.trail::aA 3 rD r.starts::Pt aO (.cells #[mW,mV] 68 (0,0))::aA 3 mW r.queue.list::aA 4 mV r.queue.isin::bT 25 3 sQ xA (r.proof:(List (List Int)))::L) w'):=by
 refine enter (N:=96) Try.func54 rfl rfl [(0,(Pv bp0 0)),(1,(Iv p1))] rfl (bM ⟨rfl,rfl,trivial⟩) fun a hE=>?_
 unfold nX at hm
 refine aG (aG ?_)
 refine aB (S hE 3 rfl fun a hE=>?_)
 refine V hE hp rfl (xf hE pU rfl rfl) fun a hE=>V hE hp rfl (xl hE bJ 0 rfl rfl rfl rfl) fun a hE=>V hE hp rfl (dL rfl hE rfl (aA.len hp 7 rfl bC)) fun a hE=>S hE 1 rfl fun a hE=>aC ?_
 refine dK hE rfl (fun hc1=>?_) (fun hc1=>?_)
 ·replace hm:=(it hc1).symm.trans hm
  refine dE ?_
  obtain rfl:=oj hm
  exact ret0 hE rfl ⟨_,rfl,_,_,_,_,_,_,_,_,_,_,_,_,rfl,hp⟩
 replace hm:=(ie hc1).symm.trans hm
 refine bP (aG ?_)
 refine aB (S hE 2 rfl fun a hE=>?_)
 refine V hE hp rfl (xf hE pU rfl rfl) fun a hE=>V hE hp rfl (xl hE bJ 0 rfl rfl rfl rfl) fun a hE=>S hE 1 rfl fun a hE=>?_
 obtain⟨x1,ex1,hm⟩:=bnd hm
 obtain⟨b1,b1o,b1r,b1v,b1f⟩:=aA.at hp 7 rfl bC ex1
 refine V hE hp rfl (aU rfl hE rfl rfl b1r) fun a hE=>V hE hp rfl (bD rfl hE rfl (fun w hw=>bH bG (b1f 0 _ rfl _ _ w (hw.get 7 rfl)))) fun a hE=>S hE 1 rfl fun a hE=>aC (aG ?_)
 refine aG (aB ?_)
 refine S hE 2 rfl fun a hE=>V hE hp rfl (xf hE oD rfl rfl) fun a hE=>V hE hp rfl (xl hE bJ 0 rfl rfl rfl rfl) fun a hE=>S hE 1 rfl fun a hE=>?_
 obtain⟨x2,ex2,hm⟩:=bnd hm
 obtain⟨v1,v1r,v1f⟩:=aA.viewF hp 6 rfl bC (some (.i64,x1)) none rfl rfl ex2
 refine V hE hp rfl (wV rfl hE rfl (some (.i64,x1)) none (by exact rfl) (by exact trivial) v1r) fun a hE=>V hE hp rfl (dL rfl hE rfl (D5.len v1f hp 6 rfl bC)) fun a hE=>S hE 1 rfl fun a hE=>aC ?_
 obtain⟨b2,hc2,hm⟩:=bnd hm
 refine dH (fun a w=>∃(w2:Value) (w4:Value) (w5:Value) (w10:Value) (w11:Value),Env 96 [(0,(Pv bp0 0)),(1,(Iv p1)),(4,(Iv x1))] a∧Hp Z ρ (Pt bp0 (.cells #[w2,aX,w4,w5,aN,aT,aP,(Iv p0.head),(Pv aO 0),aQ,(Iv p0.literals),(.bool p0.broken)] 65 (0,0))::aA 3 w2 b2.1::aA 3 aX p0.level::aA 71 w4 (List.map (hq (aF).2) (b2.2.1:List (Option Nat)))::aA 3 w5 b2.2.2.1::cO 61 71 (78,3) aN aF (p0.watches:WD) none none::aA 3 aT p0.trail::aA 3 aP p0.starts::Pt aO (.cells #[w10,w11] 68 (0,0))::aA 3 w10 b2.2.2.2.1::aA 4 w11 b2.2.2.2.2::bT 25 3 aQ bF (p0.proof:(List (List Int)))::L) w) ?_ ?_
 ·refine eU hc2 (fun s a w=>∃(w2:Value) (w4:Value) (w5:Value) (w10:Value) (w11:Value),Env 96 [(0,(Pv bp0 0)),(1,(Iv p1)),(4,(Iv x1)),(27,v1),(28,(Iv (x2.length:Int))),(29,(Iv s.1))] a∧Hp Z ρ (Pt bp0 (.cells #[w2,aX,w4,w5,aN,aT,aP,(Iv p0.head),(Pv aO 0),aQ,(Iv p0.literals),(.bool p0.broken)] 65 (0,0))::aA 3 w2 s.2.1::aA 3 aX p0.level::aA 71 w4 (List.map (hq (aF).2) (s.2.2.1:List (Option Nat)))::aA 3 w5 s.2.2.2.1::cO 61 71 (78,3) aN aF (p0.watches:WD) none none::aA 3 aT p0.trail::aA 3 aP p0.starts::Pt aO (.cells #[w10,w11] 68 (0,0))::aA 3 w10 s.2.2.2.2.1::aA 4 w11 s.2.2.2.2.2::bT 25 3 aQ bF (p0.proof:(List (List Int)))::L) w) ?_ ?_
  ·exact⟨_,_,_,_,_,hE.cut ⟨rfl,rfl,rfl,rfl,rfl,rfl,trivial⟩,hp⟩
  rintro⟨aW,bU,dJ,jB,kD,lF⟩ st a w ⟨w2,w4,w5,w10,w11,hE,hp⟩ hl1
  dsimp only at hE hp hl1
  unfold jF at hl1
  refine aG (aB ?_)
  refine S hE 1 rfl fun a hE=>aC (aG ?_)
  refine dK hE rfl (fun hc3=>?_) (fun hc3=>?_)
  ·replace hl1:=(it hc3).symm.trans hl1
   refine bP (aG ?_)
   refine dF (aG ?_)
   refine aB ?_
   obtain⟨x3,ex3,hl1⟩:=bnd hl1
   obtain⟨b3,b3o,b3r,b3f⟩:=D5.at v1f hp 6 rfl bC ex3
   refine V hE hp rfl (aU rfl hE rfl rfl b3r) fun a hE=>V hE hp rfl (bD rfl hE rfl (fun w hw=>bH bG (b3f 0 _ rfl _ _ w (hw.get 6 rfl)))) fun a hE=>S hE 1 rfl fun a hE=>aC (aG ?_)
   refine aB (S hE 1 rfl fun a hE=>?_)
   obtain⟨x4,ex4,hl1⟩:=bnd hl1
   refine Cl hE rfl rfl E5 (fK x3 hp x4 ex4) ⟨rfl,trivial⟩ fun v a w hR hE=>?_
   obtain⟨rfl,hp⟩:=hR
   have hp:=r12 hp
   refine S hE 1 rfl fun a hE=>aC (aG ?_)
   obtain⟨x5,ex5,hl1⟩:=bnd hl1
   obtain⟨x6,ex6,hl1⟩:=bnd hl1
   obtain⟨x7,ex7,hl1⟩:=bnd hl1
   have hp:=hp.drew
   refine jS ([([],At0 Z ρ),([],At1 Z ρ (Pt bp0 (.cells #[w2,aX,w4,w5,aN,aT,aP,(Iv p0.head),(Pv aO 0),aQ,(Iv p0.literals),(.bool p0.broken)] 65 (0,0))))]:Facts) (fun a w=>Env 96 [(0,(Pv bp0 0)),(1,(Iv p1)),(4,(Iv x1)),(7,(Iv x4)),(27,v1),(28,(Iv (x2.length:Int))),(29,(Iv aW))] a∧Hp Z ρ (Pt bp0 (.cells #[w2,aX,w4,w5,aN,aT,aP,(Iv p0.head),(Pv aO 0),aQ,(Iv p0.literals),(.bool p0.broken)] 65 (0,0))::aA 3 w2 (bU.set x4.toNat 0)::aA 3 aX p0.level::aA 71 w4 (List.map (hq (aF).2) (dJ.set x4.toNat none:List (Option Nat)))::aA 3 w5 (jB.set x4.toNat x3)::cO 61 71 (78,3) aN aF (p0.watches:WD) none none::aA 3 aT p0.trail::aA 3 aP p0.starts::Pt aO (.cells #[w10,w11] 68 (0,0))::aA 3 w10 kD::aA 4 w11 lF::bT 25 3 aQ bF (p0.proof:(List (List Int)))::L) w) (by kernel_rfl) ⟨fun _=>⟨_,hp⟩,fun _=>⟨_,(hp.get 0 rfl)⟩,trivial⟩ (fun hS=>?_) ?_
   ·
    generalize w.drew=w at hS hp⊢
    refine Ts [0,1] hE hS rfl rfl (by kernel_rfl) fun a hE hS=>T0 2 hE hS rfl rfl rfl (by kernel_rfl) (fun _=>xf hE E8 rfl rfl) fun a hE hS=>T 3 1 hE hS rfl rfl rfl (by kernel_rfl) (fun _=>xl hE bJ 0 rfl rfl rfl rfl) fun a hE hS=>Ts [4,5,6] hE hS rfl rfl (by kernel_rfl) fun a hE hS=>T0 7 hE hS rfl rfl rfl (by kernel_rfl) (fun _=>xf hE yH rfl rfl) fun a hE hS=>T 8 1 hE hS rfl rfl rfl (by kernel_rfl) (fun _=>xl hE nG 0 rfl rfl rfl rfl) fun a hE hS=>Ts [9,10,11] hE hS rfl rfl (by kernel_rfl) fun a hE hS=>T0 12 hE hS rfl rfl rfl (by kernel_rfl) (fun _=>xf hE fldty65_3 rfl rfl) fun a hE hS=>T 13 1 hE hS rfl rfl rfl (by kernel_rfl) (fun _=>xl hE bJ 0 rfl rfl rfl rfl) fun a hE hS=>Ts [14,15] hE hS rfl rfl (by kernel_rfl) fun a hE hS=>?_
    obtain⟨b7,b7o,b7r,b7v,b7f⟩:=aA.at hp 1 rfl bC ex5
    refine T0 16 hE hS rfl rfl rfl (by kernel_rfl) (fun _=>aU rfl hE rfl rfl b7r) fun a hE hS=>?_
    refine W1 17 (by kernel_rfl) rfl ?_
    refine mY (wk0 rfl) rfl hE hp rfl rfl rfl 1 rfl ex5 b7v 0 (e':=0) bG.size_ rfl rfl rfl ⟨rfl,rfl⟩ ?_
    intro w hp
    have hp:=r12 hp
    refine aC (aI ⟨gp0 hp,gp 0 hp rfl,trivial⟩ fun hS=>?_)
    obtain⟨b8,b8o,b8r,b8v,b8f⟩:=OwnQ.at hp 3 rfl pR ex6
    refine T0 18 hE hS rfl rfl rfl (by kernel_rfl) (fun _=>aU rfl hE rfl rfl b8r) fun a hE hS=>?_
    refine W1 19 (by kernel_rfl) rfl ?_
    refine s_qstel (wk0 rfl) rfl hE hp rfl rfl rfl 3 rfl ex6 b8v (e':=none) rfl N8.size_ ?_
    intro w hp
    have hp:=r12 hp
    refine aC (aI ⟨gp0 hp,gp 0 hp rfl,trivial⟩ fun hS=>?_)
    obtain⟨b9,b9o,b9r,b9v,b9f⟩:=aA.at hp 4 rfl bC ex7
    refine T0 20 hE hS rfl rfl rfl (by kernel_rfl) (fun _=>aU rfl hE rfl rfl b9r) fun a hE hS=>?_
    refine W1 21 (by kernel_rfl) rfl ?_
    refine mY (wk0 rfl) rfl hE hp rfl rfl rfl 4 rfl ex7 b9v 0 (e':=x3) bG.size_ rfl rfl rfl ⟨rfl,rfl⟩ ?_
    intro w hp
    have hp:=r12 hp
    refine aC (aI ⟨gp0 hp,gp 0 hp rfl,trivial⟩ fun hS=>?_)
    exact eG (by kernel_rfl) ⟨hE.cut ⟨rfl,rfl,rfl,rfl,rfl,rfl,rfl,trivial⟩,hp⟩
   rintro a w ⟨hE,hp⟩
   refine aG (aB ?_)
   refine S hE 2 rfl fun a hE=>V hE hp rfl (xf hE yI rfl rfl) fun a hE=>V hE hp rfl (xl hE aB1 0 rfl rfl rfl rfl) fun a hE=>S hE 1 rfl fun a hE=>V hE hp rfl (xf hE fldty68_1 rfl rfl) fun a hE=>V hE hp rfl (xl hE varty66 8 rfl rfl rfl rfl) fun a hE=>S hE 1 rfl fun a hE=>?_
   obtain⟨x8,ex8,hl1⟩:=bnd hl1
   obtain⟨b10,b10o,b10r,b10v,b10f⟩:=aA.at hp 10 rfl slty66 ex8
   refine V hE hp rfl (aU rfl hE rfl rfl b10r) fun a hE=>V hE hp rfl (bD rfl hE rfl (fun w hw=>bH sO (b10f 0 _ rfl _ _ w (hw.get 10 rfl)))) fun a hE=>S hE 1 rfl fun a hE=>aC ?_
   refine dK hE rfl (fun hc4=>?_) (fun hc4=>?_)
   ·replace hl1:=(it hc4).symm.trans hl1
    refine aB (S hE 2 rfl fun a hE=>?_)
    refine V hE hp rfl (xf hE yI rfl rfl) fun a hE=>V hE hp rfl (xl hE aB1 0 rfl rfl rfl rfl) fun a hE=>V hE hp rfl (v:=(.iface 63 (Pv aO 0))) (ex_mki rfl hE rfl (mki63 _)) fun a hE=>S hE 1 rfl fun a hE=>V hE hp rfl (v:=(.iface 3 (Iv x4))) (ex_mki rfl hE rfl (mki3 _)) fun a hE=>?_
    obtain⟨x9,ex9,hl1⟩:=bnd hl1
    refine Cl hE rfl rfl ent48 (c_heap_Push aO (Que.mk kD lF) w10 w11 x4 (((hp.get 10 rfl).get 10 rfl).get 10 rfl) x9 ex9) ⟨rfl,rfl,trivial⟩ fun v a w hR hE=>?_
    obtain⟨rQ,rP,rfl,hp⟩:=hR
    have hp:=r12 hp
    refine aC ?_
    have hE:=hE.cut (E':=[(0,(Pv bp0 0)),(1,(Iv p1)),(4,(Iv x1)),(27,v1),(28,(Iv (x2.length:Int))),(29,(Iv aW))]) ⟨rfl,rfl,rfl,rfl,rfl,rfl,trivial⟩
    refine aB ?_
    obtain⟨x10,ex10,hl1⟩:=bnd hl1
    refine V hE hp rfl (dD rfl hE rfl rfl (aZ ex10)) fun a hE=>S hE 1 rfl fun a hE=>aC ?_
    exact⟨_,(oj hl1).symm,_,_,_,_,_,hE.cut ⟨rfl,rfl,rfl,rfl,rfl,rfl,trivial⟩,((((((((((((hp.get 11 rfl).get 3 rfl).get 3 rfl).get 3 rfl).get 11 rfl).get 11 rfl).get 11 rfl).get 11 rfl).get 11 rfl).get 11 rfl).get 11 rfl).get 11 rfl)⟩
   replace hl1:=(ie hc4).symm.trans hl1
   refine bP (aB ?_)
   obtain⟨x11,ex11,hl1⟩:=bnd hl1
   refine V hE hp rfl (dD rfl hE rfl rfl (aZ ex11)) fun a hE=>S hE 1 rfl fun a hE=>aC ?_
   exact⟨_,(oj hl1).symm,_,_,_,_,_,hE.cut ⟨rfl,rfl,rfl,rfl,rfl,rfl,trivial⟩,hp⟩
  replace hl1:=(ie hc3).symm.trans hl1
  refine dR ?_
  refine⟨_,(oj hl1).symm,fun hbb=>?_⟩
  subst hbb
  exact⟨_,_,_,_,_,hE.cut ⟨rfl,rfl,rfl,trivial⟩,hp⟩
 rintro a w ⟨w2,w4,w5,w10,w11,hE,hp⟩
 obtain⟨x12,ex12,hm⟩:=bnd hm
 obtain⟨x13,ex13,hm⟩:=bnd hm
 have hp:=hp.drew
 refine jS ([([],At0 Z ρ),([18,21,24],At1 Z ρ (Pt bp0 (.cells #[w2,aX,w4,w5,aN,aT,aP,(Iv p0.head),(Pv aO 0),aQ,(Iv p0.literals),(.bool p0.broken)] 65 (0,0))))]:Facts) (fun a w=>∃y8:Value,∃y7:Value,Env 96 [] a∧Hp Z ρ (aA 3 y8 x13::aA 3 y7 x12::Pt bp0 (.cells #[w2,aX,w4,w5,aN,y7,y8,(Iv x1),(Pv aO 0),aQ,(Iv p0.literals),(.bool p0.broken)] 65 (0,0))::aA 3 w2 b2.1::aA 3 aX p0.level::aA 71 w4 (List.map (hq (aF).2) (b2.2.1:List (Option Nat)))::aA 3 w5 b2.2.2.1::cO 61 71 (78,3) aN aF (p0.watches:WD) none none::Pt aO (.cells #[w10,w11] 68 (0,0))::aA 3 w10 b2.2.2.2.1::aA 4 w11 b2.2.2.2.2::bT 25 3 aQ bF (p0.proof:(List (List Int)))::L) w) (by kernel_rfl) ⟨fun _=>⟨_,hp⟩,fun _=>⟨_,(hp.get 0 rfl)⟩,trivial⟩ (fun hS=>?_) ?_
 ·
  generalize w.drew=w at hS hp⊢
  refine Ts [0,1,2,3,4] hE hS rfl rfl (by kernel_rfl) fun a hE hS=>T0 5 hE hS rfl rfl rfl (by kernel_rfl) (fun _=>xf hE oD rfl rfl) fun a hE hS=>T 6 1 hE hS rfl rfl rfl (by kernel_rfl) (fun _=>xl hE bJ 0 rfl rfl rfl rfl) fun a hE hS=>Ts [7,9,10] hE hS rfl rfl (by kernel_rfl) fun a hE hS=>T0 11 hE hS rfl rfl rfl (by kernel_rfl) (fun _=>xf hE pU rfl rfl) fun a hE hS=>T 12 1 hE hS rfl rfl rfl (by kernel_rfl) (fun _=>xl hE bJ 0 rfl rfl rfl rfl) fun a hE hS=>Ts [13,15] hE hS rfl rfl (by kernel_rfl) fun a hE hS=>?_
  refine jH [8,14] (by kernel_rfl) rfl ?_
  refine List.forall_mem_cons.2 ⟨?_,List.forall_mem_cons.2 ⟨?_,fun _ h=>absurd h (by simp)⟩⟩
  ·
   refine dZ rfl ?_
   obtain⟨v4,v4r,hp⟩:=aA.head (hp.get 6 rfl) bC (some (.i64,x1)) rfl ex12
   have hp:=r12 hp
   refine V hE hp rfl (wV rfl hE rfl none (some (.i64,x1)) (by exact trivial) (by exact rfl) v4r) fun a hE=>?_
   refine aC (aI ⟨gp0 hp,gp 1 hp rfl,trivial⟩ fun hS=>?_)
   refine Ts [16] hE hS rfl rfl (by kernel_rfl) fun a hE hS=>T0 17 hE hS rfl rfl rfl (by kernel_rfl) (fun _=>xf hE oD rfl rfl) fun a hE hS=>?_
   refine jH [14,18] (by kernel_rfl) rfl ?_
   refine List.forall_mem_cons.2 ⟨?_,List.forall_mem_cons.2 ⟨?_,fun _ h=>absurd h (by simp)⟩⟩
   ·
    refine dZ rfl ?_
    obtain⟨v5,v5r,hp⟩:=aA.head (hp.get 7 rfl) bC (some (.i64,p1)) rfl ex13
    have hp:=r12 hp
    refine V hE hp rfl (wV rfl hE rfl none (some (.i64,p1)) (by exact trivial) (by exact rfl) v5r) fun a hE=>?_
    refine aC (aI ⟨gp0 hp,gp 2 hp rfl,trivial⟩ fun hS=>?_)
    refine W1 18 (by kernel_rfl) rfl ?_
    refine oK (wk0 rfl) rfl hE hp rfl rfl rfl 2 rfl bJ.size_ (aA.cells hp 1 rfl) (aA.one hp 1 rfl) rfl [w2,aX,w4,w5,aN,v4,aP,(Iv p0.head),(Pv aO 0),aQ,(Iv p0.literals),(.bool p0.broken)] rfl ?_
    intro w hp
    have hp:=r12 hp
    refine aC (aI ⟨gp0 hp,dead (by kernel_rfl),trivial⟩ fun hS=>?_)
    refine Ts [19] hE hS rfl rfl (by kernel_rfl) fun a hE hS=>T0 20 hE hS rfl rfl rfl (by kernel_rfl) (fun _=>xf hE pU rfl rfl) fun a hE hS=>?_
    refine W1 21 (by kernel_rfl) rfl ?_
    refine oK (wk0 rfl) rfl hE hp rfl rfl rfl 2 rfl bJ.size_ (aA.cells hp 0 rfl) (aA.one hp 0 rfl) rfl [w2,aX,w4,w5,aN,v4,v5,(Iv p0.head),(Pv aO 0),aQ,(Iv p0.literals),(.bool p0.broken)] rfl ?_
    intro w hp
    have hp:=r12 hp
    refine aC (aI ⟨gp0 hp,dead (by kernel_rfl),trivial⟩ fun hS=>?_)
    refine Ts [22] hE hS rfl rfl (by kernel_rfl) fun a hE hS=>T0 23 hE hS rfl rfl rfl (by kernel_rfl) (fun _=>xf hE vZ rfl rfl) fun a hE hS=>?_
    refine W1 24 (by kernel_rfl) rfl ?_
    refine dO (wk0 rfl) rfl hE hp rfl rfl rfl 2 rfl bG.size_ rfl (bY ⟨rfl,trivial⟩) [w2,aX,w4,w5,aN,v4,v5,(Iv x1),(Pv aO 0),aQ,(Iv p0.literals),(.bool p0.broken)] rfl ?_
    intro w hp
    have hp:=r12 hp
    refine aC (aI ⟨gp0 hp,dead (by kernel_rfl),trivial⟩ fun hS=>?_)
    exact eG (by kernel_rfl) ⟨_,_,hE.cut trivial,hp⟩
   refine dZ rfl ?_
   refine oK (wk0 rfl) rfl hE hp rfl rfl rfl 1 rfl bJ.size_ (aA.cells hp 0 rfl) (aA.one hp 0 rfl) rfl [w2,aX,w4,w5,aN,v4,aP,(Iv p0.head),(Pv aO 0),aQ,(Iv p0.literals),(.bool p0.broken)] rfl ?_
   intro w hp
   have hp:=r12 hp
   refine aC (aI ⟨gp0 hp,dead (by kernel_rfl),trivial⟩ fun hS=>?_)
   refine W1 14 (by kernel_rfl) rfl ?_
   obtain⟨v6,v6r,hp⟩:=aA.head (hp.get 7 rfl) bC (some (.i64,p1)) rfl ex13
   have hp:=r12 hp
   refine V hE hp rfl (wV rfl hE rfl none (some (.i64,p1)) (by exact trivial) (by exact rfl) v6r) fun a hE=>?_
   refine aC (aI ⟨gp0 hp,dead (by kernel_rfl),trivial⟩ fun hS=>?_)
   refine Ts [19] hE hS rfl rfl (by kernel_rfl) fun a hE hS=>T0 20 hE hS rfl rfl rfl (by kernel_rfl) (fun _=>xf hE pU rfl rfl) fun a hE hS=>?_
   refine W1 21 (by kernel_rfl) rfl ?_
   refine oK (wk0 rfl) rfl hE hp rfl rfl rfl 2 rfl bJ.size_ (aA.cells hp 0 rfl) (aA.one hp 0 rfl) rfl [w2,aX,w4,w5,aN,v4,v6,(Iv p0.head),(Pv aO 0),aQ,(Iv p0.literals),(.bool p0.broken)] rfl ?_
   intro w hp
   have hp:=r12 hp
   refine aC (aI ⟨gp0 hp,dead (by kernel_rfl),trivial⟩ fun hS=>?_)
   refine Ts [22] hE hS rfl rfl (by kernel_rfl) fun a hE hS=>T0 23 hE hS rfl rfl rfl (by kernel_rfl) (fun _=>xf hE vZ rfl rfl) fun a hE hS=>?_
   refine W1 24 (by kernel_rfl) rfl ?_
   refine dO (wk0 rfl) rfl hE hp rfl rfl rfl 2 rfl bG.size_ rfl (bY ⟨rfl,trivial⟩) [w2,aX,w4,w5,aN,v4,v6,(Iv x1),(Pv aO 0),aQ,(Iv p0.literals),(.bool p0.broken)] rfl ?_
   intro w hp
   have hp:=r12 hp
   refine aC (aI ⟨gp0 hp,dead (by kernel_rfl),trivial⟩ fun hS=>?_)
   exact eG (by kernel_rfl) ⟨_,_,hE.cut trivial,hp⟩
  refine dZ rfl ?_
  obtain⟨v7,v7r,hp⟩:=aA.head (hp.get 7 rfl) bC (some (.i64,p1)) rfl ex13
  have hp:=r12 hp
  refine V hE hp rfl (wV rfl hE rfl none (some (.i64,p1)) (by exact trivial) (by exact rfl) v7r) fun a hE=>?_
  refine aC (aI ⟨gp0 hp,gp 1 hp rfl,trivial⟩ fun hS=>?_)
  refine W1 8 (by kernel_rfl) rfl ?_
  obtain⟨v8,v8r,hp⟩:=aA.head (hp.get 7 rfl) bC (some (.i64,x1)) rfl ex12
  have hp:=r12 hp
  refine V hE hp rfl (wV rfl hE rfl none (some (.i64,x1)) (by exact trivial) (by exact rfl) v8r) fun a hE=>?_
  refine aC (aI ⟨gp0 hp,gp 2 hp rfl,trivial⟩ fun hS=>?_)
  refine Ts [16] hE hS rfl rfl (by kernel_rfl) fun a hE hS=>T0 17 hE hS rfl rfl rfl (by kernel_rfl) (fun _=>xf hE oD rfl rfl) fun a hE hS=>?_
  refine W1 18 (by kernel_rfl) rfl ?_
  refine oK (wk0 rfl) rfl hE hp rfl rfl rfl 2 rfl bJ.size_ (aA.cells hp 0 rfl) (aA.one hp 0 rfl) rfl [w2,aX,w4,w5,aN,v8,aP,(Iv p0.head),(Pv aO 0),aQ,(Iv p0.literals),(.bool p0.broken)] rfl ?_
  intro w hp
  have hp:=r12 hp
  refine aC (aI ⟨gp0 hp,dead (by kernel_rfl),trivial⟩ fun hS=>?_)
  refine Ts [19] hE hS rfl rfl (by kernel_rfl) fun a hE hS=>T0 20 hE hS rfl rfl rfl (by kernel_rfl) (fun _=>xf hE pU rfl rfl) fun a hE hS=>?_
  refine W1 21 (by kernel_rfl) rfl ?_
  refine oK (wk0 rfl) rfl hE hp rfl rfl rfl 2 rfl bJ.size_ (aA.cells hp 1 rfl) (aA.one hp 1 rfl) rfl [w2,aX,w4,w5,aN,v8,v7,(Iv p0.head),(Pv aO 0),aQ,(Iv p0.literals),(.bool p0.broken)] rfl ?_
  intro w hp
  have hp:=r12 hp
  refine aC (aI ⟨gp0 hp,dead (by kernel_rfl),trivial⟩ fun hS=>?_)
  refine Ts [22] hE hS rfl rfl (by kernel_rfl) fun a hE hS=>T0 23 hE hS rfl rfl rfl (by kernel_rfl) (fun _=>xf hE vZ rfl rfl) fun a hE hS=>?_
  refine W1 24 (by kernel_rfl) rfl ?_
  refine dO (wk0 rfl) rfl hE hp rfl rfl rfl 2 rfl bG.size_ rfl (bY ⟨rfl,trivial⟩) [w2,aX,w4,w5,aN,v8,v7,(Iv x1),(Pv aO 0),aQ,(Iv p0.literals),(.bool p0.broken)] rfl ?_
  intro w hp
  have hp:=r12 hp
  refine aC (aI ⟨gp0 hp,dead (by kernel_rfl),trivial⟩ fun hS=>?_)
  exact eG (by kernel_rfl) ⟨_,_,hE.cut trivial,((((((((((((hp.get 11 rfl).get 11 rfl).get 11 rfl).get 11 rfl).get 11 rfl).get 11 rfl).get 11 rfl).get 11 rfl).get 11 rfl).get 11 rfl).get 10 rfl).get 11 rfl)⟩
 rintro a w ⟨y8,y7,hE,hp⟩
 obtain rfl:=oj hm
 exact wZ hE rfl ⟨_,rfl,_,_,_,_,_,_,_,_,_,_,_,_,rfl,((((((((((((hp.get 11 rfl).get 11 rfl).get 11 rfl).get 11 rfl).get 4 rfl).get 5 rfl).get 11 rfl).get 11 rfl).get 11 rfl).get 11 rfl).get 11 rfl).get 11 rfl)⟩
theorem I8 {Z:World} {ρ:PH} {L:List bZ} {w:World} (bp0:Nat) (p0:Sol) (aV:Value) (aX:Value) (aY:Value) (aS:Value) (aN:Value) (aF:List Sl×List Pc) (aT:Value) (aP:Value) (aO:Nat) (aK:Value) (aJ:Value) (aQ:Value) (bF:List Sl) (hp:Hp Z ρ (Pt bp0 (.cells #[aV,aX,aY,aS,aN,aT,aP,(Iv p0.head),(Pv aO 0),aQ,(Iv p0.literals),(.bool p0.broken)] 65 (0,0))::aA 3 aV p0.value::aA 3 aX p0.level::aA 71 aY (List.map (hq (aF).2) (p0.reason:List (Option Nat)))::aA 3 aS p0.saved::cO 61 71 (78,3) aN aF (p0.watches:WD) none none::aA 3 aT p0.trail::aA 3 aP p0.starts::Pt aO (.cells #[aK,aJ] 68 (0,0))::aA 3 aK p0.queue.list::aA 4 aJ p0.queue.isin::bT 25 3 aQ bF (p0.proof:(List (List Int)))::L) w) (r:(Bool×Sol)) (hm:kH p0=some r):
  Calls Try.prog 51 #[(Pv bp0 0)] w (Ret fun v w'=>∃(eQ:Value) (jZ:Value) (iY:Value) (sS:Value) (dS:Value) (dQ:List Sl×List Pc) (eP:Value) (rD:Value) (mW:Value) (mV:Value) (sQ:Value) (xA:List Sl),v=(.bool r.1)∧Hp Z ρ (Pt bp0 (.cells #[eQ,jZ,iY,sS,dS,eP,rD,(Iv r.2.head),(Pv aO 0),sQ,(Iv r.2.literals),(.bool r.2.broken)] 65 (0,0))::aA 3 eQ r.2.value::aA 3 jZ r.2.level::aA 71 iY (List.map (hq (dQ).2) (r.2.reason:List (Option Nat)))::aA 3 sS r.2.saved::cO 61 71 (78,3) dS dQ (r.2.watches:WD) none none::aA 3 eP r.2.trail::aA 3 rD r.2.starts::Pt aO (.cells #[mW,mV] 68 (0,0))::aA 3 mW r.2.queue.list::aA 4 mV r.2.queue.isin::bT 25 3 sQ xA (r.2.proof:(List (List Int)))::L) w'):=by
 refine enter (N:=48) Try.func51 rfl rfl [(0,(Pv bp0 0))] rfl (bM ⟨rfl,trivial⟩) fun a hE=>?_
 unfold kH at hm
 refine aG (aB ?_)
 refine S hE 1 rfl fun a hE=>aC (aG ?_)
 obtain⟨b1,hc1,hm⟩:=bnd hm
 refine dH (fun a w=>∃s:((List Int)×(List Bool)),b1= .brk s∧(∃(w10:Value) (w11:Value),Env 48 [] a∧Hp Z ρ (Pt bp0 (.cells #[aV,aX,aY,aS,aN,aT,aP,(Iv p0.head),(Pv aO 0),aQ,(Iv p0.literals),(.bool p0.broken)] 65 (0,0))::aA 3 aV p0.value::aA 3 aX p0.level::aA 71 aY (List.map (hq (aF).2) (p0.reason:List (Option Nat)))::aA 3 aS p0.saved::cO 61 71 (78,3) aN aF (p0.watches:WD) none none::aA 3 aT p0.trail::aA 3 aP p0.starts::Pt aO (.cells #[w10,w11] 68 (0,0))::aA 3 w10 s.1::aA 4 w11 s.2::bT 25 3 aQ bF (p0.proof:(List (List Int)))::L) w)) ?_ ?_
 ·refine eU hc1 (fun s a w=>∃(w10:Value) (w11:Value),Env 48 [(0,(Pv bp0 0))] a∧Hp Z ρ (Pt bp0 (.cells #[aV,aX,aY,aS,aN,aT,aP,(Iv p0.head),(Pv aO 0),aQ,(Iv p0.literals),(.bool p0.broken)] 65 (0,0))::aA 3 aV p0.value::aA 3 aX p0.level::aA 71 aY (List.map (hq (aF).2) (p0.reason:List (Option Nat)))::aA 3 aS p0.saved::cO 61 71 (78,3) aN aF (p0.watches:WD) none none::aA 3 aT p0.trail::aA 3 aP p0.starts::Pt aO (.cells #[w10,w11] 68 (0,0))::aA 3 w10 s.1::aA 4 w11 s.2::bT 25 3 aQ bF (p0.proof:(List (List Int)))::L) w) ?_ ?_
  ·exact⟨_,_,hE.cut ⟨rfl,trivial⟩,hp⟩
  rintro⟨aW,bU⟩ st a w ⟨w10,w11,hE,hp⟩ hl1
  dsimp only at hE hp hl1
  unfold mM at hl1
  refine aG (aG ?_)
  refine aB (S hE 2 rfl fun a hE=>?_)
  refine V hE hp rfl (xf hE yI rfl rfl) fun a hE=>V hE hp rfl (xl hE aB1 0 rfl rfl rfl rfl) fun a hE=>?_
  obtain⟨x1,ex1,hl1⟩:=bnd hl1
  refine Cl hE rfl rfl ent66 (uO aO (Que.mk aW bU) w10 w11 (((hp.get 10 rfl).get 10 rfl).get 10 rfl) x1 ex1) ⟨rfl,trivial⟩ fun v a w hR hE=>?_
  obtain⟨rfl,hp⟩:=hR
  have hp:=r12 hp
  refine S hE 1 rfl fun a hE=>aC ?_
  refine dK hE rfl (fun hc2=>?_) (fun hc2=>?_)
  ·replace hl1:=(it hc2).symm.trans hl1
   refine bP (dF ?_)
   refine aG (aB ?_)
   refine S hE 2 rfl fun a hE=>V hE hp rfl (xf hE yI rfl rfl) fun a hE=>V hE hp rfl (xl hE aB1 3 rfl rfl rfl rfl) fun a hE=>V hE hp rfl (v:=(.iface 63 (Pv aO 0))) (ex_mki rfl hE rfl (mki63 _)) fun a hE=>?_
   obtain⟨x2,ex2,hl1⟩:=bnd hl1
   refine Cl hE rfl rfl ent67 (c_heap_Pop aO (Que.mk aW bU) w10 w11 (((hp.get 2 rfl).get 2 rfl).get 2 rfl) x2 ex2) ⟨rfl,trivial⟩ fun v a w hR hE=>?_
   obtain⟨rQ,rP,rfl,hp⟩:=hR
   have hp:=r12 hp
   refine V hE hp rfl (v:=(Iv x2.1)) (ex_tas rfl hE rfl (tas20_3 _)) fun a hE=>S hE 1 rfl fun a hE=>aC ?_
   have hE:=hE.cut (E':=[(0,(Pv bp0 0)),(3,(Iv x2.1))]) ⟨rfl,rfl,trivial⟩
   refine aG (aB ?_)
   refine S hE 2 rfl fun a hE=>V hE hp rfl (xf hE E8 rfl rfl) fun a hE=>V hE hp rfl (xl hE bJ 3 rfl rfl rfl rfl) fun a hE=>S hE 1 rfl fun a hE=>?_
   obtain⟨x3,ex3,hl1⟩:=bnd hl1
   obtain⟨b2,b2o,b2r,b2v,b2f⟩:=aA.at hp 4 rfl bC ex3
   refine V hE hp rfl (aU rfl hE rfl rfl b2r) fun a hE=>V hE hp rfl (bD rfl hE rfl (fun w hw=>bH bG (b2f 0 _ rfl _ _ w (hw.get 4 rfl)))) fun a hE=>S hE 1 rfl fun a hE=>aC ?_
   refine dK hE rfl (fun hc3=>?_) (fun hc3=>?_)
   ·replace hl1:=(it hc3).symm.trans hl1
    refine aG ?_
    obtain⟨x4,ex4,hl1⟩:=bnd hl1
    have hp:=hp.drew
    refine jS ([([],At0 Z ρ),([14],At1 Z ρ (Pt bp0 (.cells #[aV,aX,aY,aS,aN,aT,aP,(Iv p0.head),(Pv aO 0),aQ,(Iv p0.literals),(.bool p0.broken)] 65 (0,0))))]:Facts) (fun a w=>∃y25:Nat,∃y8:Value,Env 48 [(0,(Pv bp0 0)),(3,(Iv x2.1))] a∧Hp Z ρ (Pt y25 (.cells #[(Iv (p0.trail.length:Int))] 3 (0,0))::Pt aO (.cells #[rQ,rP] 68 (0,0))::aA 3 rQ x2.2.list::aA 4 rP x2.2.isin::Pt bp0 (.cells #[aV,aX,aY,aS,aN,aT,y8,(Iv p0.head),(Pv aO 0),aQ,(Iv p0.literals),(.bool p0.broken)] 65 (0,0))::aA 3 aV p0.value::aA 3 aX p0.level::aA 71 aY (List.map (hq (aF).2) (p0.reason:List (Option Nat)))::aA 3 aS p0.saved::cO 61 71 (78,3) aN aF (p0.watches:WD) none none::aA 3 aT p0.trail::aA 3 y8 x4::bT 25 3 aQ bF (p0.proof:(List (List Int)))::L) w) (by kernel_rfl) ⟨fun _=>⟨_,hp⟩,fun _=>⟨_,(hp.get 3 rfl)⟩,trivial⟩ (fun hS=>?_) ?_
    ·
     generalize w.drew=w at hS hp⊢
     refine Ts [0,1,2] hE hS rfl rfl (by kernel_rfl) fun a hE hS=>T0 3 hE hS rfl rfl rfl (by kernel_rfl) (fun _=>xf hE pU rfl rfl) fun a hE hS=>T 4 1 hE hS rfl rfl rfl (by kernel_rfl) (fun _=>xl hE bJ 0 rfl rfl rfl rfl) fun a hE hS=>Ts [5,6] hE hS rfl rfl (by kernel_rfl) fun a hE hS=>T0 7 hE hS rfl rfl rfl (by kernel_rfl) (fun _=>xf hE oD rfl rfl) fun a hE hS=>T 8 1 hE hS rfl rfl rfl (by kernel_rfl) (fun _=>xl hE bJ 0 rfl rfl rfl rfl) fun a hE hS=>T0 9 hE hS rfl rfl rfl (by kernel_rfl) (fun _=>dL rfl hE rfl (aA.len hp 9 rfl bC)) fun a hE hS=>?_
     refine W1 10 (by kernel_rfl) rfl ?_
     refine iP (wk0 rfl) rfl rfl hE hp rfl [(0,(Iv (p0.trail.length:Int)))] ⟨⟨rfl,rfl⟩,trivial⟩ [(Iv (p0.trail.length:Int))] 3 (fun w=>by simp[Instr.buildSlice,Instr.fill,Value.cells,go_sem]) ?_
     intro a w b4 hE hp
     have hp:=r13 hp
     refine aC (aI ⟨gp0 hp,gp 4 hp rfl,trivial⟩ fun hS=>?_)
     refine W1 11 (by kernel_rfl) rfl ?_
     refine lY (wk0 rfl) rfl rfl hE hp rfl bC rfl rfl 11 rfl rfl (l2:=[(p0.trail.length:Int)]) rfl (fun j u hj=>by have:=Hp.cN 0 rfl 0 _ (bV rfl) w hp j u hj;simpa using this) ex4 ?_
     intro v2 a w hE hp
     have hp:=r13 hp
     refine aC (aI ⟨gp0 hp,gp 4 hp rfl,trivial⟩ fun hS=>?_)
     refine Ts [12] hE hS rfl rfl (by kernel_rfl) fun a hE hS=>T0 13 hE hS rfl rfl rfl (by kernel_rfl) (fun _=>xf hE pU rfl rfl) fun a hE hS=>?_
     refine W1 14 (by kernel_rfl) rfl ?_
     refine oK (wk0 rfl) rfl hE hp rfl rfl rfl 4 rfl bJ.size_ (aA.cells hp 11 rfl) (aA.one hp 11 rfl) rfl [aV,aX,aY,aS,aN,aT,v2,(Iv p0.head),(Pv aO 0),aQ,(Iv p0.literals),(.bool p0.broken)] rfl ?_
     intro w hp
     have hp:=r13 hp
     refine aC (aI ⟨gp0 hp,dead (by kernel_rfl),trivial⟩ fun hS=>?_)
     exact eG (by kernel_rfl) ⟨_,_,hE.cut ⟨rfl,rfl,trivial⟩,hp⟩
    rintro a w ⟨y25,y8,hE,hp⟩
    refine aG (aB ?_)
    refine S hE 3 rfl fun a hE=>V hE hp rfl (xf hE fldty65_3 rfl rfl) fun a hE=>V hE hp rfl (xl hE bJ 4 rfl rfl rfl rfl) fun a hE=>S hE 1 rfl fun a hE=>?_
    obtain⟨x5,ex5,hl1⟩:=bnd hl1
    obtain⟨b5,b5o,b5r,b5v,b5f⟩:=aA.at hp 8 rfl bC ex5
    refine V hE hp rfl (aU rfl hE rfl rfl b5r) fun a hE=>V hE hp rfl (bD rfl hE rfl (fun w hw=>bH bG (b5f 0 _ rfl _ _ w (hw.get 8 rfl)))) fun a hE=>?_
    obtain⟨x6,ex6,hl1⟩:=bnd hl1
    refine Cl hE rfl rfl ent56 (nU bp0 (Sol.mk p0.value p0.level p0.reason p0.saved p0.watches p0.trail x4 p0.head x2.2 p0.proof p0.literals p0.broken) aV aX aY aS aN aF aT y8 aO rQ rP aQ bF x5 none ((((((((((((hp.get 12 rfl).get 4 rfl).get 4 rfl).get 4 rfl).get 12 rfl).get 12 rfl).get 12 rfl).get 12 rfl).get 12 rfl).get 12 rfl).get 12 rfl).get 12 rfl) x6 ex6) ⟨rfl,rfl,rfl,trivial⟩ fun v a w hR hE=>?_
    obtain⟨H8,vz2_level,vz2_reason,H7,rfl,hp⟩:=hR
    have hp:=r13 hp
    refine aC (aG ?_)
    refine aB (S hE 1 rfl fun a hE=>?_)
    refine aC (dE ?_)
    refine⟨_,(oj hl1).symm,fun hb=>?_⟩
    subst hb
    obtain rfl:=oj hm
    exact iH hE rfl rfl ⟨_,rfl,_,_,_,_,_,_,_,_,_,_,_,_,rfl,((hp.get 12 rfl).drop)⟩
   replace hl1:=(ie hc3).symm.trans hl1
   refine bP ?_
   exact⟨_,(oj hl1).symm,_,_,hE.cut ⟨rfl,trivial⟩,((((((((((((hp.get 11 rfl).get 3 rfl).get 3 rfl).get 3 rfl).get 11 rfl).get 11 rfl).get 11 rfl).get 11 rfl).get 11 rfl).get 11 rfl).get 11 rfl).get 11 rfl)⟩
  replace hl1:=(ie hc2).symm.trans hl1
  refine dR ?_
  refine⟨_,(oj hl1).symm,fun hbb=>?_⟩
  exact⟨_,hbb.symm,_,_,hE.cut trivial,((((((((((((hp.get 11 rfl).get 3 rfl).get 3 rfl).get 3 rfl).get 11 rfl).get 11 rfl).get 11 rfl).get 11 rfl).get 11 rfl).get 11 rfl).get 11 rfl).get 11 rfl)⟩
 rintro a w ⟨b1s,rfl,w10,w11,hE,hp⟩
 dsimp only at hm
 refine aG (aB ?_)
 refine S hE 1 rfl fun a hE=>aC (dE ?_)
 obtain rfl:=oj hm
 exact iH hE rfl rfl ⟨_,rfl,_,_,_,_,_,_,_,_,_,_,_,_,rfl,hp⟩
end Go.Proofs.Ytpkhmndpeipfmaa

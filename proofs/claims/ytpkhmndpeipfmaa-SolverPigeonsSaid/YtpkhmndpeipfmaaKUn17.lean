/- The code goes as its model: (*assessor/proof.engine).of, (*assessor/proof.engine).hold, (*assessor/proof.engine).propagate, (*assessor/proof.engine).add, (*asse -/
import Derived.Test.YtpkhmndpeipfmaaKUnT
import Derived.Test.YtpkhmndpeipfmaaKUn5
import Derived.Test.YtpkhmndpeipfmaaKUn6
import Derived.Test.YtpkhmndpeipfmaaKUn16
set_option linter.unusedVariables false
set_option linter.unusedSimpArgs false
set_option maxRecDepth 100000
set_option maxHeartbeats 4000000
namespace Go.Proofs.Ytpkhmndpeipfmaa
open Go.RowKit
theorem nZ {Z:World} {ρ:PH} {L:List bZ} {w:World} {li:Option Int} {ai:Option (Nat×Value)} (bp0:Nat) (p0:PEng) (aV:Value) (aT:Value) (aN:Value) (aF:List Sl×List Sl) (p1:Int) (hp:Hp Z ρ (Pt bp0 (.cells #[aV,aT,(Iv p0.head),aN,(.bool p0.fails)] 107 (0,0))::aA 3 aV p0.value::aA 3 aT p0.trail::fD 108 110 3 aN aF (p0.watches:WD) li ai::L) w) (r:Int) (hm:iU p0 p1=some r):
  Calls Try.prog 80 #[(Pv bp0 0),(Iv p1)] w (Ret fun v w'=>v=(Iv r)∧Hp Z ρ (Pt bp0 (.cells #[aV,aT,(Iv p0.head),aN,(.bool p0.fails)] 107 (0,0))::aA 3 aV p0.value::aA 3 aT p0.trail::fD 108 110 3 aN aF (p0.watches:WD) li ai::L) w'):=by
 refine enter (N:=20) Try.func80 rfl rfl [(0,(Pv bp0 0)),(1,(Iv p1))] rfl (bM ⟨rfl,rfl,trivial⟩) fun a hE=>?_
 unfold iU at hm
 refine aG (aB ?_)
 refine S hE 1 rfl fun a hE=>aC (aG ?_)
 refine aG (aB ?_)
 refine S hE 2 rfl fun a hE=>V hE hp rfl (xf hE aC9 rfl rfl) fun a hE=>V hE hp rfl (xl hE bJ 0 rfl rfl rfl rfl) fun a hE=>S hE 2 rfl fun a hE=>?_
 obtain⟨x1,ex1,hm⟩:=bnd hm
 refine V hE hp rfl (mX rfl hE rfl (aZ ex1)) fun a hE=>V hE hp rfl (v:=(Iv (max p1 x1))) (ex_max rfl hE rfl rfl) fun a hE=>?_
 obtain⟨x2,ex2,hm⟩:=bnd hm
 obtain⟨b1,b1o,b1r,b1v,b1f⟩:=aA.at hp 1 rfl bC ex2
 refine V hE hp rfl (aU rfl hE rfl rfl b1r) fun a hE=>V hE hp rfl (bD rfl hE rfl (fun w hw=>bH bG (b1f 0 _ rfl _ _ w (hw.get 1 rfl)))) fun a hE=>aC (dF ?_)
 refine aG (aB ?_)
 refine S hE 2 rfl fun a hE=>aC ?_
 refine dK hE rfl (fun hc1=>?_) (fun hc1=>?_)
 ·replace hm:=(it hc1).symm.trans hm
  refine aG (aB ?_)
  refine S hE 1 rfl fun a hE=>aC (dE ?_)
  obtain rfl:=oj hm
  exact iH hE rfl rfl ⟨_,rfl,rfl,hp⟩
 replace hm:=(ie hc1).symm.trans hm
 refine aG (aB ?_)
 refine S hE 3 rfl fun a hE=>aC ?_
 refine dK hE rfl (fun hc2=>?_) (fun hc2=>?_)
 ·replace hm:=(it hc2).symm.trans hm
  refine aG (aB ?_)
  refine S hE 1 rfl fun a hE=>aC (dE ?_)
  obtain rfl:=oj hm
  exact iH hE rfl rfl ⟨_,rfl,rfl,hp⟩
 replace hm:=(ie hc2).symm.trans hm
 refine bP (aG ?_)
 refine aB (S hE 1 rfl fun a hE=>?_)
 refine aC (dE ?_)
 obtain rfl:=oj hm
 exact iH hE rfl rfl ⟨_,rfl,rfl,hp⟩
theorem tJ {Z:World} {ρ:PH} {L:List bZ} {w:World} {li:Option Int} {ai:Option (Nat×Value)} (bp0:Nat) (p0:PEng) (aV:Value) (aT:Value) (aN:Value) (aF:List Sl×List Sl) (p1:Int) (hp:Hp Z ρ (Pt bp0 (.cells #[aV,aT,(Iv p0.head),aN,(.bool p0.fails)] 107 (0,0))::aA 3 aV p0.value::aA 3 aT p0.trail::fD 108 110 3 aN aF (p0.watches:WD) li ai::L) w) (r:PEng) (hm:kT p0 p1=some r):
  Calls Try.prog 81 #[(Pv bp0 0),(Iv p1)] w (Ret fun v w'=>∃(eQ:Value) (eP:Value),v= .tuple #[]∧Hp Z ρ (Pt bp0 (.cells #[eQ,eP,(Iv r.head),aN,(.bool r.fails)] 107 (0,0))::aA 3 eQ r.value::aA 3 eP r.trail::fD 108 110 3 aN aF (p0.watches:WD) li ai::L) w'):=by
 refine enter (N:=24) Try.func81 rfl rfl [(0,(Pv bp0 0)),(1,(Iv p1))] rfl (bM ⟨rfl,rfl,trivial⟩) fun a hE=>?_
 unfold kT at hm
 refine aG (aB ?_)
 refine S hE 2 rfl fun a hE=>V hE hp rfl (xf hE aC9 rfl rfl) fun a hE=>V hE hp rfl (xl hE bJ 0 rfl rfl rfl rfl) fun a hE=>S hE 2 rfl fun a hE=>?_
 obtain⟨x1,ex1,hm⟩:=bnd hm
 refine V hE hp rfl (mX rfl hE rfl (aZ ex1)) fun a hE=>V hE hp rfl (v:=(Iv (max p1 x1))) (ex_max rfl hE rfl rfl) fun a hE=>S hE 1 rfl fun a hE=>?_
 obtain⟨x2,ex2,hm⟩:=bnd hm
 obtain⟨b1,b1o,b1r,b1v,b1f⟩:=aA.at hp 1 rfl bC ex2
 refine V hE hp rfl (aU rfl hE rfl rfl b1r) fun a hE=>?_
 refine mY (wk0 rfl) rfl hE hp rfl rfl rfl 1 rfl ex2 b1v 0 (e':=p1) bG.size_ rfl rfl rfl ⟨rfl,rfl⟩ ?_
 intro w hp
 have hp:=r4 hp
 refine aC (aB ?_)
 refine S hE 3 rfl fun a hE=>V hE hp rfl (xf hE sF rfl rfl) fun a hE=>V hE hp rfl (xl hE bJ 0 rfl rfl rfl rfl) fun a hE=>S hE 1 rfl fun a hE=>?_
 refine iP (wk0 rfl) rfl rfl hE hp rfl [(0,(Iv p1))] ⟨⟨rfl,rfl⟩,trivial⟩ [(Iv p1)] 3 (fun w=>by simp[Instr.buildSlice,Instr.fill,Value.cells,go_sem]) ?_
 intro a w b2 hE hp
 have hp:=r5 hp
 obtain⟨x3,ex3,hm⟩:=bnd hm
 refine lY (wk0 rfl) rfl rfl hE hp rfl bC rfl rfl 3 rfl rfl (l2:=[p1]) rfl (fun j u hj=>by have:=Hp.cN 0 rfl 0 _ (bV rfl) w hp j u hj;simpa using this) ex3 ?_
 intro v1 a w hE hp
 have hp:=r5 hp
 refine S hE 1 rfl fun a hE=>V hE hp rfl (xf hE sF rfl rfl) fun a hE=>?_
 refine oK (wk0 rfl) rfl hE hp rfl rfl rfl 1 rfl bJ.size_ (aA.cells hp 3 rfl) (aA.one hp 3 rfl) rfl [aV,v1,(Iv p0.head),aN,(.bool p0.fails)] rfl ?_
 intro w hp
 have hp:=r5 hp
 refine aC ?_
 obtain rfl:=oj hm
 exact wZ hE rfl ⟨_,rfl,_,_,rfl,(hp.drop)⟩
theorem tY {Z:World} {ρ:PH} {L:List bZ} {w:World} (bp0:Nat) (p0:PEng) (aV:Value) (aT:Value) (aN:Value) (aF:List Sl×List Sl) (hp:Hp Z ρ (Pt bp0 (.cells #[aV,aT,(Iv p0.head),aN,(.bool p0.fails)] 107 (0,0))::aA 3 aV p0.value::aA 3 aT p0.trail::fD 108 110 3 aN aF (p0.watches:WD) none none::L) w) (r:(Bool×PEng)) (hm:iG p0=some r):
  Calls Try.prog 82 #[(Pv bp0 0)] w (Ret fun v w'=>∃(eQ:Value) (eP:Value) (dS:Value) (dQ:List Sl×List Sl),v=(.bool r.1)∧Hp Z ρ (Pt bp0 (.cells #[eQ,eP,(Iv r.2.head),dS,(.bool r.2.fails)] 107 (0,0))::aA 3 eQ r.2.value::aA 3 eP r.2.trail::fD 108 110 3 dS dQ (r.2.watches:WD) none none::L) w'):=by
 refine enter (N:=174) Try.func82 rfl rfl [(0,(Pv bp0 0))] rfl (bM ⟨rfl,trivial⟩) fun a hE=>?_
 unfold iG at hm
 refine aG (aB ?_)
 refine S hE 1 rfl fun a hE=>aC (aG ?_)
 obtain⟨b1,hc1,hm⟩:=bnd hm
 refine dH (fun a w=>∃s:(Int×Bool×(List Int)×(List Int)×WD),b1= .brk s∧(∃(w2:Value) (w3:Value) (w4:Value) (utw4:List Sl×List Sl),Env 174 [] a∧Hp Z ρ (Pt bp0 (.cells #[w2,w3,(Iv s.1),w4,(.bool s.2.1)] 107 (0,0))::aA 3 w2 s.2.2.1::aA 3 w3 s.2.2.2.1::fD 108 110 3 w4 utw4 (s.2.2.2.2:WD) none none::L) w)) ?_ ?_
 ·refine eU hc1 (fun s a w=>∃(w2:Value) (w3:Value) (w4:Value) (utw4:List Sl×List Sl),Env 174 [(0,(Pv bp0 0))] a∧Hp Z ρ (Pt bp0 (.cells #[w2,w3,(Iv s.1),w4,(.bool s.2.1)] 107 (0,0))::aA 3 w2 s.2.2.1::aA 3 w3 s.2.2.2.1::fD 108 110 3 w4 utw4 (s.2.2.2.2:WD) none none::L) w) ?_ ?_
  ·exact⟨_,_,_,aF,hE.cut ⟨rfl,trivial⟩,hp⟩
  rintro⟨aW,bU,dJ,jB,kD⟩ st a w ⟨w2,w3,w4,utw4,hE,hp⟩ hl1
  dsimp only at hE hp hl1
  unfold lK at hl1
  refine aG (aG ?_)
  refine oN (by kernel_rfl) (by kernel_rfl) hp ?_
  refine Sq hE 2 rfl fun a hE=>Vq hE rfl (xf hE yP rfl rfl) fun a hE=>Vq hE rfl (xl hE bG 0 rfl rfl rfl rfl) fun a hE=>Sq hE 2 rfl fun a hE=>Vq hE rfl (xf hE sF rfl rfl) fun a hE=>Vq hE rfl (xl hE bJ 0 rfl rfl rfl rfl) fun a hE=>Vq hE rfl (dL rfl hE rfl (aA.len hp 2 rfl bC)) fun a hE=>Sq hE 1 rfl fun a hE=>?_
  refine qR fun w hp=>?_
  have hp:=r4 hp
  refine dK hE rfl (fun hc2=>?_) (fun hc2=>?_)
  ·replace hl1:=(it hc2).symm.trans hl1
   refine bP (dF ?_)
   refine aG ?_
   refine oN (by kernel_rfl) (by kernel_rfl) hp ?_
   refine Sq hE 2 rfl fun a hE=>Vq hE rfl (xf hE sF rfl rfl) fun a hE=>Vq hE rfl (xl hE bJ 0 rfl rfl rfl rfl) fun a hE=>Sq hE 2 rfl fun a hE=>Vq hE rfl (xf hE yP rfl rfl) fun a hE=>Vq hE rfl (xl hE bG 0 rfl rfl rfl rfl) fun a hE=>?_
   obtain⟨x1,ex1,hl1⟩:=bnd hl1
   obtain⟨b2,b2o,b2r,b2v,b2f⟩:=aA.at hp 2 rfl bC ex1
   refine Vq hE rfl (aU rfl hE rfl rfl b2r) fun a hE=>Vq hE rfl (bD rfl hE rfl (fun w hw=>bH bG (b2f 0 _ rfl _ _ w (hw.get 2 rfl)))) fun a hE=>?_
   obtain⟨x2,ex2,hl1⟩:=bnd hl1
   refine Vq hE rfl (mX rfl hE rfl (aZ ex2)) fun a hE=>Sq hE 1 rfl fun a hE=>?_
   refine qR fun w hp=>?_
   have hp:=r4 hp
   refine aG (aB ?_)
   refine S hE 2 rfl fun a hE=>V hE hp rfl (xf hE yP rfl rfl) fun a hE=>V hE hp rfl (xl hE bG 0 rfl rfl rfl rfl) fun a hE=>?_
   obtain⟨x3,ex3,hl1⟩:=bnd hl1
   refine V hE hp rfl (dD rfl hE rfl rfl (aZ ex3)) fun a hE=>S hE 1 rfl fun a hE=>V hE hp rfl (xf hE yP rfl rfl) fun a hE=>?_
   refine dO (wk0 rfl) rfl hE hp rfl rfl rfl 0 rfl bG.size_ rfl (bY ⟨rfl,trivial⟩) [w2,w3,(Iv x3),w4,(.bool bU)] rfl ?_
   intro w hp
   have hp:=r4 hp
   refine aC ?_
   have hE:=hE.cut (E':=[(0,(Pv bp0 0)),(3,(Iv x2))]) ⟨rfl,rfl,trivial⟩
   refine aG ?_
   refine oN (by kernel_rfl) (by kernel_rfl) hp ?_
   refine Sq hE 2 rfl fun a hE=>Vq hE rfl (xf hE uP rfl rfl) fun a hE=>Vq hE rfl (xl hE yY 0 rfl rfl rfl rfl) fun a hE=>Sq hE 1 rfl fun a hE=>?_
   obtain⟨x4,ex4,hl1⟩:=bnd hl1
   refine yU (wk0 rfl) rfl rfl hE rfl [(Iv x2)] ⟨rfl,trivial⟩ zK (v:=(Iv x4)) (fun w hw=>Calls.mono (iQ x2 hw x4 ex4) fun e w' ⟨v,he,hv,hh⟩=>⟨by rw[he,hv],hh⟩) ?_
   intro a hE
   obtain⟨x5,ex5,hl1⟩:=bnd hl1
   obtain⟨b3u,b3,b3o,b3h,b3r,b3v,b3f⟩:=fD.hdr (hp.get 3 rfl) qL ex5
   refine Vq hE rfl (aU rfl hE rfl rfl b3r) fun a hE=>Vq hE rfl (bD rfl hE rfl (fun w hw=>bH oL (b3f 0 _ rfl _ _ w (hw.get 3 rfl)))) fun a hE=>Sq hE 1 rfl fun a hE=>?_
   refine qR fun w hp=>?_
   have hp:=r4 hp
   refine aG (aB ?_)
   refine S hE 1 rfl fun a hE=>?_
   have hp:=fD.lend b3h ex5 (hp.get 3 rfl)
   have hp:=r5 hp
   obtain⟨A1,A1r⟩:=aA.sl30 hp 0 rfl rG .i64 .i64
   have hp:=hp.emp (aA.nilA (α:=Sl) 110 A1)
   have hp:=r6 hp
   refine V hE hp rfl (v:=(.slice A1 0 0)) (ex_sl3 rfl hE rfl rfl rfl A1r) fun a hE=>S hE 1 rfl fun a hE=>aC (aG ?_)
   refine aG (aB ?_)
   refine S hE 1 rfl fun a hE=>V hE hp rfl (dL rfl hE rfl (OwnH.len hp 1 rfl rG)) fun a hE=>S hE 1 rfl fun a hE=>aC ?_
   obtain⟨b4,hc3,hl1⟩:=bnd hl1
   refine dH (fun a w=>∃s:((List Nat)×WD×Int×Bool×(List Int)×(List Int)),b4= .brk s∧(∃(w23:Value) (w4q:Value) (utw4q:List Sl×List Sl) (w2:Value) (w3:Value),Env 174 [(0,(Pv bp0 0)),(3,(Iv x2)),(5,w23)] a∧Hp Z ρ (aA 110 w23 (List.map (hd (utw4q).2) (s.1:List Nat))::aA 110 (Sl.v b3u) (List.map (hd (utw4q).2) (x5:List Nat))::fD 108 110 3 w4q utw4q (s.2.1:WD) (some (x4:Int)) none::Pt bp0 (.cells #[w2,w3,(Iv s.2.2.1),w4q,(.bool s.2.2.2.1)] 107 (0,0))::aA 3 w2 s.2.2.2.2.1::aA 3 w3 s.2.2.2.2.2::L) w)) ?_ ?_
   ·refine eU hc3 (fun s a w=>∃(w23:Value) (w4q:Value) (utw4q:List Sl×List Sl) (w2:Value) (w3:Value),Env 174 [(0,(Pv bp0 0)),(3,(Iv x2)),(4,(Sl.v b3u)),(5,w23),(48,(Sl.v b3u)),(49,(Iv (x5.length:Int))),(50,(Iv s.1))] a∧Hp Z ρ (aA 110 w23 (List.map (hd (utw4q).2) (s.2.1:List Nat))::aA 110 (Sl.v b3u) (List.map (hd (utw4q).2) (x5:List Nat))::fD 108 110 3 w4q utw4q (s.2.2.1:WD) (some (x4:Int)) none::Pt bp0 (.cells #[w2,w3,(Iv s.2.2.2.1),w4q,(.bool s.2.2.2.2.1)] 107 (0,0))::aA 3 w2 s.2.2.2.2.2.1::aA 3 w3 s.2.2.2.2.2.2::L) w) ?_ ?_
    ·exact⟨_,_,utw4,_,_,hE.cut ⟨rfl,rfl,rfl,rfl,rfl,rfl,rfl,trivial⟩,hp⟩
    rintro⟨dG,fB,gU,fM,iI,iR,iT⟩ st a w ⟨w23,w4q,utw4q,w2,w3,hE,hp⟩ hl2
    dsimp only at hE hp hl2
    unfold eX at hl2
    refine aG (aB ?_)
    refine S hE 1 rfl fun a hE=>aC (aG ?_)
    refine dK hE rfl (fun hc4=>?_) (fun hc4=>?_)
    ·replace hl2:=(it hc4).symm.trans hl2
     refine bP (aG ?_)
     refine dF (aG ?_)
     refine aB (S hE 1 rfl fun a hE=>?_)
     obtain⟨x6,ex6,hl2⟩:=bnd hl2
     obtain⟨b5,b5o,b5r,b5f⟩:=OwnH.at hp 1 rfl rG ex6
     refine V hE hp rfl (aU rfl hE rfl rfl b5r) fun a hE=>V hE hp rfl (bD rfl hE rfl (fun w hw=>gB (cs:=[(Sl.v (hd (utw4q).2 x6))]) X4 (fun j u hj=>b5f j u hj _ _ w (hw.get 1 rfl)))) fun a hE=>?_
     refine qB (wk0 rfl) rfl rfl hE hp rfl [N0] (fun w=>by simp[Instr.alloc,go_sem]<;>rfl) ?_
     intro a w b6 hE hp
     have hp:=r7 hp
     refine S hE 1 rfl fun a hE=>?_
     refine dO (wk0 rfl) rfl hE hp rfl rfl rfl 0 rfl X4.size_ rfl (bY ⟨(Sl.one _),trivial⟩) [(Sl.v (hd (utw4q).2 x6))] rfl ?_
     intro w hp
     have hp:=r7 hp
     refine aC (aG ?_)
     refine aB (V hE hp rfl (xf hE fldty110_0 rfl rfl) fun a hE=>?_)
     refine V hE hp rfl (xl hE bJ 0 rfl rfl rfl rfl) fun a hE=>S hE 1 rfl fun a hE=>aC (aG ?_)
     refine aG (aB ?_)
     refine S hE 1 rfl fun a hE=>?_
     obtain⟨x7,ex7,hl2⟩:=bnd hl2
     obtain⟨vc1,vc1h,hp⟩:=fD.take ex7 (hp.get 3 rfl)
     rw[vc1h] at hE
     try rw[vc1h] at hp
     have hp:=r8 hp
     obtain⟨x8,ex8,hl2⟩:=bnd hl2
     obtain⟨b7,b7o,b7r,b7v,b7f⟩:=aA.at hp 0 rfl bC ex8
     refine V hE hp rfl (aU rfl hE rfl rfl b7r) fun a hE=>V hE hp rfl (bD rfl hE rfl (fun w hw=>bH bG (b7f 0 _ rfl _ _ w (hw.get 0 rfl)))) fun a hE=>S hE 2 rfl fun a hE=>aC ?_
     have hE:=hE.cut (E':=[(0,(Pv bp0 0)),(3,(Iv x2)),(4,(Sl.v b3u)),(5,w23),(6,(Iv dG)),(7,(Pv b6 0)),(8,vc1),(48,(Sl.v b3u)),(49,(Iv (x5.length:Int))),(50,(Iv dG)),(61,(.bool (decide (x8=x2))))]) ⟨rfl,rfl,rfl,rfl,rfl,rfl,rfl,rfl,rfl,rfl,rfl,trivial⟩
     obtain⟨j1,hj1,hl2⟩:=bnd hl2
     refine k_cut (fun a w=>Env 174 [(0,(Pv bp0 0)),(3,(Iv x2)),(4,(Sl.v b3u)),(5,w23),(6,(Iv dG)),(7,(Pv b6 0)),(8,vc1),(48,(Sl.v b3u)),(49,(Iv (x5.length:Int))),(50,(Iv dG))] a∧Hp Z ρ (aA 3 vc1 j1::fD 108 110 3 w4q utw4q (gU:WD) (some (x4:Int)) (some ((x6,vc1):Nat×Value))::Pt b6 (.cells #[vc1] 110 (0,0))::aA 110 w23 (List.map (hd (utw4q).2) (fB:List Nat))::aA 110 (Sl.v b3u) (List.map (hd (utw4q).2) (x5:List Nat))::Pt bp0 (.cells #[w2,w3,(Iv fM),w4q,(.bool iI)] 107 (0,0))::aA 3 w2 iR::aA 3 w3 iT::L) w) ?_ ?_
     ·
      refine dK hE rfl (fun hc5=>?_) (fun hc5=>?_)
      ·replace hj1:=(it hc5).symm.trans hj1
       obtain⟨x9,ex9,hj1⟩:=bnd hj1
       obtain⟨x10,ex10,hj1⟩:=bnd hj1
       obtain⟨x11,ex11,hj1⟩:=bnd hj1
       obtain⟨x12,ex12,hj1⟩:=bnd hj1
       have hp:=hp.drew
       refine jS ([([],At0 Z ρ),([9,11],At1 Z ρ (aA 3 vc1 x7))]:Facts) (fun a w=>Env 174 [(0,(Pv bp0 0)),(3,(Iv x2)),(4,(Sl.v b3u)),(5,w23),(6,(Iv dG)),(7,(Pv b6 0)),(8,vc1),(48,(Sl.v b3u)),(49,(Iv (x5.length:Int))),(50,(Iv dG))] a∧Hp Z ρ (aA 3 vc1 ((x7.set (0:Int).toNat x9).set (1:Int).toNat x10)::fD 108 110 3 w4q utw4q (gU:WD) (some (x4:Int)) (some ((x6,vc1):Nat×Value))::Pt b6 (.cells #[vc1] 110 (0,0))::aA 110 w23 (List.map (hd (utw4q).2) (fB:List Nat))::aA 110 (Sl.v b3u) (List.map (hd (utw4q).2) (x5:List Nat))::Pt bp0 (.cells #[w2,w3,(Iv fM),w4q,(.bool iI)] 107 (0,0))::aA 3 w2 iR::aA 3 w3 iT::L) w) (by kernel_rfl) ⟨fun _=>⟨_,hp⟩,fun _=>⟨_,(hp.get 0 rfl)⟩,trivial⟩ (fun hS=>?_) ?_
       ·
        generalize w.drew=w at hS hp⊢
        refine Ts [0,1,2] hE hS rfl rfl (by kernel_rfl) fun a hE hS=>?_
        obtain⟨b12,b12o,b12r,b12v,b12f⟩:=aA.at hp 0 rfl bC ex9
        refine T0 3 hE hS rfl rfl rfl (by kernel_rfl) (fun _=>aU rfl hE rfl rfl b12r) fun a hE hS=>T 4 1 hE hS rfl rfl rfl (by kernel_rfl) (fun _=>bD rfl hE rfl (fun w hw=>bH bG (b12f 0 _ rfl _ _ w (hw.get 0 rfl)))) fun a hE hS=>Ts [5] hE hS rfl rfl (by kernel_rfl) fun a hE hS=>?_
        obtain⟨b13,b13o,b13r,b13v,b13f⟩:=aA.at hp 0 rfl bC ex10
        refine T0 6 hE hS rfl rfl rfl (by kernel_rfl) (fun _=>aU rfl hE rfl rfl b13r) fun a hE hS=>T 7 1 hE hS rfl rfl rfl (by kernel_rfl) (fun _=>bD rfl hE rfl (fun w hw=>bH bG (b13f 0 _ rfl _ _ w (hw.get 0 rfl)))) fun a hE hS=>?_
        obtain⟨b14,b14o,b14r,b14v,b14f⟩:=aA.at hp 0 rfl bC ex11
        refine T0 8 hE hS rfl rfl rfl (by kernel_rfl) (fun _=>aU rfl hE rfl rfl b14r) fun a hE hS=>?_
        refine W1 9 (by kernel_rfl) rfl ?_
        refine mY (wk0 rfl) rfl hE hp rfl rfl rfl 0 rfl ex11 b14v 0 (e':=x9) bG.size_ rfl rfl rfl ⟨rfl,rfl⟩ ?_
        intro w hp
        have hp:=r8 hp
        refine aC (aI ⟨gp0 hp,dead (by kernel_rfl),trivial⟩ fun hS=>?_)
        obtain⟨b15,b15o,b15r,b15v,b15f⟩:=aA.at hp 0 rfl bC ex12
        refine T0 10 hE hS rfl rfl rfl (by kernel_rfl) (fun _=>aU rfl hE rfl rfl b15r) fun a hE hS=>?_
        refine W1 11 (by kernel_rfl) rfl ?_
        refine mY (wk0 rfl) rfl hE hp rfl rfl rfl 0 rfl ex12 b15v 0 (e':=x10) bG.size_ rfl rfl rfl ⟨rfl,rfl⟩ ?_
        intro w hp
        have hp:=r8 hp
        refine aC (aI ⟨gp0 hp,dead (by kernel_rfl),trivial⟩ fun hS=>?_)
        exact eG (by kernel_rfl) ⟨hE.cut ⟨rfl,rfl,rfl,rfl,rfl,rfl,rfl,rfl,rfl,rfl,trivial⟩,hp⟩
       rintro a w ⟨hE,hp⟩
       obtain rfl:=oj hj1
       exact⟨hE.cut ⟨rfl,rfl,rfl,rfl,rfl,rfl,rfl,rfl,rfl,rfl,trivial⟩,hp⟩
      replace hj1:=(ie hc5).symm.trans hj1
      refine bP ?_
      obtain rfl:=oj hj1
      exact⟨hE.cut ⟨rfl,rfl,rfl,rfl,rfl,rfl,rfl,rfl,rfl,rfl,trivial⟩,hp⟩
     rintro a w ⟨hE,hp⟩
     refine aG (aB ?_)
     refine S hE 1 rfl fun a hE=>aC (aG ?_)
     obtain⟨b16,hc6,hl2⟩:=bnd hl2
     refine dH (fun a w=>Env 174 [(0,(Pv bp0 0)),(3,(Iv x2)),(4,(Sl.v b3u)),(5,w23),(6,(Iv dG)),(7,(Pv b6 0)),(8,vc1),(9,(Iv b16)),(48,(Sl.v b3u)),(49,(Iv (x5.length:Int))),(50,(Iv dG))] a∧Hp Z ρ (aA 3 vc1 j1::fD 108 110 3 w4q utw4q (gU:WD) (some (x4:Int)) (some ((x6,vc1):Nat×Value))::Pt b6 (.cells #[vc1] 110 (0,0))::aA 110 w23 (List.map (hd (utw4q).2) (fB:List Nat))::aA 110 (Sl.v b3u) (List.map (hd (utw4q).2) (x5:List Nat))::Pt bp0 (.cells #[w2,w3,(Iv fM),w4q,(.bool iI)] 107 (0,0))::aA 3 w2 iR::aA 3 w3 iT::L) w) ?_ ?_
     ·refine eU hc6 (fun s a w=>Env 174 [(0,(Pv bp0 0)),(3,(Iv x2)),(4,(Sl.v b3u)),(5,w23),(6,(Iv dG)),(7,(Pv b6 0)),(8,vc1),(9,(Iv s)),(48,(Sl.v b3u)),(49,(Iv (x5.length:Int))),(50,(Iv dG))] a∧Hp Z ρ (aA 3 vc1 j1::fD 108 110 3 w4q utw4q (gU:WD) (some (x4:Int)) (some ((x6,vc1):Nat×Value))::Pt b6 (.cells #[vc1] 110 (0,0))::aA 110 w23 (List.map (hd (utw4q).2) (fB:List Nat))::aA 110 (Sl.v b3u) (List.map (hd (utw4q).2) (x5:List Nat))::Pt bp0 (.cells #[w2,w3,(Iv fM),w4q,(.bool iI)] 107 (0,0))::aA 3 w2 iR::aA 3 w3 iT::L) w) ?_ ?_
      ·exact⟨hE.cut ⟨rfl,rfl,rfl,rfl,rfl,rfl,rfl,rfl,rfl,rfl,rfl,trivial⟩,hp⟩
      rintro lN st a w ⟨hE,hp⟩ hl3
      unfold fQ at hl3
      refine aG (aG ?_)
      refine aB (S hE 2 rfl fun a hE=>?_)
      refine V hE hp rfl (dL rfl hE rfl (aA.len hp 0 rfl bC)) fun a hE=>S hE 2 rfl fun a hE=>?_
      obtain⟨m1,hg1,hl3⟩:=bnd hl3
      refine lZ [_,_,_,_,_,_,_,_] (fun a w=>Env 174 [(84,(.bool m1)),(0,(Pv bp0 0)),(3,(Iv x2)),(4,(Sl.v b3u)),(5,w23),(6,(Iv dG)),(7,(Pv b6 0)),(8,vc1),(9,(Iv lN)),(48,(Sl.v b3u)),(49,(Iv (x5.length:Int))),(50,(Iv dG))] a∧Hp Z ρ (aA 3 vc1 j1::fD 108 110 3 w4q utw4q (gU:WD) (some (x4:Int)) (some ((x6,vc1):Nat×Value))::Pt b6 (.cells #[vc1] 110 (0,0))::aA 110 w23 (List.map (hd (utw4q).2) (fB:List Nat))::aA 110 (Sl.v b3u) (List.map (hd (utw4q).2) (x5:List Nat))::Pt bp0 (.cells #[w2,w3,(Iv fM),w4q,(.bool iI)] 107 (0,0))::aA 3 w2 iR::aA 3 w3 iT::L) w) ?_ ?_
      ·rcases Bool.eq_false_or_eq_true (decide (lN<(j1.length:Int))) with hc7|hc7
       ·
        replace hg1:=(it hc7).symm.trans hg1
        refine Gs hE hc7 rfl rfl fun a hE=>Gs hE hc7 rfl rfl fun a hE=>Gs hE hc7 rfl rfl fun a hE=>?_
        obtain⟨x13,ex13,hg1⟩:=bnd hg1
        obtain⟨b17,b17o,b17r,b17v,b17f⟩:=aA.at hp 0 rfl bC ex13
        refine G hE hp hc7 rfl (aU rfl hE rfl rfl b17r) fun a hE=>G hE hp hc7 rfl (bD rfl hE rfl (fun w hw=>bH bG (b17f 0 _ rfl _ _ w (hw.get 0 rfl)))) fun a hE=>?_
        obtain⟨x14,ex14,hg1⟩:=bnd hg1
        refine Cg hE hc7 rfl rfl ent80 (nZ bp0 (PEng.mk iR iT fM gU iI) w2 w3 w4q utw4q x13 ((((hp.get 1 rfl).get 7 rfl).get 7 rfl).get 7 rfl) x14 ex14) ⟨rfl,rfl,trivial⟩ fun v a w hR hE=>?_
        obtain⟨rfl,hp⟩:=hR
        have hp:=r8 hp
        refine Gs hE hc7 rfl rfl fun a hE=>pk1 hE hc7 rfl rfl rfl rfl fun a hE=>?_
        obtain rfl:=oj hg1
        exact aC ⟨hE.cut ⟨rfl,rfl,rfl,rfl,rfl,rfl,rfl,rfl,rfl,rfl,rfl,rfl,trivial⟩,((((((((hp.get 2 rfl).get 2 rfl).get 2 rfl).get 7 rfl).get 7 rfl).get 7 rfl).get 6 rfl).get 7 rfl)⟩
       replace hg1:=(ie hc7).symm.trans hg1
       refine Gk hE hc7 rfl fun a hE=>Gk hE hc7 rfl fun a hE=>Gk hE hc7 rfl fun a hE=>Gk hE hc7 rfl fun a hE=>Gk hE hc7 rfl fun a hE=>Gk hE hc7 rfl fun a hE=>Gk hE hc7 rfl fun a hE=>pk0 hE hc7 rfl rfl rfl rfl fun a hE=>?_
       obtain rfl:=oj hg1
       exact aC ⟨hE.cut ⟨rfl,rfl,rfl,rfl,rfl,rfl,rfl,rfl,rfl,rfl,rfl,rfl,trivial⟩,hp⟩
      rintro a w ⟨hE,hp⟩
      refine aC ?_
      refine dK hE rfl (fun hc8=>?_) (fun hc8=>?_)
      ·replace hl3:=(it hc8).symm.trans hl3
       refine bP (dF ?_)
       refine aB (S hE 1 rfl fun a hE=>?_)
       obtain⟨x15,ex15,hl3⟩:=bnd hl3
       refine V hE hp rfl (dD rfl hE rfl rfl (aZ ex15)) fun a hE=>S hE 1 rfl fun a hE=>aC ?_
       exact⟨_,(oj hl3).symm,hE.cut ⟨rfl,rfl,rfl,rfl,rfl,rfl,rfl,rfl,rfl,rfl,rfl,trivial⟩,hp⟩
      replace hl3:=(ie hc8).symm.trans hl3
      refine dR ?_
      refine⟨_,(oj hl3).symm,fun hbb=>?_⟩
      subst hbb
      exact⟨hE.cut ⟨rfl,rfl,rfl,rfl,rfl,rfl,rfl,rfl,rfl,rfl,rfl,trivial⟩,hp⟩
     rintro a w ⟨hE,hp⟩
     refine dF (aG ?_)
     refine aB (S hE 2 rfl fun a hE=>?_)
     obtain⟨x16,ex16,hl2⟩:=bnd hl2
     obtain⟨b18,b18o,b18r,b18v,b18f⟩:=aA.at hp 0 rfl bC ex16
     refine V hE hp rfl (aU rfl hE rfl rfl b18r) fun a hE=>V hE hp rfl (bD rfl hE rfl (fun w hw=>bH bG (b18f 0 _ rfl _ _ w (hw.get 0 rfl)))) fun a hE=>?_
     obtain⟨x17,ex17,hl2⟩:=bnd hl2
     refine Cl hE rfl rfl ent80 (nZ bp0 (PEng.mk iR iT fM gU iI) w2 w3 w4q utw4q x16 ((((hp.get 1 rfl).get 7 rfl).get 7 rfl).get 7 rfl) x17 ex17) ⟨rfl,rfl,trivial⟩ fun v a w hR hE=>?_
     obtain⟨rfl,hp⟩:=hR
     have hp:=r8 hp
     refine S hE 2 rfl fun a hE=>aC ?_
     refine dK hE rfl (fun hc9=>?_) (fun hc9=>?_)
     ·replace hl2:=(it hc9).symm.trans hl2
      refine aB (S hE 1 rfl fun a hE=>?_)
      refine V hE hp rfl (bD rfl hE rfl (fun w hw=>gB (cs:=[vc1]) X4 (Hp.cN 5 rfl 0 _ (bV rfl) w hw))) fun a hE=>?_
      refine iP (wk0 rfl) rfl rfl hE hp rfl [(0,(.agg #[vc1]))] ⟨⟨rfl,rfl⟩,trivial⟩ [vc1] 110 (fun w=>by have hc0:=aA.cells hp 4 rfl;simp only[Value.cells] at hc0;simp[Instr.buildSlice,Instr.fill,Value.cells,hc0,go_sem]) ?_
      intro a w b19 hE hp
      have hp:=r9 hp
      obtain⟨x18,ex18,hl2⟩:=bnd hl2
      have hwx18:=fD.away hp 4 rfl
      refine lY (wk0 rfl) rfl rfl hE hp rfl rG rfl rfl 7 rfl rfl (l2:=List.map (hd (utw4q).2) ([x6]:List Nat)) rfl (fun j u hj=>by have:=Hp.cN 0 rfl 0 _ (bV rfl) w hp j u (by simpa[flat,Enc.enc,hwx18] using hj);simpa using this) (qI ex18) ?_
      intro v1 a w hE hp
      have hp:=r9 hp
      refine S hE 1 rfl fun a hE=>aC ?_
      have hE:=hE.cut (E':=[(0,(Pv bp0 0)),(3,(Iv x2)),(4,(Sl.v b3u)),(5,v1),(48,(Sl.v b3u)),(49,(Iv (x5.length:Int))),(50,(Iv dG))]) ⟨rfl,rfl,rfl,rfl,rfl,rfl,rfl,trivial⟩
      refine aB ?_
      obtain⟨x19,ex19,hl2⟩:=bnd hl2
      refine V hE hp rfl (dD rfl hE rfl rfl (aZ ex19)) fun a hE=>S hE 1 rfl fun a hE=>aC ?_
      have hp:=(hp.get 0 rfl).drop
      have hp:=(hp.get 5 rfl).drop
      have hp:=fD.back ((hp.get 3 rfl).get 4 rfl)
      have hp:=r6 hp
      exact⟨_,(oj hl2).symm,_,_,utw4q,_,_,hE.cut ⟨rfl,rfl,rfl,rfl,rfl,rfl,rfl,trivial⟩,((((((hp.get 3 rfl).get 3 rfl).get 3 rfl).get 3 rfl).get 5 rfl).get 5 rfl)⟩
     replace hl2:=(ie hc9).symm.trans hl2
     refine aG (aB ?_)
     refine S hE 2 rfl fun a hE=>V hE hp rfl (dL rfl hE rfl (aA.len hp 4 rfl bC)) fun a hE=>S hE 2 rfl fun a hE=>aC ?_
     refine dK hE rfl (fun hc10=>?_) (fun hc10=>?_)
     ·replace hl2:=(it hc10).symm.trans hl2
      refine aG ?_
      obtain⟨x20,ex20,hl2⟩:=bnd hl2
      obtain⟨x21,ex21,hl2⟩:=bnd hl2
      obtain⟨x22,ex22,hl2⟩:=bnd hl2
      obtain⟨x23,ex23,hl2⟩:=bnd hl2
      have hp:=hp.drew
      refine jS ([([],At0 Z ρ),([11,13],At1 Z ρ (aA 3 vc1 j1))]:Facts) (fun a w=>Env 174 [(0,(Pv bp0 0)),(3,(Iv x2)),(4,(Sl.v b3u)),(5,w23),(7,(Pv b6 0)),(8,vc1),(48,(Sl.v b3u)),(49,(Iv (x5.length:Int))),(50,(Iv dG))] a∧Hp Z ρ (Pt bp0 (.cells #[w2,w3,(Iv fM),w4q,(.bool iI)] 107 (0,0))::aA 3 w2 iR::aA 3 w3 iT::fD 108 110 3 w4q utw4q (gU:WD) (some (x4:Int)) (some ((x6,vc1):Nat×Value))::aA 3 vc1 ((j1.set (1:Int).toNat x20).set b16.toNat x21)::Pt b6 (.cells #[vc1] 110 (0,0))::aA 110 w23 (List.map (hd (utw4q).2) (fB:List Nat))::aA 110 (Sl.v b3u) (List.map (hd (utw4q).2) (x5:List Nat))::L) w) (by kernel_rfl) ⟨fun _=>⟨_,hp⟩,fun _=>⟨_,(hp.get 4 rfl)⟩,trivial⟩ (fun hS=>?_) ?_
      ·
       generalize w.drew=w at hS hp⊢
       refine Ts [0,1,2,3,4] hE hS rfl rfl (by kernel_rfl) fun a hE hS=>?_
       obtain⟨b24,b24o,b24r,b24v,b24f⟩:=aA.at hp 4 rfl bC ex20
       refine T0 5 hE hS rfl rfl rfl (by kernel_rfl) (fun _=>aU rfl hE rfl rfl b24r) fun a hE hS=>T 6 1 hE hS rfl rfl rfl (by kernel_rfl) (fun _=>bD rfl hE rfl (fun w hw=>bH bG (b24f 0 _ rfl _ _ w (hw.get 0 rfl)))) fun a hE hS=>Ts [7] hE hS rfl rfl (by kernel_rfl) fun a hE hS=>?_
       obtain⟨b25,b25o,b25r,b25v,b25f⟩:=aA.at hp 4 rfl bC ex21
       refine T0 8 hE hS rfl rfl rfl (by kernel_rfl) (fun _=>aU rfl hE rfl rfl b25r) fun a hE hS=>T 9 1 hE hS rfl rfl rfl (by kernel_rfl) (fun _=>bD rfl hE rfl (fun w hw=>bH bG (b25f 0 _ rfl _ _ w (hw.get 0 rfl)))) fun a hE hS=>?_
       obtain⟨b26,b26o,b26r,b26v,b26f⟩:=aA.at hp 4 rfl bC ex22
       refine T0 10 hE hS rfl rfl rfl (by kernel_rfl) (fun _=>aU rfl hE rfl rfl b26r) fun a hE hS=>?_
       refine W1 11 (by kernel_rfl) rfl ?_
       refine mY (wk0 rfl) rfl hE hp rfl rfl rfl 4 rfl ex22 b26v 0 (e':=x20) bG.size_ rfl rfl rfl ⟨rfl,rfl⟩ ?_
       intro w hp
       have hp:=r8 hp
       refine aC (aI ⟨gp0 hp,dead (by kernel_rfl),trivial⟩ fun hS=>?_)
       obtain⟨b27,b27o,b27r,b27v,b27f⟩:=aA.at hp 4 rfl bC ex23
       refine T0 12 hE hS rfl rfl rfl (by kernel_rfl) (fun _=>aU rfl hE rfl rfl b27r) fun a hE hS=>?_
       refine W1 13 (by kernel_rfl) rfl ?_
       refine mY (wk0 rfl) rfl hE hp rfl rfl rfl 4 rfl ex23 b27v 0 (e':=x21) bG.size_ rfl rfl rfl ⟨rfl,rfl⟩ ?_
       intro w hp
       have hp:=r8 hp
       refine aC (aI ⟨gp0 hp,dead (by kernel_rfl),trivial⟩ fun hS=>?_)
       exact eG (by kernel_rfl) ⟨hE.cut ⟨rfl,rfl,rfl,rfl,rfl,rfl,rfl,rfl,rfl,trivial⟩,hp⟩
      rintro a w ⟨hE,hp⟩
      obtain⟨x24,ex24,hl2⟩:=bnd hl2
      obtain⟨x25,ex25,hl2⟩:=bnd hl2
      obtain⟨x26,ex26,hl2⟩:=bnd hl2
      obtain⟨x27,ex27,hl2⟩:=bnd hl2
      obtain⟨x28,ex28,hl2⟩:=bnd hl2
      obtain⟨x29,ex29,hl2⟩:=bnd hl2
      obtain⟨x30,ex30,hl2⟩:=bnd hl2
      obtain⟨x31,ex31,hl2⟩:=bnd hl2
      have hp:=hp.drew
      refine jS ([([],At0 Z ρ),([],At1 Z ρ (Pt bp0 (.cells #[w2,w3,(Iv fM),w4q,(.bool iI)] 107 (0,0)))),([20,22],At1 Z ρ (fD 108 110 3 w4q utw4q (gU:WD) (some (x4:Int)) (some ((x6,vc1):Nat×Value)))),([],At1 Z ρ (aA 3 vc1 ((j1.set (1:Int).toNat x20).set b16.toNat x21))),([],At1 Z ρ (Pt b6 (.cells #[vc1] 110 (0,0))))]:Facts) (fun a w=>∃yut4:List Sl×List Sl,∃y33:Nat,Env 174 [(0,(Pv bp0 0)),(3,(Iv x2)),(4,(Sl.v b3u)),(5,w23),(48,(Sl.v b3u)),(49,(Iv (x5.length:Int))),(50,(Iv dG))] a∧Hp Z ρ (fD 108 110 3 w4q yut4 ((gU.1.set x27.toNat x30,gU.2):WD) (some (x4:Int)) (some ((x6,vc1):Nat×Value))::Pt y33 (.cells #[vc1] 110 (0,0))::Pt bp0 (.cells #[w2,w3,(Iv fM),w4q,(.bool iI)] 107 (0,0))::aA 3 w2 iR::aA 3 w3 iT::aA 3 vc1 ((j1.set (1:Int).toNat x20).set b16.toNat x21)::Pt b6 (.cells #[vc1] 110 (0,0))::aA 110 w23 (List.map (hd (yut4).2) (fB:List Nat))::aA 110 (Sl.v b3u) (List.map (hd (yut4).2) (x5:List Nat))::L) w) (by kernel_rfl) ⟨fun _=>⟨_,hp⟩,fun _=>⟨_,(hp.get 0 rfl)⟩,fun _=>⟨_,(hp.get 3 rfl)⟩,fun _=>⟨_,(hp.get 4 rfl)⟩,fun _=>⟨_,(hp.get 5 rfl)⟩,trivial⟩ (fun hS=>?_) ?_
      ·
       generalize w.drew=w at hS hp⊢
       refine Ts [0,1] hE hS rfl rfl (by kernel_rfl) fun a hE hS=>T0 2 hE hS rfl rfl rfl (by kernel_rfl) (fun _=>xf hE uP rfl rfl) fun a hE hS=>T 3 1 hE hS rfl rfl rfl (by kernel_rfl) (fun _=>xl hE yY 0 rfl rfl rfl rfl) fun a hE hS=>Ts [4] hE hS rfl rfl (by kernel_rfl) fun a hE hS=>?_
       obtain⟨b33,b33o,b33r,b33v,b33f⟩:=aA.at hp 4 rfl bC ex24
       refine T0 5 hE hS rfl rfl rfl (by kernel_rfl) (fun _=>aU rfl hE rfl rfl b33r) fun a hE hS=>T 6 3 hE hS rfl rfl rfl (by kernel_rfl) (fun _=>bD rfl hE rfl (fun w hw=>bH bG (b33f 0 _ rfl _ _ w (hw.get 0 rfl)))) fun a hE hS=>Ts [8,9] hE hS rfl rfl (by kernel_rfl) fun a hE hS=>T0 10 hE hS rfl rfl rfl (by kernel_rfl) (fun _=>xf hE uP rfl rfl) fun a hE hS=>T 11 1 hE hS rfl rfl rfl (by kernel_rfl) (fun _=>xl hE yY 0 rfl rfl rfl rfl) fun a hE hS=>Ts [12] hE hS rfl rfl (by kernel_rfl) fun a hE hS=>?_
       obtain⟨b34,b34o,b34r,b34v,b34f⟩:=aA.at hp 4 rfl bC ex26
       refine T0 13 hE hS rfl rfl rfl (by kernel_rfl) (fun _=>aU rfl hE rfl rfl b34r) fun a hE hS=>T 14 3 hE hS rfl rfl rfl (by kernel_rfl) (fun _=>bD rfl hE rfl (fun w hw=>bH bG (b34f 0 _ rfl _ _ w (hw.get 0 rfl)))) fun a hE hS=>T 18 4 hE hS rfl rfl rfl (by kernel_rfl) (fun _=>bD rfl hE rfl (fun w hw=>gB (cs:=[vc1]) X4 (Hp.cN 0 rfl 0 _ (bV rfl) w hw))) fun a hE hS=>?_
       refine jH [7,19] (by kernel_rfl) rfl ?_
       refine List.forall_mem_cons.2 ⟨?_,List.forall_mem_cons.2 ⟨?_,fun _ h=>absurd h (by simp)⟩⟩
       ·
        refine dZ rfl ?_
        refine Cl hE rfl rfl zK (iQ x24 hp x25 ex25) ⟨rfl,trivial⟩ fun v a w hR hE=>?_
        obtain⟨rfl,hp⟩:=hR
        have hp:=r8 hp
        refine aC (aI ⟨gp0 hp,gp 0 hp rfl,gp 3 hp rfl,gp 4 hp rfl,gp 5 hp rfl,trivial⟩ fun hS=>?_)
        refine jH [15,19] (by kernel_rfl) rfl ?_
        refine List.forall_mem_cons.2 ⟨?_,List.forall_mem_cons.2 ⟨?_,fun _ h=>absurd h (by simp)⟩⟩
        ·
         refine dZ rfl ?_
         refine Cl hE rfl rfl zK (iQ x26 hp x27 ex27) ⟨rfl,trivial⟩ fun v a w hR hE=>?_
         obtain⟨rfl,hp⟩:=hR
         have hp:=r8 hp
         refine aC (aI ⟨gp0 hp,gp 0 hp rfl,gp 3 hp rfl,gp 4 hp rfl,gp 5 hp rfl,trivial⟩ fun hS=>?_)
         obtain⟨b35u,b35,b35o,b35h,b35r,b35v,b35f⟩:=fD.hdr (hp.get 3 rfl) qL ex28
         refine T0 16 hE hS rfl rfl rfl (by kernel_rfl) (fun _=>aU rfl hE rfl rfl b35r) fun a hE hS=>T 17 2 hE hS rfl rfl rfl (by kernel_rfl) (fun _=>bD rfl hE rfl (fun w hw=>bH oL (b35f 0 _ rfl _ _ w (hw.get 0 rfl)))) fun a hE hS=>?_
         refine W1 19 (by kernel_rfl) rfl ?_
         refine iP (wk0 rfl) rfl rfl hE hp rfl [(0,(.agg #[vc1]))] ⟨⟨rfl,rfl⟩,trivial⟩ [vc1] 110 (fun w=>by have hc0:=aA.cells hp 4 rfl;simp only[Value.cells] at hc0;simp[Instr.buildSlice,Instr.fill,Value.cells,hc0,go_sem]) ?_
         intro a w b36 hE hp
         have hp:=r9 hp
         refine aC (aI ⟨gp0 hp,gp 1 hp rfl,gp 4 hp rfl,gp 5 hp rfl,gp 6 hp rfl,trivial⟩ fun hS=>?_)
         refine W1 20 (by kernel_rfl) rfl ?_
         have nx29:neL x27 (some (x4:Int)):=sV ex29
         have hp:=fD.takeRow nx29 b35h ex28 (hp.get 4 rfl)
         have hp:=r10 hp
         have hwx30:=Q7.away hp 1 rfl
         refine lY (wk0 rfl) rfl rfl hE hp rfl rG rfl rfl 0 rfl rfl (l2:=List.map (hd (utw4q).2) ([x6]:List Nat)) rfl (fun j u hj=>by have:=Hp.cN 2 rfl 0 _ (bV rfl) w hp j u (by simpa[flat,Enc.enc,hwx30] using hj);simpa using this) (qI ex30) ?_
         intro v3 a w hE hp
         have hp:=r10 hp
         refine aC (aI ⟨gp0 hp,gp 3 hp rfl,dead (by kernel_rfl),gp 6 hp rfl,gp 7 hp rfl,trivial⟩ fun hS=>?_)
         obtain⟨b37,b37o,b37r,b37v⟩:=Q7.adr (hp.get 1 rfl) qL b35h
         rw[←gQ ex31] at b37r
         refine T0 21 hE hS rfl rfl rfl (by kernel_rfl) (fun _=>aU rfl hE rfl rfl b37r) fun a hE hS=>?_
         refine W1 22 (by kernel_rfl) rfl ?_
         obtain⟨sl2,sl2e⟩:=aA.toSl hp 0 rfl
         refine s_wput (wk0 rfl) rfl hE sl2e ((hp.get 1 rfl).get 1 rfl) rfl rfl rfl nx29 b35h ex28 b37v oL.size_ ?_
         intro w hp
         have hp:=r9 hp
         refine aC (aI ⟨gp0 hp,gp 2 hp rfl,dead (by kernel_rfl),gp 5 hp rfl,gp 6 hp rfl,trivial⟩ fun hS=>?_)
         exact eG (by kernel_rfl) ⟨(utw4q.1.set x27.toNat sl2,utw4q.2),_,hE.cut ⟨rfl,rfl,rfl,rfl,rfl,rfl,rfl,trivial⟩,hp⟩
        refine dZ rfl ?_
        refine iP (wk0 rfl) rfl rfl hE hp rfl [(0,(.agg #[vc1]))] ⟨⟨rfl,rfl⟩,trivial⟩ [vc1] 110 (fun w=>by have hc0:=aA.cells hp 4 rfl;simp only[Value.cells] at hc0;simp[Instr.buildSlice,Instr.fill,Value.cells,hc0,go_sem]) ?_
        intro a w b38 hE hp
        have hp:=r9 hp
        refine aC (aI ⟨gp0 hp,gp 1 hp rfl,gp 4 hp rfl,gp 5 hp rfl,gp 6 hp rfl,trivial⟩ fun hS=>?_)
        refine W1 15 (by kernel_rfl) rfl ?_
        refine Cl hE rfl rfl zK (iQ x26 hp x27 ex27) ⟨rfl,trivial⟩ fun v a w hR hE=>?_
        obtain⟨rfl,hp⟩:=hR
        have hp:=r9 hp
        refine aC (aI ⟨gp0 hp,gp 1 hp rfl,gp 4 hp rfl,gp 5 hp rfl,gp 6 hp rfl,trivial⟩ fun hS=>?_)
        obtain⟨b39u,b39,b39o,b39h,b39r,b39v,b39f⟩:=fD.hdr (hp.get 4 rfl) qL ex28
        refine T0 16 hE hS rfl rfl rfl (by kernel_rfl) (fun _=>aU rfl hE rfl rfl b39r) fun a hE hS=>T 17 2 hE hS rfl rfl rfl (by kernel_rfl) (fun _=>bD rfl hE rfl (fun w hw=>bH oL (b39f 0 _ rfl _ _ w (hw.get 0 rfl)))) fun a hE hS=>?_
        refine W1 20 (by kernel_rfl) rfl ?_
        have nx29:neL x27 (some (x4:Int)):=sV ex29
        have hp:=fD.takeRow nx29 b39h ex28 (hp.get 4 rfl)
        have hp:=r10 hp
        have hwx30:=Q7.away hp 1 rfl
        refine lY (wk0 rfl) rfl rfl hE hp rfl rG rfl rfl 0 rfl rfl (l2:=List.map (hd (utw4q).2) ([x6]:List Nat)) rfl (fun j u hj=>by have:=Hp.cN 2 rfl 0 _ (bV rfl) w hp j u (by simpa[flat,Enc.enc,hwx30] using hj);simpa using this) (qI ex30) ?_
        intro v4 a w hE hp
        have hp:=r10 hp
        refine aC (aI ⟨gp0 hp,gp 3 hp rfl,dead (by kernel_rfl),gp 6 hp rfl,gp 7 hp rfl,trivial⟩ fun hS=>?_)
        obtain⟨b40,b40o,b40r,b40v⟩:=Q7.adr (hp.get 1 rfl) qL b39h
        rw[←gQ ex31] at b40r
        refine T0 21 hE hS rfl rfl rfl (by kernel_rfl) (fun _=>aU rfl hE rfl rfl b40r) fun a hE hS=>?_
        refine W1 22 (by kernel_rfl) rfl ?_
        obtain⟨sl3,sl3e⟩:=aA.toSl hp 0 rfl
        refine s_wput (wk0 rfl) rfl hE sl3e ((hp.get 1 rfl).get 1 rfl) rfl rfl rfl nx29 b39h ex28 b40v oL.size_ ?_
        intro w hp
        have hp:=r9 hp
        refine aC (aI ⟨gp0 hp,gp 2 hp rfl,dead (by kernel_rfl),gp 5 hp rfl,gp 6 hp rfl,trivial⟩ fun hS=>?_)
        exact eG (by kernel_rfl) ⟨(utw4q.1.set x27.toNat sl3,utw4q.2),_,hE.cut ⟨rfl,rfl,rfl,rfl,rfl,rfl,rfl,trivial⟩,hp⟩
       refine dZ rfl ?_
       refine iP (wk0 rfl) rfl rfl hE hp rfl [(0,(.agg #[vc1]))] ⟨⟨rfl,rfl⟩,trivial⟩ [vc1] 110 (fun w=>by have hc0:=aA.cells hp 4 rfl;simp only[Value.cells] at hc0;simp[Instr.buildSlice,Instr.fill,Value.cells,hc0,go_sem]) ?_
       intro a w b41 hE hp
       have hp:=r9 hp
       refine aC (aI ⟨gp0 hp,gp 1 hp rfl,gp 4 hp rfl,gp 5 hp rfl,gp 6 hp rfl,trivial⟩ fun hS=>?_)
       refine W1 7 (by kernel_rfl) rfl ?_
       refine Cl hE rfl rfl zK (iQ x24 hp x25 ex25) ⟨rfl,trivial⟩ fun v a w hR hE=>?_
       obtain⟨rfl,hp⟩:=hR
       have hp:=r9 hp
       refine aC (aI ⟨gp0 hp,gp 1 hp rfl,gp 4 hp rfl,gp 5 hp rfl,gp 6 hp rfl,trivial⟩ fun hS=>?_)
       refine W1 15 (by kernel_rfl) rfl ?_
       refine Cl hE rfl rfl zK (iQ x26 hp x27 ex27) ⟨rfl,trivial⟩ fun v a w hR hE=>?_
       obtain⟨rfl,hp⟩:=hR
       have hp:=r9 hp
       refine aC (aI ⟨gp0 hp,gp 1 hp rfl,gp 4 hp rfl,gp 5 hp rfl,gp 6 hp rfl,trivial⟩ fun hS=>?_)
       obtain⟨b42u,b42,b42o,b42h,b42r,b42v,b42f⟩:=fD.hdr (hp.get 4 rfl) qL ex28
       refine T0 16 hE hS rfl rfl rfl (by kernel_rfl) (fun _=>aU rfl hE rfl rfl b42r) fun a hE hS=>T 17 2 hE hS rfl rfl rfl (by kernel_rfl) (fun _=>bD rfl hE rfl (fun w hw=>bH oL (b42f 0 _ rfl _ _ w (hw.get 0 rfl)))) fun a hE hS=>?_
       refine W1 20 (by kernel_rfl) rfl ?_
       have nx29:neL x27 (some (x4:Int)):=sV ex29
       have hp:=fD.takeRow nx29 b42h ex28 (hp.get 4 rfl)
       have hp:=r10 hp
       have hwx30:=Q7.away hp 1 rfl
       refine lY (wk0 rfl) rfl rfl hE hp rfl rG rfl rfl 0 rfl rfl (l2:=List.map (hd (utw4q).2) ([x6]:List Nat)) rfl (fun j u hj=>by have:=Hp.cN 2 rfl 0 _ (bV rfl) w hp j u (by simpa[flat,Enc.enc,hwx30] using hj);simpa using this) (qI ex30) ?_
       intro v5 a w hE hp
       have hp:=r10 hp
       refine aC (aI ⟨gp0 hp,gp 3 hp rfl,dead (by kernel_rfl),gp 6 hp rfl,gp 7 hp rfl,trivial⟩ fun hS=>?_)
       obtain⟨b43,b43o,b43r,b43v⟩:=Q7.adr (hp.get 1 rfl) qL b42h
       rw[←gQ ex31] at b43r
       refine T0 21 hE hS rfl rfl rfl (by kernel_rfl) (fun _=>aU rfl hE rfl rfl b43r) fun a hE hS=>?_
       refine W1 22 (by kernel_rfl) rfl ?_
       obtain⟨sl4,sl4e⟩:=aA.toSl hp 0 rfl
       refine s_wput (wk0 rfl) rfl hE sl4e ((hp.get 1 rfl).get 1 rfl) rfl rfl rfl nx29 b42h ex28 b43v oL.size_ ?_
       intro w hp
       have hp:=r9 hp
       refine aC (aI ⟨gp0 hp,gp 2 hp rfl,dead (by kernel_rfl),gp 5 hp rfl,gp 6 hp rfl,trivial⟩ fun hS=>?_)
       exact eG (by kernel_rfl) ⟨(utw4q.1.set x27.toNat sl4,utw4q.2),_,hE.cut ⟨rfl,rfl,rfl,rfl,rfl,rfl,rfl,trivial⟩,hp⟩
      rintro a w ⟨yut4,y33,hE,hp⟩
      refine aB ?_
      obtain⟨x32,ex32,hl2⟩:=bnd hl2
      refine V hE hp rfl (dD rfl hE rfl rfl (aZ ex32)) fun a hE=>S hE 1 rfl fun a hE=>aC ?_
      have hp:=(hp.get 1 rfl).drop
      have hp:=(hp.get 5 rfl).drop
      have hp:=fD.back (hp.get 4 rfl)
      have hp:=r6 hp
      exact⟨_,(oj hl2).symm,_,_,yut4,_,_,hE.cut ⟨rfl,rfl,rfl,rfl,rfl,rfl,rfl,trivial⟩,((((((hp.get 3 rfl).get 3 rfl).get 3 rfl).get 3 rfl).get 5 rfl).get 5 rfl)⟩
     replace hl2:=(ie hc10).symm.trans hl2
     refine aG (aB ?_)
     refine S hE 2 rfl fun a hE=>?_
     obtain⟨x33,ex33,hl2⟩:=bnd hl2
     obtain⟨b44,b44o,b44r,b44v,b44f⟩:=aA.at hp 4 rfl bC ex33
     refine V hE hp rfl (aU rfl hE rfl rfl b44r) fun a hE=>V hE hp rfl (bD rfl hE rfl (fun w hw=>bH bG (b44f 0 _ rfl _ _ w (hw.get 4 rfl)))) fun a hE=>?_
     obtain⟨x34,ex34,hl2⟩:=bnd hl2
     refine Cl hE rfl rfl ent80 (nZ bp0 (PEng.mk iR iT fM gU iI) w2 w3 w4q utw4q x33 ((((hp.get 3 rfl).get 3 rfl).get 3 rfl).get 3 rfl) x34 ex34) ⟨rfl,rfl,trivial⟩ fun v a w hR hE=>?_
     obtain⟨rfl,hp⟩:=hR
     have hp:=r8 hp
     refine S hE 2 rfl fun a hE=>aC ?_
     refine dK hE rfl (fun hc11=>?_) (fun hc11=>?_)
     ·replace hl2:=(it hc11).symm.trans hl2
      refine aG ?_
      obtain⟨x35,ex35,hl2⟩:=bnd hl2
      obtain⟨x36,ex36,hl2⟩:=bnd hl2
      obtain⟨x37,ex37,hl2⟩:=bnd hl2
      obtain⟨x38,ex38,hl2⟩:=bnd hl2
      obtain⟨x39,ex39,hl2⟩:=bnd hl2
      have hp:=hp.drew
      refine jS ([([],At0 Z ρ),([],At1 Z ρ (Pt bp0 (.cells #[w2,w3,(Iv fM),w4q,(.bool iI)] 107 (0,0))))]:Facts) (fun a w=>∃yut4:List Sl×List Sl,∃y22:Value,Env 174 [] a∧Hp Z ρ (fD 108 110 3 w4q yut4 ((gU.1.set x4.toNat x37,gU.2):WD) none (some ((x6,vc1):Nat×Value))::aA 110 y22 (List.map (hd (yut4).2) (x36:List Nat))::Pt bp0 (.cells #[w2,w3,(Iv fM),w4q,(.bool iI)] 107 (0,0))::aA 3 w2 iR::aA 3 w3 iT::aA 3 vc1 j1::Pt b6 (.cells #[vc1] 110 (0,0))::L) w) (by kernel_rfl) ⟨fun _=>⟨_,hp⟩,fun _=>⟨_,(hp.get 0 rfl)⟩,trivial⟩ (fun hS=>?_) ?_
      ·
       generalize w.drew=w at hS hp⊢
       refine Ts [0,1] hE hS rfl rfl (by kernel_rfl) fun a hE hS=>T0 2 hE hS rfl rfl rfl (by kernel_rfl) (fun _=>xf hE uP rfl rfl) fun a hE hS=>T 3 1 hE hS rfl rfl rfl (by kernel_rfl) (fun _=>xl hE yY 0 rfl rfl rfl rfl) fun a hE hS=>Ts [4,6,7,8] hE hS rfl rfl (by kernel_rfl) fun a hE hS=>?_
       refine jH [5,9] (by kernel_rfl) rfl ?_
       refine List.forall_mem_cons.2 ⟨?_,List.forall_mem_cons.2 ⟨?_,fun _ h=>absurd h (by simp)⟩⟩
       ·
        refine dZ rfl ?_
        refine Cl hE rfl rfl zK (iQ x2 hp x35 ex35) ⟨rfl,trivial⟩ fun v a w hR hE=>?_
        obtain⟨rfl,hp⟩:=hR
        have hp:=r8 hp
        refine aC (aI ⟨gp0 hp,gp 0 hp rfl,trivial⟩ fun hS=>?_)
        refine W1 9 (by kernel_rfl) rfl ?_
        obtain⟨v8,v8r,hp⟩:=aA.part (hp.get 7 rfl) rG (some (.i64,dG)) none rfl (by simp) (sub_map ex36)
        have hp:=r8 hp
        refine V hE hp rfl (wV rfl hE rfl (some (.i64,dG)) none (by exact rfl) (by exact trivial) v8r) fun a hE=>?_
        refine aC (aI ⟨gp0 hp,gp 1 hp rfl,trivial⟩ fun hS=>?_)
        refine W1 10 (by kernel_rfl) rfl ?_
        obtain⟨k2,k2a,k2d,k2h⟩:=(hp.get 0 rfl).lend
        refine s_apps (wk0 rfl) rfl rfl hE k2h rfl rG rfl rfl 6 rfl rfl (aA.ro k2d k2a) (qI ex37) ?_
        intro v9 a w hE hp
        have hp:=Hp.back k2a k2d hp
        have hp:=r8 hp
        refine aC (aI ⟨gp0 hp,gp 1 hp rfl,trivial⟩ fun hS=>?_)
        obtain⟨b46u,b46,b46o,b46h,b46r,b46v,b46f⟩:=fD.hdr (hp.get 4 rfl) qL ex38
        refine T0 11 hE hS rfl rfl rfl (by kernel_rfl) (fun _=>aU rfl hE rfl rfl b46r) fun a hE hS=>?_
        refine W1 12 (by kernel_rfl) rfl ?_
        obtain⟨sl6,sl6e⟩:=aA.toSl hp 7 rfl
        refine s_wputI (wk0 rfl) rfl hE sl6e (gQ ex39) ((hp.get 4 rfl).get 7 rfl) rfl rfl rfl b46h ex38 b46v oL.size_ ?_
        intro w hp
        have hp:=r7 hp
        refine aC (aI ⟨gp0 hp,gp 2 hp rfl,trivial⟩ fun hS=>?_)
        exact eG (by kernel_rfl) ⟨(utw4q.1.set x4.toNat sl6,utw4q.2),_,hE.cut trivial,hp⟩
       refine dZ rfl ?_
       obtain⟨v10,v10r,hp⟩:=aA.part (hp.get 7 rfl) rG (some (.i64,dG)) none rfl (by simp) (sub_map ex36)
       have hp:=r8 hp
       refine V hE hp rfl (wV rfl hE rfl (some (.i64,dG)) none (by exact rfl) (by exact trivial) v10r) fun a hE=>?_
       refine aC (aI ⟨gp0 hp,gp 1 hp rfl,trivial⟩ fun hS=>?_)
       refine W1 5 (by kernel_rfl) rfl ?_
       refine Cl hE rfl rfl zK (iQ x2 hp x35 ex35) ⟨rfl,trivial⟩ fun v a w hR hE=>?_
       obtain⟨rfl,hp⟩:=hR
       have hp:=r8 hp
       refine aC (aI ⟨gp0 hp,gp 1 hp rfl,trivial⟩ fun hS=>?_)
       refine W1 10 (by kernel_rfl) rfl ?_
       obtain⟨k3,k3a,k3d,k3h⟩:=(hp.get 0 rfl).lend
       refine s_apps (wk0 rfl) rfl rfl hE k3h rfl rG rfl rfl 6 rfl rfl (aA.ro k3d k3a) (qI ex37) ?_
       intro v11 a w hE hp
       have hp:=Hp.back k3a k3d hp
       have hp:=r8 hp
       refine aC (aI ⟨gp0 hp,gp 1 hp rfl,trivial⟩ fun hS=>?_)
       obtain⟨b47u,b47,b47o,b47h,b47r,b47v,b47f⟩:=fD.hdr (hp.get 4 rfl) qL ex38
       refine T0 11 hE hS rfl rfl rfl (by kernel_rfl) (fun _=>aU rfl hE rfl rfl b47r) fun a hE hS=>?_
       refine W1 12 (by kernel_rfl) rfl ?_
       obtain⟨sl7,sl7e⟩:=aA.toSl hp 7 rfl
       refine s_wputI (wk0 rfl) rfl hE sl7e (gQ ex39) ((hp.get 4 rfl).get 7 rfl) rfl rfl rfl b47h ex38 b47v oL.size_ ?_
       intro w hp
       have hp:=r7 hp
       refine aC (aI ⟨gp0 hp,gp 2 hp rfl,trivial⟩ fun hS=>?_)
       exact eG (by kernel_rfl) ⟨(utw4q.1.set x4.toNat sl7,utw4q.2),_,hE.cut trivial,hp⟩
      rintro a w ⟨yut4,y22,hE,hp⟩
      refine aG (aB ?_)
      refine S hE 1 rfl fun a hE=>aC (dE ?_)
      refine⟨_,(oj hl2).symm,fun hb=>?_⟩
      subst hb
      refine⟨_,(oj hl1).symm,fun hb=>?_⟩
      subst hb
      have hp:=(hp.get 6 rfl).drop
      have hp:=fD.back (hp.get 5 rfl)
      have hp:=r5 hp
      obtain rfl:=oj hm
      exact iH hE rfl rfl ⟨_,rfl,_,_,_,_,rfl,((((((hp.get 0 rfl).get 4 rfl).get 4 rfl).get 4 rfl).get 4 rfl).drop)⟩
     replace hl2:=(ie hc11).symm.trans hl2
     refine aG (aB ?_)
     refine S hE 1 rfl fun a hE=>V hE hp rfl (bD rfl hE rfl (fun w hw=>gB (cs:=[vc1]) X4 (Hp.cN 5 rfl 0 _ (bV rfl) w hw))) fun a hE=>?_
     refine iP (wk0 rfl) rfl rfl hE hp rfl [(0,(.agg #[vc1]))] ⟨⟨rfl,rfl⟩,trivial⟩ [vc1] 110 (fun w=>by have hc0:=aA.cells hp 4 rfl;simp only[Value.cells] at hc0;simp[Instr.buildSlice,Instr.fill,Value.cells,hc0,go_sem]) ?_
     intro a w b48 hE hp
     have hp:=r9 hp
     obtain⟨x40,ex40,hl2⟩:=bnd hl2
     have hwx40:=fD.away hp 4 rfl
     refine lY (wk0 rfl) rfl rfl hE hp rfl rG rfl rfl 7 rfl rfl (l2:=List.map (hd (utw4q).2) ([x6]:List Nat)) rfl (fun j u hj=>by have:=Hp.cN 0 rfl 0 _ (bV rfl) w hp j u (by simpa[flat,Enc.enc,hwx40] using hj);simpa using this) (qI ex40) ?_
     intro v12 a w hE hp
     have hp:=r9 hp
     refine S hE 1 rfl fun a hE=>aC (aB ?_)
     refine S hE 2 rfl fun a hE=>?_
     obtain⟨x41,ex41,hl2⟩:=bnd hl2
     obtain⟨b49,b49o,b49r,b49v,b49f⟩:=aA.at hp 5 rfl bC ex41
     refine V hE hp rfl (aU rfl hE rfl rfl b49r) fun a hE=>V hE hp rfl (bD rfl hE rfl (fun w hw=>bH bG (b49f 0 _ rfl _ _ w (hw.get 5 rfl)))) fun a hE=>?_
     obtain⟨x42,ex42,hl2⟩:=bnd hl2
     refine Cl hE rfl rfl ent81 (tJ bp0 (PEng.mk iR iT fM gU iI) w2 w3 w4q utw4q x41 ((((hp.get 4 rfl).get 4 rfl).get 4 rfl).get 4 rfl) x42 ex42) ⟨rfl,rfl,trivial⟩ fun v a w hR hE=>?_
     obtain⟨lD,lC,rfl,hp⟩:=hR
     have hp:=r9 hp
     refine aC (aB ?_)
     obtain⟨x43,ex43,hl2⟩:=bnd hl2
     refine V hE hp rfl (dD rfl hE rfl rfl (aZ ex43)) fun a hE=>S hE 1 rfl fun a hE=>aC ?_
     have hp:=(hp.get 4 rfl).drop
     have hp:=(hp.get 5 rfl).drop
     have hp:=fD.back ((hp.get 3 rfl).get 4 rfl)
     have hp:=r6 hp
     exact⟨_,(oj hl2).symm,_,_,utw4q,_,_,hE.cut ⟨rfl,rfl,rfl,rfl,rfl,rfl,rfl,trivial⟩,((((((hp.get 3 rfl).get 3 rfl).get 3 rfl).get 3 rfl).get 5 rfl).get 5 rfl)⟩
    replace hl2:=(ie hc4).symm.trans hl2
    refine dR ?_
    refine⟨_,(oj hl2).symm,fun hbb=>?_⟩
    exact⟨_,hbb.symm,_,_,utw4q,_,_,hE.cut ⟨rfl,rfl,rfl,trivial⟩,hp⟩
   rintro a w ⟨b4s,rfl,w23,w4q,utw4q,w2,w3,hE,hp⟩
   dsimp only at hl1
   obtain⟨x44,ex44,hl1⟩:=bnd hl1
   obtain⟨x45,ex45,hl1⟩:=bnd hl1
   obtain⟨x46,ex46,hl1⟩:=bnd hl1
   have hp:=hp.drew
   refine jS ([([],At0 Z ρ),([],At1 Z ρ (Pt bp0 (.cells #[w2,w3,(Iv b4s.2.2.1),w4q,(.bool b4s.2.2.2.1)] 107 (0,0))))]:Facts) (fun a w=>∃yut4:List Sl×List Sl,Env 174 [(0,(Pv bp0 0))] a∧Hp Z ρ (fD 108 110 3 w4q yut4 ((b4s.2.1.1.set x4.toNat b4s.1,b4s.2.1.2):WD) none none::aA 110 (Sl.v b3u) (List.map (hd (yut4).2) (x5:List Nat))::Pt bp0 (.cells #[w2,w3,(Iv b4s.2.2.1),w4q,(.bool b4s.2.2.2.1)] 107 (0,0))::aA 3 w2 b4s.2.2.2.2.1::aA 3 w3 b4s.2.2.2.2.2::L) w) (by kernel_rfl) ⟨fun _=>⟨_,hp⟩,fun _=>⟨_,(hp.get 3 rfl)⟩,trivial⟩ (fun hS=>?_) ?_
   ·
    generalize w.drew=w at hS hp⊢
    refine Ts [0,1] hE hS rfl rfl (by kernel_rfl) fun a hE hS=>T0 2 hE hS rfl rfl rfl (by kernel_rfl) (fun _=>xf hE uP rfl rfl) fun a hE hS=>T 3 1 hE hS rfl rfl rfl (by kernel_rfl) (fun _=>xl hE yY 0 rfl rfl rfl rfl) fun a hE hS=>Ts [4,6] hE hS rfl rfl (by kernel_rfl) fun a hE hS=>?_
    refine W1 5 (by kernel_rfl) rfl ?_
    refine Cl hE rfl rfl zK (iQ x2 hp x44 ex44) ⟨rfl,trivial⟩ fun v a w hR hE=>?_
    obtain⟨rfl,hp⟩:=hR
    have hp:=r6 hp
    refine aC (aI ⟨gp0 hp,gp 3 hp rfl,trivial⟩ fun hS=>?_)
    obtain⟨b51u,b51,b51o,b51h,b51r,b51v,b51f⟩:=fD.hdr (hp.get 2 rfl) qL ex45
    refine T0 7 hE hS rfl rfl rfl (by kernel_rfl) (fun _=>aU rfl hE rfl rfl b51r) fun a hE hS=>?_
    refine W1 8 (by kernel_rfl) rfl ?_
    obtain⟨sl9,sl9e⟩:=aA.toSl hp 0 rfl
    refine s_wputI (wk0 rfl) rfl hE sl9e (gQ ex46) ((hp.get 2 rfl).get 1 rfl) rfl rfl rfl b51h ex45 b51v oL.size_ ?_
    intro w hp
    have hp:=r5 hp
    refine aC (aI ⟨gp0 hp,gp 2 hp rfl,trivial⟩ fun hS=>?_)
    exact eG (by kernel_rfl) ⟨(utw4q.1.set x4.toNat sl9,utw4q.2),hE.cut ⟨rfl,trivial⟩,hp⟩
   rintro a w ⟨yut4,hE,hp⟩
   exact⟨_,(oj hl1).symm,_,_,_,yut4,hE.cut ⟨rfl,trivial⟩,((((((hp.get 0 rfl).get 4 rfl).get 4 rfl).get 4 rfl).get 4 rfl).drop)⟩
  replace hl1:=(ie hc2).symm.trans hl1
  refine dR ?_
  refine⟨_,(oj hl1).symm,fun hbb=>?_⟩
  exact⟨_,hbb.symm,_,_,_,utw4,hE.cut trivial,hp⟩
 rintro a w ⟨b1s,rfl,w2,w3,w4,utw4,hE,hp⟩
 dsimp only at hm
 refine aG (aB ?_)
 refine S hE 1 rfl fun a hE=>aC (dE ?_)
 obtain rfl:=oj hm
 exact iH hE rfl rfl ⟨_,rfl,_,_,_,_,rfl,hp⟩
theorem uN {Z:World} {ρ:PH} {L:List bZ} {w:World} (bp0:Nat) (p0:PEng) (aV:Value) (aT:Value) (aN:Value) (aF:List Sl×List Sl) (p1:(List Int)) (vp1:Value) (hp1:bW ρ vp1 p1) (hp:Hp Z ρ (Pt bp0 (.cells #[aV,aT,(Iv p0.head),aN,(.bool p0.fails)] 107 (0,0))::aA 3 aV p0.value::aA 3 aT p0.trail::fD 108 110 3 aN aF (p0.watches:WD) none none::L) w) (r:PEng) (hm:nO p0 p1=some r):
  Calls Try.prog 73 #[(Pv bp0 0),vp1] w (Ret fun v w'=>∃(eQ:Value) (eP:Value) (dS:Value) (dQ:List Sl×List Sl),v= .tuple #[]∧Hp Z ρ (Pt bp0 (.cells #[eQ,eP,(Iv r.head),dS,(.bool r.fails)] 107 (0,0))::aA 3 eQ r.value::aA 3 eP r.trail::fD 108 110 3 dS dQ (r.watches:WD) none none::L) w'):=by
 refine enter (N:=78) Try.func73 rfl rfl [(0,(Pv bp0 0)),(1,vp1)] rfl (bM ⟨rfl,rfl,trivial⟩) fun a hE=>?_
 unfold nO at hm
 refine aG (aG ?_)
 refine aB (S hE 2 rfl fun a hE=>?_)
 refine V hE hp rfl (xf hE J3 rfl rfl) fun a hE=>V hE hp rfl (xl hE sO 0 rfl rfl rfl rfl) fun a hE=>aC ?_
 refine dK hE rfl (fun hc1=>?_) (fun hc1=>?_)
 ·replace hm:=(it hc1).symm.trans hm
  refine dE ?_
  obtain rfl:=oj hm
  exact ret0 hE rfl ⟨_,rfl,_,_,_,_,rfl,hp⟩
 replace hm:=(ie hc1).symm.trans hm
 refine bP (aG ?_)
 refine aB (S hE 1 rfl fun a hE=>?_)
 refine aC (aG ?_)
 refine aG (aB ?_)
 refine S hE 1 rfl fun a hE=>V hE hp rfl (dL rfl hE rfl (bW.len hp1 bC)) fun a hE=>S hE 1 rfl fun a hE=>aC ?_
 have hp:=hp.emp (aA.nil (α:=Int) 3)
 have hp:=r5 hp
 obtain⟨b1,hc2,hm⟩:=bnd hm
 refine dH (fun a w=>∃s:(List Int),b1= .brk s∧(∃(w10:Value),Env 78 [(0,(Pv bp0 0)),(4,w10)] a∧Hp Z ρ (aA 3 w10 s::Pt bp0 (.cells #[aV,aT,(Iv p0.head),aN,(.bool p0.fails)] 107 (0,0))::aA 3 aV p0.value::aA 3 aT p0.trail::fD 108 110 3 aN aF (p0.watches:WD) none none::L) w)) ?_ ?_
 ·refine eU hc2 (fun s a w=>∃(w10:Value),Env 78 [(0,(Pv bp0 0)),(4,w10),(13,vp1),(14,(Iv (p1.length:Int))),(15,(Iv s.1))] a∧Hp Z ρ (aA 3 w10 s.2::Pt bp0 (.cells #[aV,aT,(Iv p0.head),aN,(.bool p0.fails)] 107 (0,0))::aA 3 aV p0.value::aA 3 aT p0.trail::fD 108 110 3 aN aF (p0.watches:WD) none none::L) w) ?_ ?_
  ·exact⟨_,hE.cut ⟨rfl,rfl,rfl,rfl,rfl,trivial⟩,hp⟩
  rintro⟨aW,bU⟩ st a w ⟨w10,hE,hp⟩ hl1
  dsimp only at hE hp hl1
  unfold kF at hl1
  refine aG (aB ?_)
  refine S hE 1 rfl fun a hE=>aC (aG ?_)
  refine dK hE rfl (fun hc3=>?_) (fun hc3=>?_)
  ·replace hl1:=(it hc3).symm.trans hl1
   refine bP (aG ?_)
   refine dF (aG ?_)
   refine aB ?_
   obtain⟨x1,ex1,hl1⟩:=bnd hl1
   obtain⟨b2,b2o,b2c,b2r,b2k,b2f⟩:=bW.at hp1 bC ex1
   obtain rfl:b2c=Enc.enc x1:=b2k
   have b2f:AtP ρ b2 b2o [(Iv x1)]:=b2f
   refine V hE hp rfl (aU rfl hE rfl rfl b2r) fun a hE=>V hE hp rfl (bD rfl hE rfl (fun w hw=>bH bG (b2f.c 0 rfl w hw))) fun a hE=>S hE 1 rfl fun a hE=>aC (aG ?_)
   refine aB (S hE 2 rfl fun a hE=>?_)
   obtain⟨x2,ex2,hl1⟩:=bnd hl1
   refine Cl hE rfl rfl ent80 (nZ bp0 p0 aV aT aN aF x1 ((((hp.get 4 rfl).get 4 rfl).get 4 rfl).get 4 rfl) x2 ex2) ⟨rfl,rfl,trivial⟩ fun v a w hR hE=>?_
   obtain⟨rfl,hp⟩:=hR
   have hp:=r5 hp
   refine aC (dF ?_)
   refine aG (aB ?_)
   refine S hE 2 rfl fun a hE=>aC ?_
   refine dK hE rfl (fun hc4=>?_) (fun hc4=>?_)
   ·replace hl1:=(it hc4).symm.trans hl1
    refine dE ?_
    refine⟨_,(oj hl1).symm,fun hb=>?_⟩
    subst hb
    obtain rfl:=oj hm
    exact ret0 hE rfl ⟨_,rfl,_,_,_,_,rfl,((hp.get 4 rfl).drop)⟩
   replace hl1:=(ie hc4).symm.trans hl1
   refine aG (aB ?_)
   refine S hE 2 rfl fun a hE=>aC ?_
   refine dK hE rfl (fun hc5=>?_) (fun hc5=>?_)
   ·replace hl1:=(it hc5).symm.trans hl1
    refine aB (S hE 2 rfl fun a hE=>?_)
    refine iP (wk0 rfl) rfl rfl hE hp rfl [(0,(Iv x1))] ⟨⟨rfl,rfl⟩,trivial⟩ [(Iv x1)] 3 (fun w=>by simp[Instr.buildSlice,Instr.fill,Value.cells,go_sem]) ?_
    intro a w b3 hE hp
    have hp:=r6 hp
    obtain⟨x3,ex3,hl1⟩:=bnd hl1
    refine lY (wk0 rfl) rfl rfl hE hp rfl bC rfl rfl 5 rfl rfl (l2:=[x1]) rfl (fun j u hj=>by have:=Hp.cN 0 rfl 0 _ (bV rfl) w hp j u hj;simpa using this) ex3 ?_
    intro v1 a w hE hp
    have hp:=r6 hp
    refine S hE 1 rfl fun a hE=>aC (aB ?_)
    obtain⟨x4,ex4,hl1⟩:=bnd hl1
    refine V hE hp rfl (dD rfl hE rfl rfl (aZ ex4)) fun a hE=>S hE 1 rfl fun a hE=>aC ?_
    have hE:=hE.cut (E':=[(0,(Pv bp0 0)),(4,v1),(13,vp1),(14,(Iv (p1.length:Int))),(15,(Iv x4))]) ⟨rfl,rfl,rfl,rfl,rfl,trivial⟩
    exact⟨_,(oj hl1).symm,_,hE.cut ⟨rfl,rfl,rfl,rfl,rfl,trivial⟩,(((((((hp.get 4 rfl).get 4 rfl).get 4 rfl).get 4 rfl).get 5 rfl).get 5 rfl).drop)⟩
   replace hl1:=(ie hc5).symm.trans hl1
   refine bP (aB ?_)
   obtain⟨x5,ex5,hl1⟩:=bnd hl1
   refine V hE hp rfl (dD rfl hE rfl rfl (aZ ex5)) fun a hE=>S hE 1 rfl fun a hE=>aC ?_
   exact⟨_,(oj hl1).symm,_,hE.cut ⟨rfl,rfl,rfl,rfl,rfl,trivial⟩,(((((hp.get 3 rfl).get 3 rfl).get 3 rfl).get 3 rfl).get 4 rfl)⟩
  replace hl1:=(ie hc3).symm.trans hl1
  refine dR ?_
  refine⟨_,(oj hl1).symm,fun hbb=>?_⟩
  exact⟨_,hbb.symm,_,hE.cut ⟨rfl,rfl,trivial⟩,hp⟩
 rintro a w ⟨b1s,rfl,w10,hE,hp⟩
 dsimp only at hm
 refine aG (aB ?_)
 refine S hE 1 rfl fun a hE=>V hE hp rfl (dL rfl hE rfl (aA.len hp 0 rfl bC)) fun a hE=>aC (dF ?_)
 refine aG (aB ?_)
 refine S hE 2 rfl fun a hE=>aC ?_
 refine dK hE rfl (fun hc6=>?_) (fun hc6=>?_)
 ·replace hm:=(it hc6).symm.trans hm
  refine aB (S hE 2 rfl fun a hE=>?_)
  refine V hE hp rfl (xf hE J3 rfl rfl) fun a hE=>?_
  refine dO (wk0 rfl) rfl hE hp rfl rfl rfl 1 rfl sO.size_ rfl (bY ⟨rfl,trivial⟩) [aV,aT,(Iv p0.head),aN,(.bool true)] rfl ?_
  intro w hp
  have hp:=r5 hp
  refine aC ?_
  obtain rfl:=oj hm
  exact wZ hE rfl ⟨_,rfl,_,_,_,_,rfl,(hp.drop)⟩
 replace hm:=(ie hc6).symm.trans hm
 refine aG (aB ?_)
 refine S hE 2 rfl fun a hE=>aC ?_
 refine dK hE rfl (fun hc7=>?_) (fun hc7=>?_)
 ·replace hm:=(it hc7).symm.trans hm
  refine aG (aB ?_)
  refine S hE 2 rfl fun a hE=>?_
  obtain⟨x6,ex6,hm⟩:=bnd hm
  obtain⟨b4,b4o,b4r,b4v,b4f⟩:=aA.at hp 0 rfl bC ex6
  refine V hE hp rfl (aU rfl hE rfl rfl b4r) fun a hE=>V hE hp rfl (bD rfl hE rfl (fun w hw=>bH bG (b4f 0 _ rfl _ _ w (hw.get 0 rfl)))) fun a hE=>?_
  obtain⟨x7,ex7,hm⟩:=bnd hm
  refine Cl hE rfl rfl ent81 (tJ bp0 p0 aV aT aN aF x6 ((((hp.get 4 rfl).get 4 rfl).get 4 rfl).get 4 rfl) x7 ex7) ⟨rfl,rfl,trivial⟩ fun v a w hR hE=>?_
  obtain⟨lD,lC,rfl,hp⟩:=hR
  have hp:=r5 hp
  refine aC (aB ?_)
  refine S hE 2 rfl fun a hE=>?_
  obtain⟨x8,ex8,hm⟩:=bnd hm
  refine Cl hE rfl rfl ent82 (tY bp0 (PEng.mk x7.value x7.trail x7.head p0.watches x7.fails) lD lC aN aF ((((hp.get 3 rfl).get 3 rfl).get 3 rfl).get 3 rfl) x8 ex8) ⟨rfl,trivial⟩ fun v a w hR hE=>?_
  obtain⟨H8,H7,xC,rH,rfl,hp⟩:=hR
  have hp:=r5 hp
  refine S hE 2 rfl fun a hE=>V hE hp rfl (xf hE J3 rfl rfl) fun a hE=>?_
  refine dO (wk0 rfl) rfl hE hp rfl rfl rfl 0 rfl sO.size_ rfl (bY ⟨rfl,trivial⟩) [H8,H7,(Iv x8.2.head),xC,(.bool (!x8.1))] rfl ?_
  intro w hp
  have hp:=r5 hp
  refine aC ?_
  obtain rfl:=oj hm
  exact wZ hE rfl ⟨_,rfl,_,_,_,_,rfl,((hp.get 4 rfl).drop)⟩
 replace hm:=(ie hc7).symm.trans hm
 refine aG (aB ?_)
 refine S hE 1 rfl fun a hE=>?_
 obtain⟨x9,ex9,hm⟩:=bnd hm
 obtain⟨ut1,hp⟩:=fD.give ex9 ((hp.get 4 rfl).get 1 rfl)
 have hp:=r5 hp
 obtain⟨x10,ex10,hm⟩:=bnd hm
 obtain⟨v2,v2r,v2f⟩:=aA.viewF hp 0 rfl bC none (some (.i64,2)) rfl rfl ex10
 refine V hE hp rfl (wV rfl hE rfl none (some (.i64,2)) (by exact trivial) (by exact rfl) v2r) fun a hE=>V hE hp rfl (dL rfl hE rfl (D5.len v2f hp 0 rfl bC)) fun a hE=>S hE 1 rfl fun a hE=>aC ?_
 have hE:=hE.cut (E':=[(0,(Pv bp0 0)),(4,w10),(34,v2),(35,(Iv (x10.length:Int))),(36,(Iv 0))]) ⟨rfl,rfl,rfl,rfl,rfl,trivial⟩
 obtain⟨b5,hc8,hm⟩:=bnd hm
 refine dH (fun a w=>∃(w4:Value) (utw4:List Sl×List Sl),Env 78 [] a∧Hp Z ρ (aA 3 w10 b1s::fD 108 110 3 w4 utw4 (b5:WD) none (some (((p0.watches).2.length,w10):Nat×Value))::Pt bp0 (.cells #[aV,aT,(Iv p0.head),w4,(.bool p0.fails)] 107 (0,0))::aA 3 aV p0.value::aA 3 aT p0.trail::L) w) ?_ ?_
 ·refine eU hc8 (fun s a w=>∃(w4:Value) (utw4:List Sl×List Sl),Env 78 [(0,(Pv bp0 0)),(4,w10),(34,v2),(35,(Iv (x10.length:Int))),(36,(Iv s.1))] a∧Hp Z ρ (aA 3 w10 b1s::fD 108 110 3 w4 utw4 (s.2:WD) none (some (((p0.watches).2.length,w10):Nat×Value))::Pt bp0 (.cells #[aV,aT,(Iv p0.head),w4,(.bool p0.fails)] 107 (0,0))::aA 3 aV p0.value::aA 3 aT p0.trail::L) w) ?_ ?_
  ·exact⟨_,ut1,hE.cut ⟨rfl,rfl,rfl,rfl,rfl,trivial⟩,hp⟩
  rintro⟨dG,fB⟩ st a w ⟨w4,utw4,hE,hp⟩ hl2
  dsimp only at hE hp hl2
  unfold mG at hl2
  refine aG (aB ?_)
  refine S hE 1 rfl fun a hE=>aC (aG ?_)
  refine dK hE rfl (fun hc9=>?_) (fun hc9=>?_)
  ·replace hl2:=(it hc9).symm.trans hl2
   refine bP (aG ?_)
   refine dF (aG ?_)
   refine aB ?_
   obtain⟨x11,ex11,hl2⟩:=bnd hl2
   obtain⟨b6,b6o,b6r,b6f⟩:=D5.at v2f hp 0 rfl bC ex11
   refine V hE hp rfl (aU rfl hE rfl rfl b6r) fun a hE=>V hE hp rfl (bD rfl hE rfl (fun w hw=>bH bG (b6f 0 _ rfl _ _ w (hw.get 0 rfl)))) fun a hE=>S hE 1 rfl fun a hE=>aC ?_
   obtain⟨x12,ex12,hl2⟩:=bnd hl2
   obtain⟨x13,ex13,hl2⟩:=bnd hl2
   obtain⟨x14,ex14,hl2⟩:=bnd hl2
   obtain⟨x15,ex15,hl2⟩:=bnd hl2
   obtain⟨x16,ex16,hl2⟩:=bnd hl2
   have hp:=hp.drew
   refine jS ([([],At0 Z ρ),([17,19],At1 Z ρ (fD 108 110 3 w4 utw4 (fB:WD) none (some (((p0.watches).2.length,w10):Nat×Value)))),([],At1 Z ρ (Pt bp0 (.cells #[aV,aT,(Iv p0.head),w4,(.bool p0.fails)] 107 (0,0))))]:Facts) (fun a w=>∃yut4:List Sl×List Sl,∃y15:Nat,Env 78 [(0,(Pv bp0 0)),(4,w10),(34,v2),(35,(Iv (x10.length:Int))),(36,(Iv dG))] a∧Hp Z ρ (fD 108 110 3 w4 yut4 ((fB.1.set x13.toNat x15,fB.2):WD) none (some (((p0.watches).2.length,w10):Nat×Value))::Pt y15 (.cells #[w10] 110 (0,0))::aA 3 w10 b1s::Pt bp0 (.cells #[aV,aT,(Iv p0.head),w4,(.bool p0.fails)] 107 (0,0))::aA 3 aV p0.value::aA 3 aT p0.trail::L) w) (by kernel_rfl) ⟨fun _=>⟨_,hp⟩,fun _=>⟨_,(hp.get 1 rfl)⟩,fun _=>⟨_,(hp.get 2 rfl)⟩,trivial⟩ (fun hS=>?_) ?_
   ·
    generalize w.drew=w at hS hp⊢
    refine Ts [0,1] hE hS rfl rfl (by kernel_rfl) fun a hE hS=>T0 2 hE hS rfl rfl rfl (by kernel_rfl) (fun _=>xf hE uP rfl rfl) fun a hE hS=>T 3 2 hE hS rfl rfl rfl (by kernel_rfl) (fun _=>xl hE yY 0 rfl rfl rfl rfl) fun a hE hS=>Ts [4,6,7] hE hS rfl rfl (by kernel_rfl) fun a hE hS=>T0 8 hE hS rfl rfl rfl (by kernel_rfl) (fun _=>xf hE uP rfl rfl) fun a hE hS=>T 9 2 hE hS rfl rfl rfl (by kernel_rfl) (fun _=>xl hE yY 0 rfl rfl rfl rfl) fun a hE hS=>Ts [10,14] hE hS rfl rfl (by kernel_rfl) fun a hE hS=>T0 15 hE hS rfl rfl rfl (by kernel_rfl) (v:=(.agg #[w10])) (fun _=>qN rfl hE [(0,w10)] (by exact⟨⟨rfl,rfl⟩,trivial⟩) (fun w=>by have hc0:=aA.cells hp 0 rfl;simp only[Value.cells] at hc0;simp[Instr.build,Instr.fill,Value.cells,hc0,go_sem])) fun a hE hS=>?_
    refine jH [5,16] (by kernel_rfl) rfl ?_
    refine List.forall_mem_cons.2 ⟨?_,List.forall_mem_cons.2 ⟨?_,fun _ h=>absurd h (by simp)⟩⟩
    ·
     refine dZ rfl ?_
     refine Cl hE rfl rfl zK (iQ x11 hp x12 ex12) ⟨rfl,trivial⟩ fun v a w hR hE=>?_
     obtain⟨rfl,hp⟩:=hR
     have hp:=r5 hp
     refine aC (aI ⟨gp0 hp,gp 1 hp rfl,gp 2 hp rfl,trivial⟩ fun hS=>?_)
     refine jH [11,16] (by kernel_rfl) rfl ?_
     refine List.forall_mem_cons.2 ⟨?_,List.forall_mem_cons.2 ⟨?_,fun _ h=>absurd h (by simp)⟩⟩
     ·
      refine dZ rfl ?_
      refine Cl hE rfl rfl zK (iQ x11 hp x13 ex13) ⟨rfl,trivial⟩ fun v a w hR hE=>?_
      obtain⟨rfl,hp⟩:=hR
      have hp:=r5 hp
      refine aC (aI ⟨gp0 hp,gp 1 hp rfl,gp 2 hp rfl,trivial⟩ fun hS=>?_)
      obtain⟨b10u,b10,b10o,b10h,b10r,b10v,b10f⟩:=fD.hdr (hp.get 1 rfl) qL ex14
      refine T0 12 hE hS rfl rfl rfl (by kernel_rfl) (fun _=>aU rfl hE rfl rfl b10r) fun a hE hS=>T 13 1 hE hS rfl rfl rfl (by kernel_rfl) (fun _=>bD rfl hE rfl (fun w hw=>bH oL (b10f 0 _ rfl _ _ w (hw.get 0 rfl)))) fun a hE hS=>?_
      refine W1 16 (by kernel_rfl) rfl ?_
      refine iP (wk0 rfl) rfl rfl hE hp rfl [(0,(.agg #[w10]))] ⟨⟨rfl,rfl⟩,trivial⟩ [w10] 110 (fun w=>by have hc0:=aA.cells hp 0 rfl;simp only[Value.cells] at hc0;simp[Instr.buildSlice,Instr.fill,Value.cells,hc0,go_sem]) ?_
      intro a w b11 hE hp
      have hp:=r6 hp
      refine aC (aI ⟨gp0 hp,gp 2 hp rfl,gp 3 hp rfl,trivial⟩ fun hS=>?_)
      refine W1 17 (by kernel_rfl) rfl ?_
      have hp:=fD.takeRow (show neL x13 none from trivial) b10h ex14 (hp.get 2 rfl)
      have hp:=r7 hp
      have hwx15:=Q7.away hp 1 rfl
      refine lY (wk0 rfl) rfl rfl hE hp rfl rG rfl rfl 0 rfl rfl (l2:=List.map (hd (utw4).2) ([(p0.watches).2.length]:List Nat)) rfl (fun j u hj=>by have:=Hp.cN 2 rfl 0 _ (bV rfl) w hp j u (by simpa[flat,Enc.enc,hwx15] using hj);simpa using this) (qI ex15) ?_
      intro v4 a w hE hp
      have hp:=r7 hp
      refine aC (aI ⟨gp0 hp,dead (by kernel_rfl),gp 4 hp rfl,trivial⟩ fun hS=>?_)
      obtain⟨b12,b12o,b12r,b12v⟩:=Q7.adr (hp.get 1 rfl) qL b10h
      rw[←gQ ex16] at b12r
      refine T0 18 hE hS rfl rfl rfl (by kernel_rfl) (fun _=>aU rfl hE rfl rfl b12r) fun a hE hS=>?_
      refine W1 19 (by kernel_rfl) rfl ?_
      obtain⟨sl2,sl2e⟩:=aA.toSl hp 0 rfl
      refine s_wput (wk0 rfl) rfl hE sl2e ((hp.get 1 rfl).get 1 rfl) rfl rfl rfl (show neL x13 none from trivial) b10h ex14 b12v oL.size_ ?_
      intro w hp
      have hp:=r6 hp
      refine aC (aI ⟨gp0 hp,dead (by kernel_rfl),gp 3 hp rfl,trivial⟩ fun hS=>?_)
      exact eG (by kernel_rfl) ⟨(utw4.1.set x13.toNat sl2,utw4.2),_,hE.cut ⟨rfl,rfl,rfl,rfl,rfl,trivial⟩,hp⟩
     refine dZ rfl ?_
     refine iP (wk0 rfl) rfl rfl hE hp rfl [(0,(.agg #[w10]))] ⟨⟨rfl,rfl⟩,trivial⟩ [w10] 110 (fun w=>by have hc0:=aA.cells hp 0 rfl;simp only[Value.cells] at hc0;simp[Instr.buildSlice,Instr.fill,Value.cells,hc0,go_sem]) ?_
     intro a w b13 hE hp
     have hp:=r6 hp
     refine aC (aI ⟨gp0 hp,gp 2 hp rfl,gp 3 hp rfl,trivial⟩ fun hS=>?_)
     refine W1 11 (by kernel_rfl) rfl ?_
     refine Cl hE rfl rfl zK (iQ x11 hp x13 ex13) ⟨rfl,trivial⟩ fun v a w hR hE=>?_
     obtain⟨rfl,hp⟩:=hR
     have hp:=r6 hp
     refine aC (aI ⟨gp0 hp,gp 2 hp rfl,gp 3 hp rfl,trivial⟩ fun hS=>?_)
     obtain⟨b14u,b14,b14o,b14h,b14r,b14v,b14f⟩:=fD.hdr (hp.get 2 rfl) qL ex14
     refine T0 12 hE hS rfl rfl rfl (by kernel_rfl) (fun _=>aU rfl hE rfl rfl b14r) fun a hE hS=>T 13 1 hE hS rfl rfl rfl (by kernel_rfl) (fun _=>bD rfl hE rfl (fun w hw=>bH oL (b14f 0 _ rfl _ _ w (hw.get 0 rfl)))) fun a hE hS=>?_
     refine W1 17 (by kernel_rfl) rfl ?_
     have hp:=fD.takeRow (show neL x13 none from trivial) b14h ex14 (hp.get 2 rfl)
     have hp:=r7 hp
     have hwx15:=Q7.away hp 1 rfl
     refine lY (wk0 rfl) rfl rfl hE hp rfl rG rfl rfl 0 rfl rfl (l2:=List.map (hd (utw4).2) ([(p0.watches).2.length]:List Nat)) rfl (fun j u hj=>by have:=Hp.cN 2 rfl 0 _ (bV rfl) w hp j u (by simpa[flat,Enc.enc,hwx15] using hj);simpa using this) (qI ex15) ?_
     intro v5 a w hE hp
     have hp:=r7 hp
     refine aC (aI ⟨gp0 hp,dead (by kernel_rfl),gp 4 hp rfl,trivial⟩ fun hS=>?_)
     obtain⟨b15,b15o,b15r,b15v⟩:=Q7.adr (hp.get 1 rfl) qL b14h
     rw[←gQ ex16] at b15r
     refine T0 18 hE hS rfl rfl rfl (by kernel_rfl) (fun _=>aU rfl hE rfl rfl b15r) fun a hE hS=>?_
     refine W1 19 (by kernel_rfl) rfl ?_
     obtain⟨sl3,sl3e⟩:=aA.toSl hp 0 rfl
     refine s_wput (wk0 rfl) rfl hE sl3e ((hp.get 1 rfl).get 1 rfl) rfl rfl rfl (show neL x13 none from trivial) b14h ex14 b15v oL.size_ ?_
     intro w hp
     have hp:=r6 hp
     refine aC (aI ⟨gp0 hp,dead (by kernel_rfl),gp 3 hp rfl,trivial⟩ fun hS=>?_)
     exact eG (by kernel_rfl) ⟨(utw4.1.set x13.toNat sl3,utw4.2),_,hE.cut ⟨rfl,rfl,rfl,rfl,rfl,trivial⟩,hp⟩
    refine dZ rfl ?_
    refine iP (wk0 rfl) rfl rfl hE hp rfl [(0,(.agg #[w10]))] ⟨⟨rfl,rfl⟩,trivial⟩ [w10] 110 (fun w=>by have hc0:=aA.cells hp 0 rfl;simp only[Value.cells] at hc0;simp[Instr.buildSlice,Instr.fill,Value.cells,hc0,go_sem]) ?_
    intro a w b16 hE hp
    have hp:=r6 hp
    refine aC (aI ⟨gp0 hp,gp 2 hp rfl,gp 3 hp rfl,trivial⟩ fun hS=>?_)
    refine W1 5 (by kernel_rfl) rfl ?_
    refine Cl hE rfl rfl zK (iQ x11 hp x12 ex12) ⟨rfl,trivial⟩ fun v a w hR hE=>?_
    obtain⟨rfl,hp⟩:=hR
    have hp:=r6 hp
    refine aC (aI ⟨gp0 hp,gp 2 hp rfl,gp 3 hp rfl,trivial⟩ fun hS=>?_)
    refine W1 11 (by kernel_rfl) rfl ?_
    refine Cl hE rfl rfl zK (iQ x11 hp x13 ex13) ⟨rfl,trivial⟩ fun v a w hR hE=>?_
    obtain⟨rfl,hp⟩:=hR
    have hp:=r6 hp
    refine aC (aI ⟨gp0 hp,gp 2 hp rfl,gp 3 hp rfl,trivial⟩ fun hS=>?_)
    obtain⟨b17u,b17,b17o,b17h,b17r,b17v,b17f⟩:=fD.hdr (hp.get 2 rfl) qL ex14
    refine T0 12 hE hS rfl rfl rfl (by kernel_rfl) (fun _=>aU rfl hE rfl rfl b17r) fun a hE hS=>T 13 1 hE hS rfl rfl rfl (by kernel_rfl) (fun _=>bD rfl hE rfl (fun w hw=>bH oL (b17f 0 _ rfl _ _ w (hw.get 0 rfl)))) fun a hE hS=>?_
    refine W1 17 (by kernel_rfl) rfl ?_
    have hp:=fD.takeRow (show neL x13 none from trivial) b17h ex14 (hp.get 2 rfl)
    have hp:=r7 hp
    have hwx15:=Q7.away hp 1 rfl
    refine lY (wk0 rfl) rfl rfl hE hp rfl rG rfl rfl 0 rfl rfl (l2:=List.map (hd (utw4).2) ([(p0.watches).2.length]:List Nat)) rfl (fun j u hj=>by have:=Hp.cN 2 rfl 0 _ (bV rfl) w hp j u (by simpa[flat,Enc.enc,hwx15] using hj);simpa using this) (qI ex15) ?_
    intro v6 a w hE hp
    have hp:=r7 hp
    refine aC (aI ⟨gp0 hp,dead (by kernel_rfl),gp 4 hp rfl,trivial⟩ fun hS=>?_)
    obtain⟨b18,b18o,b18r,b18v⟩:=Q7.adr (hp.get 1 rfl) qL b17h
    rw[←gQ ex16] at b18r
    refine T0 18 hE hS rfl rfl rfl (by kernel_rfl) (fun _=>aU rfl hE rfl rfl b18r) fun a hE hS=>?_
    refine W1 19 (by kernel_rfl) rfl ?_
    obtain⟨sl4,sl4e⟩:=aA.toSl hp 0 rfl
    refine s_wput (wk0 rfl) rfl hE sl4e ((hp.get 1 rfl).get 1 rfl) rfl rfl rfl (show neL x13 none from trivial) b17h ex14 b18v oL.size_ ?_
    intro w hp
    have hp:=r6 hp
    refine aC (aI ⟨gp0 hp,dead (by kernel_rfl),gp 3 hp rfl,trivial⟩ fun hS=>?_)
    exact eG (by kernel_rfl) ⟨(utw4.1.set x13.toNat sl4,utw4.2),_,hE.cut ⟨rfl,rfl,rfl,rfl,rfl,trivial⟩,hp⟩
   rintro a w ⟨yut4,y15,hE,hp⟩
   refine aB ?_
   obtain⟨x17,ex17,hl2⟩:=bnd hl2
   refine V hE hp rfl (dD rfl hE rfl rfl (aZ ex17)) fun a hE=>S hE 1 rfl fun a hE=>aC ?_
   exact⟨_,(oj hl2).symm,_,yut4,hE.cut ⟨rfl,rfl,rfl,rfl,rfl,trivial⟩,(((((((hp.get 5 rfl).get 5 rfl).get 5 rfl).get 3 rfl).get 5 rfl).get 5 rfl).drop)⟩
  replace hl2:=(ie hc9).symm.trans hl2
  refine dR ?_
  refine⟨_,(oj hl2).symm,fun hbb=>?_⟩
  subst hbb
  exact⟨_,utw4,hE.cut trivial,hp⟩
 rintro a w ⟨w4,utw4,hE,hp⟩
 have hp:=fD.back ((hp.get 1 rfl).get 1 rfl)
 have hp:=r4 hp
 obtain rfl:=oj hm
 exact wZ hE rfl ⟨_,rfl,_,_,_,_,rfl,((((hp.get 0 rfl).get 3 rfl).get 3 rfl).get 3 rfl)⟩
theorem I7 {Z:World} {ρ:PH} {L:List bZ} {w:World} (bp0:Nat) (p0:PEng) (aV:Value) (aT:Value) (aN:Value) (aF:List Sl×List Sl) (p1:(List Int)) (vp1:Value) (hp1:bW ρ vp1 p1) (hp:Hp Z ρ (Pt bp0 (.cells #[aV,aT,(Iv p0.head),aN,(.bool p0.fails)] 107 (0,0))::aA 3 aV p0.value::aA 3 aT p0.trail::fD 108 110 3 aN aF (p0.watches:WD) none none::L) w) (r:(Bool×PEng)) (hm:mJ p0 p1=some r):
  Calls Try.prog 72 #[(Pv bp0 0),vp1] w (Ret fun v w'=>∃(eQ:Value) (eP:Value) (dS:Value) (dQ:List Sl×List Sl),v=(.bool r.1)∧Hp Z ρ (Pt bp0 (.cells #[eQ,eP,(Iv r.2.head),dS,(.bool r.2.fails)] 107 (0,0))::aA 3 eQ r.2.value::aA 3 eP r.2.trail::fD 108 110 3 dS dQ (r.2.watches:WD) none none::L) w'):=by
 refine enter (N:=80) Try.func72 rfl rfl [(0,(Pv bp0 0)),(1,vp1)] rfl (bM ⟨rfl,rfl,trivial⟩) fun a hE=>?_
 unfold mJ at hm
 refine aG (aB ?_)
 refine S hE 1 rfl fun a hE=>aC (aG ?_)
 refine aG (aB ?_)
 refine S hE 2 rfl fun a hE=>V hE hp rfl (xf hE J3 rfl rfl) fun a hE=>V hE hp rfl (xl hE sO 0 rfl rfl rfl rfl) fun a hE=>aC ?_
 refine dK hE rfl (fun hc1=>?_) (fun hc1=>?_)
 ·replace hm:=(it hc1).symm.trans hm
  refine aG (aB ?_)
  refine S hE 1 rfl fun a hE=>aC (dE ?_)
  obtain rfl:=oj hm
  exact iH hE rfl rfl ⟨_,rfl,_,_,_,_,rfl,hp⟩
 replace hm:=(ie hc1).symm.trans hm
 refine bP (aG ?_)
 refine aB (S hE 2 rfl fun a hE=>?_)
 refine V hE hp rfl (xf hE sF rfl rfl) fun a hE=>V hE hp rfl (xl hE bJ 0 rfl rfl rfl rfl) fun a hE=>V hE hp rfl (dL rfl hE rfl (aA.len hp 2 rfl bC)) fun a hE=>S hE 1 rfl fun a hE=>aC (aG ?_)
 refine aB (S hE 1 rfl fun a hE=>?_)
 refine aC (aG ?_)
 refine aG (aB ?_)
 refine S hE 1 rfl fun a hE=>V hE hp rfl (dL rfl hE rfl (bW.len hp1 bC)) fun a hE=>S hE 1 rfl fun a hE=>aC ?_
 obtain⟨b1,hc2,hm⟩:=bnd hm
 refine dH (fun a w=>∃(w2:Value) (w3:Value),Env 80 [(0,(Pv bp0 0)),(5,(Iv (p0.trail.length:Int))),(6,(.bool b1.1))] a∧Hp Z ρ (Pt bp0 (.cells #[w2,w3,(Iv b1.2.1),aN,(.bool b1.2.2.1)] 107 (0,0))::aA 3 w2 b1.2.2.2.1::aA 3 w3 b1.2.2.2.2::fD 108 110 3 aN aF (p0.watches:WD) none none::L) w) ?_ ?_
 ·refine eU hc2 (fun s a w=>∃(w2:Value) (w3:Value),Env 80 [(0,(Pv bp0 0)),(5,(Iv (p0.trail.length:Int))),(6,(.bool s.1)),(20,vp1),(21,(Iv (p1.length:Int))),(22,(Iv s.2.1))] a∧Hp Z ρ (Pt bp0 (.cells #[w2,w3,(Iv s.2.2.1),aN,(.bool s.2.2.2.1)] 107 (0,0))::aA 3 w2 s.2.2.2.2.1::aA 3 w3 s.2.2.2.2.2::fD 108 110 3 aN aF (p0.watches:WD) none none::L) w) ?_ ?_
  ·exact⟨_,_,hE.cut ⟨rfl,rfl,rfl,rfl,rfl,rfl,trivial⟩,hp⟩
  rintro⟨aW,bU,dJ,jB,kD,lF⟩ st a w ⟨w2,w3,hE,hp⟩ hl1
  dsimp only at hE hp hl1
  unfold iM at hl1
  refine aG (aB ?_)
  refine S hE 1 rfl fun a hE=>aC (aG ?_)
  refine dK hE rfl (fun hc3=>?_) (fun hc3=>?_)
  ·replace hl1:=(it hc3).symm.trans hl1
   refine bP (aG ?_)
   refine dF (aG ?_)
   refine aB ?_
   obtain⟨x1,ex1,hl1⟩:=bnd hl1
   obtain⟨b2,b2o,b2c,b2r,b2k,b2f⟩:=bW.at hp1 bC ex1
   obtain rfl:b2c=Enc.enc x1:=b2k
   have b2f:AtP ρ b2 b2o [(Iv x1)]:=b2f
   refine V hE hp rfl (aU rfl hE rfl rfl b2r) fun a hE=>V hE hp rfl (bD rfl hE rfl (fun w hw=>bH bG (b2f.c 0 rfl w hw))) fun a hE=>S hE 1 rfl fun a hE=>aC (aG ?_)
   refine aG (aB ?_)
   refine S hE 2 rfl fun a hE=>?_
   obtain⟨x2,ex2,hl1⟩:=bnd hl1
   refine Cl hE rfl rfl ent80 (nZ bp0 (PEng.mk kD lF dJ p0.watches jB) w2 w3 aN aF x1 ((((hp.get 3 rfl).get 3 rfl).get 3 rfl).get 3 rfl) x2 ex2) ⟨rfl,rfl,trivial⟩ fun v a w hR hE=>?_
   obtain⟨rfl,hp⟩:=hR
   have hp:=r4 hp
   refine S hE 1 rfl fun a hE=>aC ?_
   refine dK hE rfl (fun hc4=>?_) (fun hc4=>?_)
   ·replace hl1:=(it hc4).symm.trans hl1
    refine aG (aB ?_)
    refine S hE 1 rfl fun a hE=>aC ?_
    refine dR ?_
    refine⟨_,(oj hl1).symm,fun hbb=>?_⟩
    subst hbb
    exact⟨_,_,hE.cut ⟨rfl,rfl,rfl,trivial⟩,hp⟩
   replace hl1:=(ie hc4).symm.trans hl1
   refine bP (aG ?_)
   refine aB (S hE 2 rfl fun a hE=>?_)
   obtain⟨x3,ex3,hl1⟩:=bnd hl1
   refine Cl hE rfl rfl ent80 (nZ bp0 (PEng.mk kD lF dJ p0.watches jB) w2 w3 aN aF x1 ((((hp.get 3 rfl).get 3 rfl).get 3 rfl).get 3 rfl) x3 ex3) ⟨rfl,rfl,trivial⟩ fun v a w hR hE=>?_
   obtain⟨rfl,hp⟩:=hR
   have hp:=r4 hp
   refine S hE 1 rfl fun a hE=>aC ?_
   have hE:=hE.cut (E':=[(0,(Pv bp0 0)),(5,(Iv (p0.trail.length:Int))),(6,(.bool aW)),(8,(Iv x1)),(20,vp1),(21,(Iv (p1.length:Int))),(22,(Iv bU)),(33,(.bool (decide (x3=0))))]) ⟨rfl,rfl,rfl,rfl,rfl,rfl,rfl,rfl,trivial⟩
   refine dK hE rfl (fun hc5=>?_) (fun hc5=>?_)
   ·replace hl1:=(it hc5).symm.trans hl1
    refine aB (S hE 2 rfl fun a hE=>?_)
    obtain⟨x4,ex4,hl1⟩:=bnd hl1
    refine V hE hp rfl (mX rfl hE rfl (aZ ex4)) fun a hE=>?_
    obtain⟨x5,ex5,hl1⟩:=bnd hl1
    refine Cl hE rfl rfl ent81 (tJ bp0 (PEng.mk kD lF dJ p0.watches jB) w2 w3 aN aF x4 ((((hp.get 3 rfl).get 3 rfl).get 3 rfl).get 3 rfl) x5 ex5) ⟨rfl,rfl,trivial⟩ fun v a w hR hE=>?_
    obtain⟨lD,lC,rfl,hp⟩:=hR
    have hp:=r4 hp
    refine aC (aB ?_)
    obtain⟨x6,ex6,hl1⟩:=bnd hl1
    refine V hE hp rfl (dD rfl hE rfl rfl (aZ ex6)) fun a hE=>S hE 1 rfl fun a hE=>aC ?_
    exact⟨_,(oj hl1).symm,_,_,hE.cut ⟨rfl,rfl,rfl,rfl,rfl,rfl,trivial⟩,hp⟩
   replace hl1:=(ie hc5).symm.trans hl1
   refine bP (aB ?_)
   obtain⟨x7,ex7,hl1⟩:=bnd hl1
   refine V hE hp rfl (dD rfl hE rfl rfl (aZ ex7)) fun a hE=>S hE 1 rfl fun a hE=>aC ?_
   exact⟨_,(oj hl1).symm,_,_,hE.cut ⟨rfl,rfl,rfl,rfl,rfl,rfl,trivial⟩,hp⟩
  replace hl1:=(ie hc3).symm.trans hl1
  refine dR ?_
  refine⟨_,(oj hl1).symm,fun hbb=>?_⟩
  subst hbb
  exact⟨_,_,hE.cut ⟨rfl,rfl,rfl,trivial⟩,hp⟩
 rintro a w ⟨w2,w3,hE,hp⟩
 refine aG (aB ?_)
 refine S hE 2 rfl fun a hE=>?_
 obtain⟨m1,hg1,hm⟩:=bnd hm
 refine lZ [_,_,_] (fun a w=>∃(w2:Value) (w3:Value) (w4:Value) (utw4:List Sl×List Sl),Env 80 [(0,(Pv bp0 0)),(5,(Iv (p0.trail.length:Int))),(43,(.bool m1.1))] a∧Hp Z ρ (Pt bp0 (.cells #[w2,w3,(Iv m1.2.1),w4,(.bool m1.2.2.1)] 107 (0,0))::aA 3 w2 m1.2.2.2.1::aA 3 w3 m1.2.2.2.2.1::fD 108 110 3 w4 utw4 (m1.2.2.2.2.2:WD) none none::L) w) ?_ ?_
 ·rcases Bool.eq_false_or_eq_true b1.1 with hc6|hc6
  ·
   replace hg1:=(it hc6).symm.trans hg1
   refine Gs hE hc6 rfl rfl fun a hE=>?_
   obtain⟨x8,ex8,hg1⟩:=bnd hg1
   refine Cg hE hc6 rfl rfl ent82 (tY bp0 (PEng.mk b1.2.2.2.1 b1.2.2.2.2 b1.2.1 p0.watches b1.2.2.1) w2 w3 aN aF ((((hp.get 3 rfl).get 3 rfl).get 3 rfl).get 3 rfl) x8 ex8) ⟨rfl,trivial⟩ fun v a w hR hE=>?_
   obtain⟨H8,H7,xC,rH,rfl,hp⟩:=hR
   have hp:=r4 hp
   refine pk1 hE hc6 rfl rfl rfl rfl fun a hE=>?_
   obtain rfl:=oj hg1
   exact aC ⟨_,_,_,rH,hE.cut ⟨rfl,rfl,rfl,trivial⟩,hp⟩
  replace hg1:=(ie hc6).symm.trans hg1
  refine Gk hE hc6 rfl fun a hE=>Gk hE hc6 rfl fun a hE=>pk0 hE hc6 rfl rfl rfl rfl fun a hE=>?_
  obtain rfl:=oj hg1
  exact aC ⟨_,_,_,aF,hE.cut ⟨rfl,rfl,rfl,trivial⟩,hp⟩
 rintro a w ⟨w2,w3,w4,utw4,hE,hp⟩
 refine S hE 1 rfl fun a hE=>aC (aG ?_)
 refine aG (aB ?_)
 refine S hE 2 rfl fun a hE=>V hE hp rfl (xf hE sF rfl rfl) fun a hE=>V hE hp rfl (xl hE bJ 0 rfl rfl rfl rfl) fun a hE=>S hE 1 rfl fun a hE=>?_
 obtain⟨x9,ex9,hm⟩:=bnd hm
 obtain⟨v1,v1r,v1f⟩:=aA.viewF hp 2 rfl bC (some (.i64,(p0.trail.length:Int))) none rfl rfl ex9
 refine V hE hp rfl (wV rfl hE rfl (some (.i64,(p0.trail.length:Int))) none (by exact rfl) (by exact trivial) v1r) fun a hE=>V hE hp rfl (dL rfl hE rfl (D5.len v1f hp 2 rfl bC)) fun a hE=>S hE 1 rfl fun a hE=>aC ?_
 obtain⟨b3,hc7,hm⟩:=bnd hm
 refine dH (fun a w=>∃(w2:Value),Env 80 [(0,(Pv bp0 0)),(5,(Iv (p0.trail.length:Int))),(6,(.bool m1.1))] a∧Hp Z ρ (Pt bp0 (.cells #[w2,w3,(Iv m1.2.1),w4,(.bool m1.2.2.1)] 107 (0,0))::aA 3 w2 b3::aA 3 w3 m1.2.2.2.2.1::fD 108 110 3 w4 utw4 (m1.2.2.2.2.2:WD) none none::L) w) ?_ ?_
 ·refine eU hc7 (fun s a w=>∃(w2:Value),Env 80 [(0,(Pv bp0 0)),(5,(Iv (p0.trail.length:Int))),(6,(.bool m1.1)),(49,v1),(50,(Iv (x9.length:Int))),(51,(Iv s.1))] a∧Hp Z ρ (Pt bp0 (.cells #[w2,w3,(Iv m1.2.1),w4,(.bool m1.2.2.1)] 107 (0,0))::aA 3 w2 s.2::aA 3 w3 m1.2.2.2.2.1::fD 108 110 3 w4 utw4 (m1.2.2.2.2.2:WD) none none::L) w) ?_ ?_
  ·exact⟨_,hE.cut ⟨rfl,rfl,rfl,rfl,rfl,rfl,trivial⟩,hp⟩
  rintro⟨dG,fB⟩ st a w ⟨w2,hE,hp⟩ hl2
  dsimp only at hE hp hl2
  unfold iO at hl2
  refine aG (aB ?_)
  refine S hE 1 rfl fun a hE=>aC (aG ?_)
  refine dK hE rfl (fun hc8=>?_) (fun hc8=>?_)
  ·replace hl2:=(it hc8).symm.trans hl2
   refine bP (aG ?_)
   refine dF (aG ?_)
   refine aB ?_
   obtain⟨x10,ex10,hl2⟩:=bnd hl2
   obtain⟨b4,b4o,b4r,b4f⟩:=D5.at v1f hp 2 rfl bC ex10
   refine V hE hp rfl (aU rfl hE rfl rfl b4r) fun a hE=>V hE hp rfl (bD rfl hE rfl (fun w hw=>bH bG (b4f 0 _ rfl _ _ w (hw.get 2 rfl)))) fun a hE=>S hE 1 rfl fun a hE=>aC (aB ?_)
   refine S hE 2 rfl fun a hE=>V hE hp rfl (xf hE aC9 rfl rfl) fun a hE=>V hE hp rfl (xl hE bJ 0 rfl rfl rfl rfl) fun a hE=>S hE 2 rfl fun a hE=>?_
   obtain⟨x11,ex11,hl2⟩:=bnd hl2
   refine V hE hp rfl (mX rfl hE rfl (aZ ex11)) fun a hE=>V hE hp rfl (v:=(Iv (max x10 x11))) (ex_max rfl hE rfl rfl) fun a hE=>?_
   obtain⟨x12,ex12,hl2⟩:=bnd hl2
   obtain⟨b5,b5o,b5r,b5v,b5f⟩:=aA.at hp 1 rfl bC ex12
   refine V hE hp rfl (aU rfl hE rfl rfl b5r) fun a hE=>?_
   refine mY (wk0 rfl) rfl hE hp rfl rfl rfl 1 rfl ex12 b5v 0 (e':=0) bG.size_ rfl rfl rfl ⟨rfl,rfl⟩ ?_
   intro w hp
   have hp:=r4 hp
   refine aC (aB ?_)
   obtain⟨x13,ex13,hl2⟩:=bnd hl2
   refine V hE hp rfl (dD rfl hE rfl rfl (aZ ex13)) fun a hE=>S hE 1 rfl fun a hE=>aC ?_
   exact⟨_,(oj hl2).symm,_,hE.cut ⟨rfl,rfl,rfl,rfl,rfl,rfl,trivial⟩,hp⟩
  replace hl2:=(ie hc8).symm.trans hl2
  refine dR ?_
  refine⟨_,(oj hl2).symm,fun hbb=>?_⟩
  subst hbb
  exact⟨_,hE.cut ⟨rfl,rfl,rfl,trivial⟩,hp⟩
 rintro a w ⟨w2,hE,hp⟩
 refine aG (aB ?_)
 refine S hE 4 rfl fun a hE=>V hE hp rfl (xf hE sF rfl rfl) fun a hE=>V hE hp rfl (xl hE bJ 0 rfl rfl rfl rfl) fun a hE=>S hE 1 rfl fun a hE=>?_
 obtain⟨x14,ex14,hm⟩:=bnd hm
 obtain⟨v2,v2r,hp⟩:=aA.head (hp.get 2 rfl) bC (some (.i64,(p0.trail.length:Int))) rfl ex14
 have hp:=r4 hp
 refine V hE hp rfl (wV rfl hE rfl none (some (.i64,(p0.trail.length:Int))) (by exact trivial) (by exact rfl) v2r) fun a hE=>S hE 2 rfl fun a hE=>V hE hp rfl (xf hE sF rfl rfl) fun a hE=>?_
 refine oK (wk0 rfl) rfl hE hp rfl rfl rfl 1 rfl bJ.size_ (aA.cells hp 0 rfl) (aA.one hp 0 rfl) rfl [w2,v2,(Iv m1.2.1),w4,(.bool m1.2.2.1)] rfl ?_
 intro w hp
 have hp:=r4 hp
 refine S hE 1 rfl fun a hE=>V hE hp rfl (xf hE yP rfl rfl) fun a hE=>?_
 refine dO (wk0 rfl) rfl hE hp rfl rfl rfl 1 rfl bG.size_ rfl (bY ⟨rfl,trivial⟩) [w2,v2,(Iv (p0.trail.length:Int)),w4,(.bool m1.2.2.1)] rfl ?_
 intro w hp
 have hp:=r4 hp
 refine aC ?_
 have hE:=hE.cut (E':=[(6,(.bool m1.1))]) ⟨rfl,trivial⟩
 refine aG (aB ?_)
 refine S hE 3 rfl fun a hE=>aC (dE ?_)
 obtain rfl:=oj hm
 exact iH hE rfl rfl ⟨_,rfl,_,_,_,_,rfl,((((hp.get 3 rfl).get 1 rfl).get 3 rfl).get 3 rfl)⟩
theorem aI3 {Z:World} {ρ:PH} {L:List bZ} {w:World} (p0:Formula) (aH:Value) (bI:bW ρ aH p0.clauses) (hp:Hp Z ρ (L) w) (r:PEng) (hm:pW p0=some r):
  Calls Try.prog 71 #[(.agg #[(Iv p0.vars),aH])] w (Ret fun v w'=>∃(br1:Nat) (yM:Value) (yL:Value) (uU:Value) (tH:List Sl×List Sl),v=(Pv br1 0)∧Hp Z ρ (Pt br1 (.cells #[yM,yL,(Iv r.head),uU,(.bool r.fails)] 107 (0,0))::aA 3 yM r.value::aA 3 yL r.trail::fD 108 110 3 uU tH (r.watches:WD) none none::L) w'):=by
 refine enter (N:=29) Try.func71 rfl rfl [(0,(.agg #[(Iv p0.vars),aH]))] rfl (bM ⟨rfl,trivial⟩) fun a hE=>?_
 unfold pW at hm
 refine aG (aB ?_)
 refine rO (wk0 rfl) rfl rfl hE hp rfl (v:=(.agg #[(Iv p0.vars),aH])) rfl ?_
 intro a w b1 hE hp
 have hp:=r1 hp
 refine S hE 1 rfl fun a hE=>aC (aG ?_)
 obtain⟨x1,ex1,hm⟩:=bnd hm
 obtain⟨x2,ex2,hm⟩:=bnd hm
 obtain⟨x3,ex3,hm⟩:=bnd hm
 obtain⟨x4,ex4,hm⟩:=bnd hm
 obtain⟨x5,ex5,hm⟩:=bnd hm
 have hp:=hp.drew
 refine jS ([([],At0 Z ρ),([],At1 Z ρ (Pt b1 (.cells #[(Iv p0.vars),aH] 24 (0,0))))]:Facts) (fun a w=>∃y8:Nat,∃y7:Value,∃yut7:List Sl×List Sl,∃y6:Value,Env 29 [(1,(Pv b1 0)),(3,(Pv y8 0))] a∧Hp Z ρ (Pt y8 (.cells #[y6,N0,(Iv 0),y7,(.bool false)] 107 (0,0))::fD 108 110 3 y7 yut7 ((x5,[]):WD) none none::aA 3 y6 x2::Pt b1 (.cells #[(Iv p0.vars),aH] 24 (0,0))::L) w) (by kernel_rfl) ⟨fun _=>⟨_,hp⟩,fun _=>⟨_,(hp.get 0 rfl)⟩,trivial⟩ (fun hS=>?_) ?_
 ·
  generalize w.drew=w at hS hp⊢
  refine T0 0 hE hS rfl rfl rfl (by kernel_rfl) (fun _=>xf hE lM rfl rfl) fun a hE hS=>T 1 1 hE hS rfl rfl rfl (by kernel_rfl) (fun _=>xl hE bG 0 rfl rfl rfl rfl) fun a hE hS=>T0 2 hE hS rfl rfl rfl (by kernel_rfl) (fun _=>dD rfl hE rfl rfl (aZ ex1)) fun a hE hS=>T0 4 hE hS rfl rfl rfl (by kernel_rfl) (fun _=>xf hE lM rfl rfl) fun a hE hS=>T 5 1 hE hS rfl rfl rfl (by kernel_rfl) (fun _=>xl hE bG 0 rfl rfl rfl rfl) fun a hE hS=>T0 6 hE hS rfl rfl rfl (by kernel_rfl) (fun _=>yO rfl hE rfl rfl (aZ ex3)) fun a hE hS=>T0 7 hE hS rfl rfl rfl (by kernel_rfl) (fun _=>dD rfl hE rfl rfl (aZ ex4)) fun a hE hS=>?_
  refine jH [3,8] (by kernel_rfl) rfl ?_
  refine List.forall_mem_cons.2 ⟨?_,List.forall_mem_cons.2 ⟨?_,fun _ h=>absurd h (by simp)⟩⟩
  ·
   refine dZ rfl ?_
   refine fH (wk0 rfl) rfl rfl hE hp rfl (El:=3) (bytes:=8) (by kernel_rfl) (0:Int) (by kernel_rfl) (by kernel_rfl) rfl rfl ex2 ?_
   intro v3 a w hE hp
   have hp:=r2 hp
   refine aC (aI ⟨gp0 hp,gp 1 hp rfl,trivial⟩ fun hS=>?_)
   refine W1 8 (by kernel_rfl) rfl ?_
   refine s_wmakeG (wk0 rfl) rfl rfl hE hp rfl (T:=108) (bytes:=24) (by kernel_rfl) (by kernel_rfl) rfl rfl rfl ex5 110 3 ?_
   intro v4 ut2 a w hE hp
   have hp:=r3 hp
   refine aC (aI ⟨gp0 hp,gp 2 hp rfl,trivial⟩ fun hS=>?_)
   refine T0 9 hE hS rfl rfl rfl (by kernel_rfl) (v:=(.agg #[v3,N0,(Iv 0),v4,(.bool false)])) (fun _=>qN rfl hE [(0,v3),(3,v4)] (by exact⟨⟨rfl,rfl⟩,⟨rfl,rfl⟩,trivial⟩) (fun w=>by have hc0:=aA.cells hp 1 rfl;simp only[Value.cells] at hc0;have hc1:=fD.cells hp 0 rfl;simp only[Value.cells] at hc1;simp[Instr.build,Instr.fill,Value.cells,hc0,hc1,go_sem])) fun a hE hS=>?_
   refine W1 10 (by kernel_rfl) rfl ?_
   refine rO (wk0 rfl) rfl rfl hE hp rfl (v:=(.agg #[v3,N0,(Iv 0),v4,(.bool false)])) rfl ?_
   intro a w b3 hE hp
   have hp:=r4 hp
   refine aC (aI ⟨gp0 hp,gp 3 hp rfl,trivial⟩ fun hS=>?_)
   refine Ts [11] hE hS rfl rfl (by kernel_rfl) fun a hE hS=>?_
   exact eG (by kernel_rfl) ⟨_,_,ut2,_,hE.cut ⟨rfl,rfl,trivial⟩,hp⟩
  refine dZ rfl ?_
  refine s_wmakeG (wk0 rfl) rfl rfl hE hp rfl (T:=108) (bytes:=24) (by kernel_rfl) (by kernel_rfl) rfl rfl rfl ex5 110 3 ?_
  intro v5 ut3 a w hE hp
  have hp:=r2 hp
  refine aC (aI ⟨gp0 hp,gp 1 hp rfl,trivial⟩ fun hS=>?_)
  refine W1 3 (by kernel_rfl) rfl ?_
  refine fH (wk0 rfl) rfl rfl hE hp rfl (El:=3) (bytes:=8) (by kernel_rfl) (0:Int) (by kernel_rfl) (by kernel_rfl) rfl rfl ex2 ?_
  intro v6 a w hE hp
  have hp:=r3 hp
  refine aC (aI ⟨gp0 hp,gp 2 hp rfl,trivial⟩ fun hS=>?_)
  refine T0 9 hE hS rfl rfl rfl (by kernel_rfl) (v:=(.agg #[v6,N0,(Iv 0),v5,(.bool false)])) (fun _=>qN rfl hE [(0,v6),(3,v5)] (by exact⟨⟨rfl,rfl⟩,⟨rfl,rfl⟩,trivial⟩) (fun w=>by have hc0:=aA.cells hp 0 rfl;simp only[Value.cells] at hc0;have hc1:=fD.cells hp 1 rfl;simp only[Value.cells] at hc1;simp[Instr.build,Instr.fill,Value.cells,hc0,hc1,go_sem])) fun a hE hS=>?_
  refine W1 10 (by kernel_rfl) rfl ?_
  refine rO (wk0 rfl) rfl rfl hE hp rfl (v:=(.agg #[v6,N0,(Iv 0),v5,(.bool false)])) rfl ?_
  intro a w b4 hE hp
  have hp:=r4 hp
  refine aC (aI ⟨gp0 hp,gp 3 hp rfl,trivial⟩ fun hS=>?_)
  refine Ts [11] hE hS rfl rfl (by kernel_rfl) fun a hE hS=>?_
  exact eG (by kernel_rfl) ⟨_,_,ut3,_,hE.cut ⟨rfl,rfl,trivial⟩,((((hp.get 3 rfl).get 2 rfl).get 3 rfl).get 3 rfl)⟩
 rintro a w ⟨y8,y7,yut7,y6,hE,hp⟩
 refine aG (aG ?_)
 refine aB (V hE hp rfl (xf hE iL rfl rfl) fun a hE=>?_)
 refine V hE hp rfl (xl hE jD 3 rfl rfl rfl rfl) fun a hE=>V hE hp rfl (dL rfl hE rfl (bW.len bI kU)) fun a hE=>S hE 1 rfl fun a hE=>aC ?_
 have hp:=hp.emp (aA.nil (α:=Int) 3)
 have hp:=r5 hp
 have hp:=r5 hp
 obtain⟨b5,hc1,hm⟩:=bnd hm
 refine dH (fun a w=>∃(w10:Value) (w7:Value) (utw7:List Sl×List Sl) (w6:Value),Env 29 [(3,(Pv y8 0))] a∧Hp Z ρ (aA 3 w10 b5.1::Pt y8 (.cells #[w6,w10,(Iv b5.2.1),w7,(.bool b5.2.2.1)] 107 (0,0))::fD 108 110 3 w7 utw7 (b5.2.2.2.1:WD) none none::aA 3 w6 b5.2.2.2.2::Pt b1 (.cells #[(Iv p0.vars),aH] 24 (0,0))::L) w) ?_ ?_
 ·refine eU hc1 (fun s a w=>∃(w10:Value) (w7:Value) (utw7:List Sl×List Sl) (w6:Value),Env 29 [(3,(Pv y8 0)),(18,aH),(19,(Iv (p0.clauses.length:Int))),(20,(Iv s.1))] a∧Hp Z ρ (aA 3 w10 s.2.1::Pt y8 (.cells #[w6,w10,(Iv s.2.2.1),w7,(.bool s.2.2.2.1)] 107 (0,0))::fD 108 110 3 w7 utw7 (s.2.2.2.2.1:WD) none none::aA 3 w6 s.2.2.2.2.2::Pt b1 (.cells #[(Iv p0.vars),aH] 24 (0,0))::L) w) ?_ ?_
  ·exact⟨_,_,yut7,_,hE.cut ⟨rfl,rfl,rfl,rfl,trivial⟩,hp⟩
  rintro⟨aW,bU,dJ,jB,kD,lF⟩ st a w ⟨w10,w7,utw7,w6,hE,hp⟩ hl1
  dsimp only at hE hp hl1
  unfold nM at hl1
  refine aG (aB ?_)
  refine S hE 1 rfl fun a hE=>aC ?_
  have hE:=hE.cut (E':=[(3,(Pv y8 0)),(18,aH),(19,(Iv (p0.clauses.length:Int))),(20,(Iv aW)),(21,(.bool (decide (aW<(p0.clauses.length:Int)))))]) ⟨rfl,rfl,rfl,rfl,rfl,trivial⟩
  refine aG ?_
  refine dK hE rfl (fun hc2=>?_) (fun hc2=>?_)
  ·replace hl1:=(it hc2).symm.trans hl1
   refine bP (aG ?_)
   refine dF (aG ?_)
   refine aB ?_
   obtain⟨x6,ex6,hl1⟩:=bnd hl1
   obtain⟨b6,b6o,b6c,b6r,b6k,b6f⟩:=bW.at bI kU ex6
   obtain⟨vb6,rfl,hb6⟩:=b6k
   have b6f:AtP ρ b6 b6o [vb6]:=b6f
   refine V hE hp rfl (aU rfl hE rfl rfl b6r) fun a hE=>V hE hp rfl (bD rfl hE rfl (fun w hw=>bH bJ (b6f.c 0 rfl w hw))) fun a hE=>S hE 1 rfl fun a hE=>aC (aB ?_)
   refine S hE 2 rfl fun a hE=>?_
   obtain⟨x7,ex7,hl1⟩:=bnd hl1
   refine Cl hE rfl rfl ent73 (uN y8 (PEng.mk lF bU dJ kD jB) w6 w10 w7 utw7 x6 vb6 hb6 ((((hp.get 2 rfl).get 1 rfl).get 3 rfl).get 3 rfl) x7 ex7) ⟨rfl,rfl,trivial⟩ fun v a w hR hE=>?_
   obtain⟨lD,lC,mQ,iK,rfl,hp⟩:=hR
   have hp:=r5 hp
   refine aC (aB ?_)
   obtain⟨x8,ex8,hl1⟩:=bnd hl1
   refine V hE hp rfl (dD rfl hE rfl rfl (aZ ex8)) fun a hE=>S hE 1 rfl fun a hE=>aC ?_
   exact⟨_,(oj hl1).symm,_,_,iK,_,hE.cut ⟨rfl,rfl,rfl,rfl,trivial⟩,(((((hp.get 4 rfl).get 2 rfl).get 4 rfl).get 3 rfl).get 4 rfl)⟩
  replace hl1:=(ie hc2).symm.trans hl1
  refine dR ?_
  refine⟨_,(oj hl1).symm,fun hbb=>?_⟩
  subst hbb
  exact⟨_,_,utw7,_,hE.cut ⟨rfl,trivial⟩,hp⟩
 rintro a w ⟨w10,w7,utw7,w6,hE,hp⟩
 refine aG (aB ?_)
 refine S hE 2 rfl fun a hE=>aC (dE ?_)
 obtain rfl:=oj hm
 exact iH hE rfl rfl ⟨_,rfl,_,_,_,_,_,rfl,((((((hp.get 2 rfl).get 1 rfl).get 3 rfl).get 3 rfl).get 4 rfl).drop)⟩
theorem U2 {Z:World} {ρ:PH} {L:List bZ} {w:World} {σ ε:Type} (yf:(Int×Bool)→σ→Option (Step σ ε)) (yl:Nat) (Y:Step σ ε→bZ) (hY:YieldOk Try.prog Z ρ yl (fun x:(Int×Bool)=>[(Iv x.1),(.bool x.2)]) yf Y) (ys:Step σ ε) (bcp0:Nat) (cp0:Formula) (kJ:Value) (aI5:bW ρ kJ cp0.clauses) (bcp1:Nat) (cp1:(List (List Int))) (vcp1:Value) (hcp1:bW ρ vcp1 cp1) (hp:Hp Z ρ (Pt bcp0 (.cells #[(Iv cp0.vars),kJ] 24 (0,0))::Pt bcp1 (.cells #[vcp1] 22 (0,0))::Y ys::L) w) (r:(Step σ ε)) (hm:pJ yf ys cp0 cp1=some r):
  Calls Try.prog 70 #[(.func (.yield yl) #[] #[]),(Pv bcp0 0),(Pv bcp1 0)] w (Ret fun v w'=>v= .tuple #[]∧Hp Z ρ (Pt bcp0 (.cells #[(Iv cp0.vars),kJ] 24 (0,0))::Pt bcp1 (.cells #[vcp1] 22 (0,0))::Y r::L) w'):=by
 refine enter (N:=33) Try.func70 rfl rfl [(0,(.func (.yield yl) #[] #[])),(1,(Pv bcp0 0)),(2,(Pv bcp1 0))] rfl (bM ⟨rfl,rfl,rfl,trivial⟩) fun a hE=>?_
 unfold pJ at hm
 refine aG (aB ?_)
 refine V hE hp rfl (bD rfl hE rfl (fun w hw=>gB (cs:=[(Iv cp0.vars),kJ]) fC (Hp.cN 0 rfl 0 _ (bV rfl) w hw))) fun a hE=>?_
 obtain⟨x1,ex1,hm⟩:=bnd hm
 refine Cl hE rfl rfl ent71 (aI3 cp0 kJ aI5 hp x1 ex1) ⟨rfl,trivial⟩ fun v a w hR hE=>?_
 obtain⟨br1,yM,yL,uU,tH,rfl,hp⟩:=hR
 have hp:=r7 hp
 refine S hE 1 rfl fun a hE=>aC (aG ?_)
 refine aB (V hE hp rfl (xl hE jD 5 rfl rfl rfl rfl) fun a hE=>?_)
 refine V hE hp rfl (dL rfl hE rfl (bW.len hcp1 kU)) fun a hE=>S hE 1 rfl fun a hE=>aC ?_
 obtain⟨b1,hc1,hm⟩:=bnd hm
 refine dH (fun a w=>∃s:(Int×Bool×(List Int)×(List Int)×WD×(Step σ ε)),b1= .brk s∧(∃(w5:Value) (w6:Value) (w7:Value) (utw7:List Sl×List Sl),Env 33 [] a∧Hp Z ρ (Pt br1 (.cells #[w5,w6,(Iv s.1),w7,(.bool s.2.1)] 107 (0,0))::aA 3 w5 s.2.2.1::aA 3 w6 s.2.2.2.1::fD 108 110 3 w7 utw7 (s.2.2.2.2.1:WD) none none::Pt bcp0 (.cells #[(Iv cp0.vars),kJ] 24 (0,0))::Pt bcp1 (.cells #[vcp1] 22 (0,0))::Y s.2.2.2.2.2::L) w)) ?_ ?_
 ·refine eU hc1 (fun s a w=>∃(w5:Value) (w6:Value) (w7:Value) (utw7:List Sl×List Sl),Env 33 [(0,(.func (.yield yl) #[] #[])),(4,(Pv br1 0)),(10,vcp1),(11,(Iv (cp1.length:Int))),(12,(Iv s.1))] a∧Hp Z ρ (Pt br1 (.cells #[w5,w6,(Iv s.2.1),w7,(.bool s.2.2.1)] 107 (0,0))::aA 3 w5 s.2.2.2.1::aA 3 w6 s.2.2.2.2.1::fD 108 110 3 w7 utw7 (s.2.2.2.2.2.1:WD) none none::Pt bcp0 (.cells #[(Iv cp0.vars),kJ] 24 (0,0))::Pt bcp1 (.cells #[vcp1] 22 (0,0))::Y s.2.2.2.2.2.2::L) w) ?_ ?_
  ·exact⟨_,_,_,tH,hE.cut ⟨rfl,rfl,rfl,rfl,rfl,trivial⟩,hp⟩
  rintro⟨aW,bU,dJ,jB,kD,lF,vU⟩ st a w ⟨w5,w6,w7,utw7,hE,hp⟩ hl1
  dsimp only at hE hp hl1
  unfold kQ at hl1
  refine aG (aB ?_)
  refine S hE 1 rfl fun a hE=>aC (aG ?_)
  refine dK hE rfl (fun hc2=>?_) (fun hc2=>?_)
  ·replace hl1:=(it hc2).symm.trans hl1
   refine bP (aG ?_)
   refine dF (aG ?_)
   refine aB (S hE 1 rfl fun a hE=>?_)
   obtain⟨x2,ex2,hl1⟩:=bnd hl1
   obtain⟨b2,b2o,b2c,b2r,b2k,b2f⟩:=bW.at hcp1 kU ex2
   obtain⟨vb2,rfl,hb2⟩:=b2k
   have b2f:AtP ρ b2 b2o [vb2]:=b2f
   refine V hE hp rfl (aU rfl hE rfl rfl b2r) fun a hE=>V hE hp rfl (bD rfl hE rfl (fun w hw=>bH bJ (b2f.c 0 rfl w hw))) fun a hE=>S hE 2 rfl fun a hE=>aC (aG ?_)
   refine aB (S hE 2 rfl fun a hE=>?_)
   obtain⟨x3,ex3,hl1⟩:=bnd hl1
   refine Cl hE rfl rfl ent72 (I7 br1 (PEng.mk jB kD bU lF dJ) w5 w6 w7 utw7 x2 vb2 hb2 ((((hp.get 3 rfl).get 3 rfl).get 3 rfl).get 3 rfl) x3 ex3) ⟨rfl,rfl,trivial⟩ fun v a w hR hE=>?_
   obtain⟨lD,lC,mQ,iK,rfl,hp⟩:=hR
   have hp:=r7 hp
   refine S hE 1 rfl fun a hE=>aC (aG ?_)
   refine aG ?_
   refine k_regionY ?_
   refine y_val (wk0 rfl) rfl rfl hE hp (v:=(.func (.yield yl) #[] #[])) (oC rfl hE rfl) ?_
   intro a hE
   refine y_val (wk0 rfl) rfl rfl hE hp (v:=(Iv aW)) (oC rfl hE rfl) ?_
   intro a hE
   refine y_val (wk0 rfl) rfl rfl hE hp (v:=(.bool x3.1)) (oC rfl hE rfl) ?_
   intro a hE
   obtain⟨x4,ex4,hl1⟩:=bnd hl1
   refine y_yield (wk0 rfl) rfl rfl hE rfl rfl [(Iv aW),(.bool x3.1)] ⟨rfl,rfl,trivial⟩ (YieldOk.at hY ex4 (hp.get 6 rfl)) ?_
   rintro _ a w ⟨rfl,hp⟩ hE
   have hp:=r7 hp
   refine y_val (wk0 rfl) rfl rfl hE hp (v:=(.bool (!x4.more))) (ex_not rfl hE rfl) ?_
   intro a hE
   refine y_val (wk0 rfl) rfl rfl hE hp (v:=(.bool (!x4.more))) (oC rfl hE rfl) ?_
   intro a hE
   rcases Bool.eq_false_or_eq_true (!x4.more) with hc3|hc3
   ·
    refine y_skip (wk2 hE rfl rfl rfl hc3) rfl rfl hE ?_
    intro a hE
    refine y_skip (wk2 hE rfl rfl rfl hc3) rfl rfl hE ?_
    intro a hE
    refine y_val (wk0 rfl) rfl rfl hE hp (v:=(.bool true)) (oW rfl hE rfl hc3 rfl) ?_
    intro a hE
    have hE:=hE.eqv (v':=(.bool ((!x4.more)||(!x3.1)))) (by rw[hc3];rfl)
    have hE:=hE.cut (E':=[(28,(.bool ((!x4.more)||(!x3.1)))),(0,(.func (.yield yl) #[] #[])),(4,(Pv br1 0)),(6,vb2),(10,vcp1),(11,(Iv (cp1.length:Int))),(12,(Iv aW))]) ⟨rfl,rfl,rfl,rfl,rfl,rfl,rfl,trivial⟩
    refine y_nil ?_
    refine dK hE rfl (fun hc14=>?_) (fun hc14=>?_)
    ·replace hl1:=(it hc14).symm.trans hl1
     refine dE ?_
     refine⟨_,(oj hl1).symm,fun hb=>?_⟩
     subst hb
     obtain rfl:=oj hm
     exact ret0 hE rfl ⟨_,rfl,rfl,(((((((((((hp.get 0 rfl).get 6 rfl).get 6 rfl).get 6 rfl).drop).get 5 rfl).drop).get 4 rfl).drop).get 3 rfl).drop)⟩
    replace hl1:=(ie hc14).symm.trans hl1
    refine bP (aB ?_)
    refine S hE 2 rfl fun a hE=>?_
    obtain⟨x15,ex15,hl1⟩:=bnd hl1
    refine Cl hE rfl rfl ent73 (uN br1 x3.2 lD lC mQ iK x2 vb2 hb2 ((((hp.get 4 rfl).get 4 rfl).get 4 rfl).get 4 rfl) x15 ex15) ⟨rfl,rfl,trivial⟩ fun v a w hR hE=>?_
    obtain⟨vz12_value,vz12_trail,vz12_watches,C9,rfl,hp⟩:=hR
    have hp:=r7 hp
    refine aC (aB ?_)
    obtain⟨x16,ex16,hl1⟩:=bnd hl1
    refine V hE hp rfl (dD rfl hE rfl rfl (aZ ex16)) fun a hE=>S hE 1 rfl fun a hE=>aC ?_
    exact⟨_,(oj hl1).symm,_,_,_,C9,hE.cut ⟨rfl,rfl,rfl,rfl,rfl,trivial⟩,(((((((hp.get 4 rfl).get 6 rfl).get 6 rfl).get 6 rfl).get 6 rfl).get 6 rfl).get 6 rfl)⟩
   refine y_val (wk1 hE rfl rfl rfl hc3) rfl rfl hE hp (v:=(.bool x3.1)) (oC rfl hE rfl) ?_
   intro a hE
   refine y_val (wk1 hE rfl rfl rfl hc3) rfl rfl hE hp (v:=(.bool (!x3.1))) (ex_not rfl hE rfl) ?_
   intro a hE
   refine y_val (wk0 rfl) rfl rfl hE hp (v:=(.bool (!x3.1))) (dI rfl hE rfl hc3 rfl) ?_
   intro a hE
   have hE:=hE.eqv (v':=(.bool ((!x4.more)||(!x3.1)))) (by rw[hc3];rfl)
   have hE:=hE.cut (E':=[(28,(.bool ((!x4.more)||(!x3.1)))),(0,(.func (.yield yl) #[] #[])),(4,(Pv br1 0)),(6,vb2),(10,vcp1),(11,(Iv (cp1.length:Int))),(12,(Iv aW))]) ⟨rfl,rfl,rfl,rfl,rfl,rfl,rfl,trivial⟩
   refine y_nil ?_
   refine dK hE rfl (fun hc14=>?_) (fun hc14=>?_)
   ·replace hl1:=(it hc14).symm.trans hl1
    refine dE ?_
    refine⟨_,(oj hl1).symm,fun hb=>?_⟩
    subst hb
    obtain rfl:=oj hm
    exact ret0 hE rfl ⟨_,rfl,rfl,(((((((((((hp.get 0 rfl).get 6 rfl).get 6 rfl).get 6 rfl).drop).get 5 rfl).drop).get 4 rfl).drop).get 3 rfl).drop)⟩
   replace hl1:=(ie hc14).symm.trans hl1
   refine bP (aB ?_)
   refine S hE 2 rfl fun a hE=>?_
   obtain⟨x15,ex15,hl1⟩:=bnd hl1
   refine Cl hE rfl rfl ent73 (uN br1 x3.2 lD lC mQ iK x2 vb2 hb2 ((((hp.get 4 rfl).get 4 rfl).get 4 rfl).get 4 rfl) x15 ex15) ⟨rfl,rfl,trivial⟩ fun v a w hR hE=>?_
   obtain⟨vz12_value,vz12_trail,vz12_watches,C9,rfl,hp⟩:=hR
   have hp:=r7 hp
   refine aC (aB ?_)
   obtain⟨x16,ex16,hl1⟩:=bnd hl1
   refine V hE hp rfl (dD rfl hE rfl rfl (aZ ex16)) fun a hE=>S hE 1 rfl fun a hE=>aC ?_
   exact⟨_,(oj hl1).symm,_,_,_,C9,hE.cut ⟨rfl,rfl,rfl,rfl,rfl,trivial⟩,(((((((hp.get 4 rfl).get 6 rfl).get 6 rfl).get 6 rfl).get 6 rfl).get 6 rfl).get 6 rfl)⟩
  replace hl1:=(ie hc2).symm.trans hl1
  refine dR ?_
  refine⟨_,(oj hl1).symm,fun hbb=>?_⟩
  exact⟨_,hbb.symm,_,_,_,utw7,hE.cut trivial,hp⟩
 rintro a w ⟨b1s,rfl,w5,w6,w7,utw7,hE,hp⟩
 dsimp only at hm
 obtain rfl:=oj hm
 exact wZ hE rfl ⟨_,rfl,rfl,(((((((hp.get 3 rfl).drop).get 2 rfl).drop).get 1 rfl).drop).drop)⟩
theorem c_proof_steps {Z:World} {ρ:PH} {L:List bZ} {w:World} (p0:Formula) (aH:Value) (bI:bW ρ aH p0.clauses) (p1:(List (List Int))) (vp1:Value) (hp1:bW ρ vp1 p1) (hp:Hp Z ρ (L) w) (r:Unit) (hm:wK p0 p1=some r):
  Calls Try.prog 61 #[(.agg #[(Iv p0.vars),aH]),vp1] w (Ret fun v w'=>∃(b1:Nat) (b2:Nat),v=(.func (.func 70) #[] #[.pointer (some ⟨b1,0,none⟩),.pointer (some ⟨b2,0,none⟩)])∧Hp Z ρ (Pt b1 (.cells #[(Iv p0.vars),aH] 24 (0,0))::Pt b2 (.cells #[vp1] 22 (0,0))::L) w'):=by
 refine enter (N:=6) Try.func61 rfl rfl [(0,(.agg #[(Iv p0.vars),aH])),(1,vp1)] rfl (bM ⟨rfl,rfl,trivial⟩) fun a hE=>?_
 unfold wK at hm
 refine aG (aB ?_)
 refine rO (wk0 rfl) rfl rfl hE hp rfl (v:=(.agg #[(Iv p0.vars),aH])) rfl ?_
 intro a w b1 hE hp
 have hp:=r1 hp
 refine rO (wk0 rfl) rfl rfl hE hp rfl (v:=vp1) rfl ?_
 intro a w b2 hE hp
 rw[bW.cells hp1] at hp
 have hp:=r2 hp
 refine S hE 1 rfl fun a hE=>aC (aG ?_)
 refine aB (V hE hp rfl (v:=(.func (.func 70) #[] #[(Pv b1 0),(Pv b2 0)])) (ex_fn rfl hE [(Pv b1 0),(Pv b2 0)] (by exact⟨rfl,rfl,trivial⟩)) fun a hE=>?_)
 refine S hE 1 rfl fun a hE=>aC (dE ?_)
 obtain rfl:=oj hm
 exact iH hE rfl rfl ⟨_,rfl,_,_,rfl,((hp.get 0 rfl).get 1 rfl)⟩
theorem aJ7 {Z:World} {ρ:PH} {L:List bZ} {w:World} (p0:Formula) (aH:Value) (bI:bW ρ aH p0.clauses) (p1:(List (List Int))) (vp1:Value) (hp1:bW ρ vp1 p1) (hp:Hp Z ρ (L) w) (r:Bool) (hm:qQ p0 p1=some r):
  Calls Try.prog 43 #[(.agg #[(Iv p0.vars),aH]),vp1] w (Ret fun v w'=>v=(.bool r)∧Hp Z ρ (L) w'):=by
 refine enterM (N:=28) Try.func43 rfl rfl [(0,(.agg #[(Iv p0.vars),aH])),(1,vp1)] rfl (bM ⟨rfl,rfl,trivial⟩) fun a hE=>?_
 unfold qQ at hm
 refine aG (aB ?_)
 refine rO (wk0 rfl) rfl rfl hE hp rfl (v:=(.agg #[(Iv p0.vars),aH])) rfl ?_
 intro a w b1 hE hp
 have hp:=r1 hp
 refine qB (wk0 rfl) rfl rfl hE hp rfl [(.bool false)] (fun w=>by simp[Instr.alloc,go_sem]<;>rfl) ?_
 intro a w b2 hE hp
 have hp:=r2 hp
 refine aC (aG ?_)
 refine aB (S hE 1 rfl fun a hE=>?_)
 refine V hE hp rfl (dL rfl hE rfl (bW.len hp1 kU)) fun a hE=>S hE 1 rfl fun a hE=>aC (aG ?_)
 refine aG (aB ?_)
 refine S hE 3 rfl fun a hE=>?_
 obtain⟨m1,hg1,hm⟩:=bnd hm
 refine lZ [_,_,_,_,_,_,_,_] (fun a w=>Env 28 [(20,(.bool m1)),(1,vp1),(2,(Pv b1 0)),(4,(Pv b2 0))] a∧Hp Z ρ (Pt b2 (.cells #[(.bool false)] 4 (0,0))::Pt b1 (.cells #[(Iv p0.vars),aH] 24 (0,0))::L) w) ?_ ?_
 ·rcases Bool.eq_false_or_eq_true (decide ((p1.length:Int)=0)) with hc1|hc1
  ·
   replace hg1:=(it hc1).symm.trans hg1
   refine Gk hE hc1 rfl fun a hE=>Gk hE hc1 rfl fun a hE=>Gk hE hc1 rfl fun a hE=>Gk hE hc1 rfl fun a hE=>Gk hE hc1 rfl fun a hE=>Gk hE hc1 rfl fun a hE=>Gk hE hc1 rfl fun a hE=>pk1 hE hc1 rfl rfl rfl rfl fun a hE=>?_
   obtain rfl:=oj hg1
   exact aC ⟨hE.cut ⟨rfl,rfl,rfl,rfl,trivial⟩,hp⟩
  replace hg1:=(ie hc1).symm.trans hg1
  refine Gs hE hc1 rfl rfl fun a hE=>Gs hE hc1 rfl rfl fun a hE=>?_
  obtain⟨x1,ex1,hg1⟩:=bnd hg1
  refine G hE hp hc1 rfl (rX rfl hE rfl rfl (aZ ex1)) fun a hE=>?_
  obtain⟨x2,ex2,hg1⟩:=bnd hg1
  obtain⟨b3,b3o,b3c,b3r,b3k,b3f⟩:=bW.at hp1 kU ex2
  obtain⟨vb3,rfl,hb3⟩:=b3k
  have b3f:AtP ρ b3 b3o [vb3]:=b3f
  refine G hE hp hc1 rfl (aU rfl hE rfl rfl b3r) fun a hE=>G hE hp hc1 rfl (bD rfl hE rfl (fun w hw=>bH bJ (b3f.c 0 rfl w hw))) fun a hE=>G hE hp hc1 rfl (dL rfl hE rfl (bW.len hb3 bC)) fun a hE=>Gs hE hc1 rfl rfl fun a hE=>pk0 hE hc1 rfl rfl rfl rfl fun a hE=>?_
  obtain rfl:=oj hg1
  exact aC ⟨hE.cut ⟨rfl,rfl,rfl,rfl,trivial⟩,hp⟩
 rintro a w ⟨hE,hp⟩
 refine aC ?_
 refine dK hE rfl (fun hc2=>?_) (fun hc2=>?_)
 ·replace hm:=(it hc2).symm.trans hm
  refine aG (aB ?_)
  refine dO (wk0 rfl) rfl hE hp rfl rfl rfl 0 rfl sO.size_ rfl (bY ⟨rfl,trivial⟩) [(.bool false)] rfl ?_
  intro w hp
  have hp:=r2 hp
  refine aC (dE ?_)
  refine retM0 (.inl rfl) hE hp fun a w hE hp=>?_
  obtain rfl:=oj hm
  exact retc1 hE rfl rfl (run_lv1 sO (Hp.c 0 rfl 0 rfl _ hp)) ⟨_,rfl,rfl,(((hp.get 1 rfl).drop).drop)⟩
 replace hm:=(ie hc2).symm.trans hm
 refine bP (aG ?_)
 refine aG (aB ?_)
 refine V hE hp rfl (bD rfl hE rfl (fun w hw=>gB (cs:=[(Iv p0.vars),aH]) fC (Hp.cN 1 rfl 0 _ (bV rfl) w hw))) fun a hE=>S hE 1 rfl fun a hE=>?_
 obtain⟨x3,ex3,hm⟩:=bnd hm
 refine Cl hE rfl rfl ent61 (c_proof_steps p0 aH bI p1 vp1 hp1 hp x3 ex3) ⟨rfl,rfl,trivial⟩ fun v a w hR hE=>?_
 obtain⟨b4,b5,rfl,hp⟩:=hR
 have hp:=r4 hp
 refine aC (dF ?_)
 obtain⟨b6,hc3,hm⟩:=bnd hm
 have hp:Hp Z ρ ((fun s:Unit=>fun k=>Stars [Pt b2 (.cells #[(.bool false)] 4 (0,0)),Pt b1 (.cells #[(Iv p0.vars),aH] 24 (0,0))] k) ()::Pt b4 (.cells #[(Iv p0.vars),aH] 24 (0,0))::Pt b5 (.cells #[vp1] 22 (0,0))::L) w:=Hp.stars (l:=[_,_]) (((((hp.get 1 rfl).get 1 rfl).get 3 rfl).get 3 rfl))
 have hE:=hE.cut (E':=[(4,(Pv b2 0)),(23,(.func (.func 70) #[] #[(Pv b4 0),(Pv b5 0)]))]) ⟨rfl,rfl,trivial⟩
 refine k_rangeF (fun s:Unit=>fun k=>Stars [Pt b2 (.cells #[(.bool false)] 4 (0,0)),Pt b1 (.cells #[(Iv p0.vars),aH] 24 (0,0))] k) (fun r:Bool=>fun k=>Stars [Pt b2 (.cells #[(.bool r)] 4 (0,0))] k) (fun x:(Int×Bool)=>[(Iv x.1),(.bool x.2)]) (fun x s=>iW x) (b:=b6) (L':=L) (E2:=fun x=>[(7,(.bool x.2))]) (lb:=[(Pv b4 0),(Pv b5 0)]) (s0:=()) hE rfl ent70 hp (fun _=>rfl) (by decide) ?_ ?_ ?_ ?_ ?_
 ·intro yl Y w hY hp
  refine Calls.mono (U2 (fun x s=>iW x) yl Y hY (.next ()) b4 p0 aH bI b5 p1 vp1 hp1 ((hp.get 2 rfl).get 2 rfl) _ hc3) fun e w' he=>?_
  obtain⟨v,rfl,hh⟩:=he
  obtain⟨-,hp⟩:=hh
  exact⟨_,rfl,hp.drop.drop⟩
 ·intro yl x a L w hE hp
  have hE:Env 28 [(25,(.bool x.2)),(24,(Iv x.1)),(4,(Pv b2 0)),(23,(.func (.func 70) #[] #[(Pv b4 0),(Pv b5 0)]))] a:=hE
  refine aB (S hE 1 rfl fun a hE=>?_)
  refine aC ?_
  exact⟨hE.cut ⟨rfl,rfl,rfl,rfl,rfl,trivial⟩,hp⟩
 ·rintro yl x _ st a L w hl1 hE hp
  have hp:=hp
  have hp:=Hp.unstar hp
  have hE:=hE.cut (E':=[(4,(Pv b2 0)),(7,(.bool x.2)),(23,(.func (.func 70) #[] #[(Pv b4 0),(Pv b5 0)]))]) ⟨rfl,rfl,rfl,trivial⟩
  have hp:=r2 hp
  replace hl1:iW x=some st:=hl1
  unfold iW at hl1
  refine dF (aG ?_)
  refine aB (S hE 2 rfl fun a hE=>?_)
  refine aC ?_
  refine dK hE rfl (fun hc4=>?_) (fun hc4=>?_)
  ·replace hl1:=(it hc4).symm.trans hl1
   refine aG (aB ?_)
   refine dO (wk0 rfl) rfl hE hp rfl rfl rfl 0 rfl sO.size_ rfl (bY ⟨rfl,trivial⟩) [(.bool false)] rfl ?_
   intro w hp
   have hp:=r2 hp
   refine aC (dE ?_)
   exact⟨_,(oj hl1).symm,Hp.stars (l:=[_]) (((hp.get 1 rfl).drop))⟩
  replace hl1:=(ie hc4).symm.trans hl1
  refine bP ?_
  exact⟨_,(oj hl1).symm,Hp.stars (l:=[_,_]) (hp)⟩
 ·intro lp1n hb1 dd1 a w hE hp
  rw[hb1] at hm
  dsimp only at hm
  have hp:=hp
  have hp:=Hp.unstar hp
  have hE:=hE.cut (E':=[(4,(Pv b2 0))]) ⟨rfl,trivial⟩
  have hp:=r3 hp
  refine aG (aB ?_)
  refine dO (wk0 rfl) rfl hE hp rfl rfl rfl 0 rfl sO.size_ rfl (bY ⟨rfl,trivial⟩) [(.bool true)] rfl ?_
  intro w hp
  have hp:=r3 hp
  refine aC (dE ?_)
  refine retM (.inl rfl) hE (hp.get 2 rfl) fun a w hE hp=>?_
  obtain rfl:=oj hm
  exact retc1 hE rfl rfl (run_lv1 sO (Hp.c 0 rfl 0 rfl _ hp)) ⟨_,rfl,rfl,(((hp.get 1 rfl).drop).drop)⟩
 intro r hb1 dd1 a w hE hp
 rw[hb1] at hm
 dsimp only at hm
 have hp:=hp
 have hp:=Hp.unstar hp
 have hE:=hE.cut (E':=[(4,(Pv b2 0))]) ⟨rfl,trivial⟩
 have hp:=r2 hp
 refine retM (.inl rfl) hE (hp.get 1 rfl) fun a w hE hp=>?_
 obtain rfl:=oj hm
 exact retc1 hE rfl rfl (run_lv1 sO (Hp.c 0 rfl 0 rfl _ hp)) ⟨_,rfl,rfl,(hp.drop)⟩
theorem zS {Z:World} {ρ:PH} {L:List bZ} {w:World} (p0:Formula) (aH:Value) (bI:bW ρ aH p0.clauses) (p1:(List (List Int))) (vp1:Value) (hp1:bW ρ vp1 p1) (hp:Hp Z ρ (L) w) (r:Bool) (hm:mD p0 p1=some r):
  Calls Try.prog 21 #[(.agg #[(Iv p0.vars),aH]),vp1] w (Ret fun v w'=>v=(.bool r)∧Hp Z ρ (L) w'):=by
 refine enter (N:=18) Try.func21 rfl rfl [(0,(.agg #[(Iv p0.vars),aH])),(1,vp1)] rfl (bM ⟨rfl,rfl,trivial⟩) fun a hE=>?_
 unfold mD at hm
 refine aG (aB ?_)
 refine rO (wk0 rfl) rfl rfl hE hp rfl (v:=(.agg #[(Iv p0.vars),aH])) rfl ?_
 intro a w b1 hE hp
 have hp:=r1 hp
 refine S hE 1 rfl fun a hE=>aC (aG ?_)
 refine aB (V hE hp rfl (bD rfl hE rfl (fun w hw=>gB (cs:=[(Iv p0.vars),aH]) fC (Hp.cN 0 rfl 0 _ (bV rfl) w hw))) fun a hE=>?_)
 obtain⟨x1,ex1,hm⟩:=bnd hm
 refine Cl hE rfl rfl ent19 (zH p0 aH bI hp x1 ex1) ⟨rfl,trivial⟩ fun v a w hR hE=>?_
 obtain⟨rfl,hp⟩:=hR
 have hp:=r1 hp
 refine S hE 1 rfl fun a hE=>?_
 obtain⟨m1,hg1,hm⟩:=bnd hm
 refine lZ [_,_,_,_,_] (fun a w=>Env 18 [(12,(.bool m1)),(1,vp1),(2,(Pv b1 0))] a∧Hp Z ρ (Pt b1 (.cells #[(Iv p0.vars),aH] 24 (0,0))::L) w) ?_ ?_
 ·rcases Bool.eq_false_or_eq_true x1 with hc1|hc1
  ·
   replace hg1:=(it hc1).symm.trans hg1
   refine Gs hE hc1 rfl rfl fun a hE=>G hE hp hc1 rfl (xf hE lM rfl rfl) fun a hE=>G hE hp hc1 rfl (xl hE bG 0 rfl rfl rfl rfl) fun a hE=>?_
   obtain⟨x2,ex2,hg1⟩:=bnd hg1
   refine Cg hE hc1 rfl rfl ent42 (c_proof_valid p1 vp1 hp1 p0.vars hp x2 ex2) ⟨rfl,rfl,trivial⟩ fun v a w hR hE=>?_
   obtain⟨rfl,hp⟩:=hR
   have hp:=r1 hp
   refine pk1 hE hc1 rfl rfl rfl rfl fun a hE=>?_
   obtain rfl:=oj hg1
   exact aC ⟨hE.cut ⟨rfl,rfl,rfl,trivial⟩,hp⟩
  replace hg1:=(ie hc1).symm.trans hg1
  refine Gk hE hc1 rfl fun a hE=>Gk hE hc1 rfl fun a hE=>Gk hE hc1 rfl fun a hE=>Gk hE hc1 rfl fun a hE=>pk0 hE hc1 rfl rfl rfl rfl fun a hE=>?_
  obtain rfl:=oj hg1
  exact aC ⟨hE.cut ⟨rfl,rfl,rfl,trivial⟩,hp⟩
 rintro a w ⟨hE,hp⟩
 refine S hE 1 rfl fun a hE=>?_
 obtain⟨m2,hg2,hm⟩:=bnd hm
 refine lZ [_,_,_,_] (fun a w=>Env 18 [(17,(.bool m2))] a∧Hp Z ρ (Pt b1 (.cells #[(Iv p0.vars),aH] 24 (0,0))::L) w) ?_ ?_
 ·rcases Bool.eq_false_or_eq_true m1 with hc2|hc2
  ·
   replace hg2:=(it hc2).symm.trans hg2
   refine G hE hp hc2 rfl (bD rfl hE rfl (fun w hw=>gB (cs:=[(Iv p0.vars),aH]) fC (Hp.cN 0 rfl 0 _ (bV rfl) w hw))) fun a hE=>Gs hE hc2 rfl rfl fun a hE=>?_
   obtain⟨x3,ex3,hg2⟩:=bnd hg2
   refine Cg hE hc2 rfl rfl ent43 (aJ7 p0 aH bI p1 vp1 hp1 hp x3 ex3) ⟨rfl,rfl,trivial⟩ fun v a w hR hE=>?_
   obtain⟨rfl,hp⟩:=hR
   have hp:=r1 hp
   refine pk1 hE hc2 rfl rfl rfl rfl fun a hE=>?_
   obtain rfl:=oj hg2
   exact aC ⟨hE.cut ⟨rfl,trivial⟩,hp⟩
  replace hg2:=(ie hc2).symm.trans hg2
  refine Gk hE hc2 rfl fun a hE=>Gk hE hc2 rfl fun a hE=>Gk hE hc2 rfl fun a hE=>pk0 hE hc2 rfl rfl rfl rfl fun a hE=>?_
  obtain rfl:=oj hg2
  exact aC ⟨hE.cut ⟨rfl,trivial⟩,hp⟩
 rintro a w ⟨hE,hp⟩
 refine S hE 1 rfl fun a hE=>aC (dE ?_)
 obtain rfl:=oj hm
 exact iH hE rfl rfl ⟨_,rfl,rfl,(hp.drop)⟩
end Go.Proofs.Ytpkhmndpeipfmaa

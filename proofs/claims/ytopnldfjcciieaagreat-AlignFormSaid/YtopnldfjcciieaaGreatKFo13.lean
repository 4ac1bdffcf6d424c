/- The code goes as its model: assessor/distance.large$1, slices.IndexFunc[[]assessor/api.Node,assessor/api.Node]@assessor/distance.large$1, slices.ContainsFunc[[] -/
import Derived.Test.YtopnldfjcciieaaGreatKFoT
import Derived.Test.YtopnldfjcciieaaGreatKFo3
import Derived.Test.YtopnldfjcciieaaGreatKFo5
import Derived.Test.YtopnldfjcciieaaGreatKFo6
import Derived.Test.YtopnldfjcciieaaGreatKFo12
set_option linter.unusedVariables false
set_option linter.unusedSimpArgs false
set_option maxRecDepth 100000
set_option maxHeartbeats 4000000
namespace Go.Proofs.YtopnldfjcciieaaGreat
open Go.RowKit
theorem aH9 {Z:World} {ρ:PH} {L:List bK} {w:World} (p0:Node) (aI:Value) (bD:aH ρ aI p0.kids) (hp:Hp Z ρ (L) w) (r:Bool) (hm:xQ p0=some r):
  Calls Tryz.prog 89 #[(.agg #[(Iv p0.kind),(.string p0.text),(Iv p0.at_),(Iv p0.fin),aI])] w (Ret fun v w'=>v=(.bool r)∧Hp Z ρ (L) w'):=by
 refine enter (N:=6) Tryz.func89 rfl rfl [(0,(.agg #[(Iv p0.kind),(.string p0.text),(Iv p0.at_),(Iv p0.fin),aI]))] rfl (bC ⟨rfl,trivial⟩) fun a hE=>?_
 unfold xQ at hm
 refine aG (aA ?_)
 refine iI (wk0 rfl) rfl rfl hE hp rfl (v:=(.agg #[(Iv p0.kind),(.string p0.text),(Iv p0.at_),(Iv p0.fin),aI])) rfl ?_
 intro a w b1 hE hp
 have hp:=r1 hp
 refine S hE 1 rfl fun a hE=>aB (aG ?_)
 refine aA (V hE hp rfl (aK rfl hE rfl (fun w hw=>aW (cs:=[(Iv p0.kind),(.string p0.text),(Iv p0.at_),(Iv p0.fin),aI]) bY (Hp.cN 0 rfl 0 _ (aS rfl) w hw))) fun a hE=>?_)
 obtain⟨x1,ex1,hm⟩:=bnd hm
 refine Cl hE rfl rfl ent64 (aF9 p0 aI bD hp x1 ex1) ⟨rfl,trivial⟩ fun v a w hR hE=>?_
 obtain⟨rfl,hp⟩:=hR
 have hp:=r1 hp
 refine S hE 2 rfl fun a hE=>aB (bZ ?_)
 obtain rfl:=oj hm
 exact gJ hE rfl rfl ⟨_,rfl,rfl,(hp.drop)⟩
theorem xN {Z:World} {ρ:PH} {L:List bK} {w:World} (p0:(List Node)) (vp0:Value) (hp0:aH ρ vp0 p0) (hp:Hp Z ρ (L) w) (r:Int) (hm:lU p0=some r):
  Calls Tryz.prog 103 #[vp0,(.func (.func 89) #[] #[])] w (Ret fun v w'=>v=(Iv r)∧Hp Z ρ (L) w'):=by
 refine enter (N:=19) Tryz.func103 rfl rfl [(0,vp0),(1,(.func (.func 89) #[] #[]))] rfl (bC ⟨rfl,rfl,trivial⟩) fun a hE=>?_
 unfold lU at hm
 refine aG (aA ?_)
 refine S hE 1 rfl fun a hE=>aB (aG ?_)
 refine aG (aA ?_)
 refine S hE 1 rfl fun a hE=>V hE hp rfl (bT rfl hE rfl (aH.len hp0 jI)) fun a hE=>S hE 1 rfl fun a hE=>aB ?_
 obtain⟨b1,hc1,hm⟩:=bnd hm
 refine dH (fun a w=>∃s:Unit,b1= .brk s∧(Env 19 [] a∧Hp Z ρ (L) w)) ?_ ?_
 ·refine dZ hc1 (fun s a w=>Env 19 [(0,vp0),(1,(.func (.func 89) #[] #[])),(7,(Iv (p0.length:Int))),(8,(Iv s))] a∧Hp Z ρ (L) w) ?_ ?_
  ·exact⟨hE.cut ⟨rfl,rfl,rfl,rfl,trivial⟩,hp⟩
  rintro aP st a w ⟨hE,hp⟩ hl1
  unfold oU at hl1
  refine aG (aA ?_)
  refine S hE 1 rfl fun a hE=>aB (aG ?_)
  refine dE hE rfl (fun hc2=>?_) (fun hc2=>?_)
  ·replace hl1:=(it hc2).symm.trans hl1
   refine aZ (aG ?_)
   refine dM (aG ?_)
   refine aA (S hE 2 rfl fun a hE=>?_)
   refine aB (aG ?_)
   refine aA (S hE 3 rfl fun a hE=>?_)
   obtain⟨x1,ex1,hl1⟩:=bnd hl1
   obtain⟨b2,b2o,b2c,b2r,b2k,b2f⟩:=aH.at hp0 jI ex1
   obtain⟨rX,rfl,aE8⟩:=NodeAt.opens b2k
   have b2f:AtP ρ b2 b2o [(Iv x1.kind),(.string x1.text),(Iv x1.at_),(Iv x1.fin),rX]:=b2f
   refine V hE hp rfl (aN rfl hE rfl rfl b2r) fun a hE=>V hE hp rfl (aK rfl hE rfl (fun w hw=>aW (cs:=[(Iv x1.kind),(.string x1.text),(Iv x1.at_),(Iv x1.fin),rX]) bY (fun j u hj=>cell_of hw.le (b2f j u hj)))) fun a hE=>?_
   obtain⟨x2,ex2,hl1⟩:=bnd hl1
   refine pU (wk0 rfl) rfl rfl hE rfl rfl [(.agg #[(Iv x1.kind),(.string x1.text),(Iv x1.at_),(Iv x1.fin),rX])] ⟨rfl,trivial⟩ ent89 (aH9 x1 rX aE8 hp x2 ex2) Ret.ret ?_
   intro v a w hR hE
   obtain⟨rfl,hp⟩:=Ret.of hR
   have hp:=r0 hp
   refine aB ?_
   have hE:=hE.cut (E':=[(0,vp0),(1,(.func (.func 89) #[] #[])),(5,(Iv aP)),(7,(Iv (p0.length:Int))),(8,(Iv aP)),(16,(.bool x2))]) ⟨rfl,rfl,rfl,rfl,rfl,rfl,trivial⟩
   refine dE hE rfl (fun hc3=>?_) (fun hc3=>?_)
   ·replace hl1:=(it hc3).symm.trans hl1
    refine aG (aA ?_)
    refine S hE 2 rfl fun a hE=>aB (bZ ?_)
    refine⟨_,(oj hl1).symm,fun hb=>?_⟩
    subst hb
    obtain rfl:=oj hm
    exact gJ hE rfl rfl ⟨_,rfl,rfl,hp⟩
   replace hl1:=(ie hc3).symm.trans hl1
   refine aZ (aA ?_)
   obtain⟨x3,ex3,hl1⟩:=bnd hl1
   refine V hE hp rfl (bF rfl hE rfl rfl (aO ex3)) fun a hE=>S hE 1 rfl fun a hE=>aB ?_
   exact⟨_,(oj hl1).symm,hE.cut ⟨rfl,rfl,rfl,rfl,trivial⟩,hp⟩
  replace hl1:=(ie hc2).symm.trans hl1
  refine dS ?_
  refine⟨_,(oj hl1).symm,fun hbb=>?_⟩
  exact⟨_,hbb.symm,hE.cut trivial,hp⟩
 rintro a w ⟨b1s,rfl,hE,hp⟩
 dsimp only at hm
 refine aG (aA ?_)
 refine S hE 1 rfl fun a hE=>aB (bZ ?_)
 obtain rfl:=oj hm
 exact gJ hE rfl rfl ⟨_,rfl,rfl,hp⟩
theorem vP {Z:World} {ρ:PH} {L:List bK} {w:World} (p0:(List Node)) (vp0:Value) (hp0:aH ρ vp0 p0) (hp:Hp Z ρ (L) w) (r:Bool) (hm:kF p0=some r):
  Calls Tryz.prog 88 #[vp0,(.func (.func 89) #[] #[])] w (Ret fun v w'=>v=(.bool r)∧Hp Z ρ (L) w'):=by
 refine enter (N:=9) Tryz.func88 rfl rfl [(0,vp0),(1,(.func (.func 89) #[] #[]))] rfl (bC ⟨rfl,rfl,trivial⟩) fun a hE=>?_
 unfold kF at hm
 refine aG (aA ?_)
 refine S hE 1 rfl fun a hE=>aB (aG ?_)
 refine aA (S hE 2 rfl fun a hE=>?_)
 obtain⟨x1,ex1,hm⟩:=bnd hm
 refine Cl hE rfl rfl ent103 (xN p0 vp0 hp0 hp x1 ex1) ⟨rfl,rfl,trivial⟩ fun v a w hR hE=>?_
 obtain⟨rfl,hp⟩:=hR
 have hp:=r0 hp
 refine S hE 2 rfl fun a hE=>aB (bZ ?_)
 obtain rfl:=oj hm
 exact gJ hE rfl rfl ⟨_,rfl,rfl,hp⟩
theorem aK4 {Z:World} {ρ:PH} {L:List bK} {w:World} (p0:(List Node)) (vp0:Value) (hp0:aH ρ vp0 p0) (hp:Hp Z ρ (L) w) (r:Bool) (hm:zU p0=some r):
  Calls Tryz.prog 67 #[vp0] w (Ret fun v w'=>v=(.bool r)∧Hp Z ρ (L) w'):=by
 refine enter (N:=5) Tryz.func67 rfl rfl [(0,vp0)] rfl (bC ⟨rfl,trivial⟩) fun a hE=>?_
 unfold zU at hm
 refine aG (aA ?_)
 refine S hE 1 rfl fun a hE=>aB (aG ?_)
 refine aA (S hE 1 rfl fun a hE=>?_)
 obtain⟨x1,ex1,hm⟩:=bnd hm
 refine Cl hE rfl rfl ent88 (vP p0 vp0 hp0 hp x1 ex1) ⟨rfl,rfl,trivial⟩ fun v a w hR hE=>?_
 obtain⟨rfl,hp⟩:=hR
 have hp:=r0 hp
 refine S hE 1 rfl fun a hE=>aB (bZ ?_)
 obtain rfl:=oj hm
 exact gJ hE rfl rfl ⟨_,rfl,rfl,hp⟩
theorem X5 (self:Node→Int→DFlat→Option (Int×DFlat)) (hself:∀{Z:World} {ρ:PH} {L:List bK} {w:World} (p0:Node) (aI:Value) (bD:aH ρ aI p0.kids) (bcp0:Nat) (cp0:Int) (bcp1:Nat) (cp1:DFlat) (dU:Value) (fH:Value) (dN:Value) (bcp2:Nat) (hp:Hp Z ρ (Pt bcp0 (.cells #[(Iv cp0)] 3 (0,0))::Pt bcp1 (.cells #[dU,fH,dN] 135 (0,0))::aC 156 dU cp1.labels::aC 3 fH cp1.left::aC 3 dN cp1.numbers::Pt bcp2 (.cells #[(.func (.func 104) #[] #[(Pv bcp0 0),(Pv bcp1 0),(Pv bcp2 0)])] 154 (0,0))::L) w) (r:(Int×DFlat)) (hm:self p0 cp0 cp1=some r),Calls Tryz.prog 104 #[(.agg #[(Iv p0.kind),(.string p0.text),(Iv p0.at_),(Iv p0.fin),aI]),(Pv bcp0 0),(Pv bcp1 0),(Pv bcp2 0)] w (Ret fun v w'=>∃(nI:Value) (qW:Value) (lV:Value),v= .tuple #[]∧Hp Z ρ (Pt bcp0 (.cells #[(Iv r.1)] 3 (0,0))::Pt bcp1 (.cells #[nI,qW,lV] 135 (0,0))::aC 156 nI r.2.labels::aC 3 qW r.2.left::aC 3 lV r.2.numbers::Pt bcp2 (.cells #[(.func (.func 104) #[] #[(Pv bcp0 0),(Pv bcp1 0),(Pv bcp2 0)])] 154 (0,0))::L) w')) {Z:World} {ρ:PH} {L:List bK} {w:World} (p0:Node) (aI:Value) (bD:aH ρ aI p0.kids) (bcp0:Nat) (cp0:Int) (bcp1:Nat) (cp1:DFlat) (dU:Value) (fH:Value) (dN:Value) (bcp2:Nat) (hp:Hp Z ρ (Pt bcp0 (.cells #[(Iv cp0)] 3 (0,0))::Pt bcp1 (.cells #[dU,fH,dN] 135 (0,0))::aC 156 dU cp1.labels::aC 3 fH cp1.left::aC 3 dN cp1.numbers::Pt bcp2 (.cells #[(.func (.func 104) #[] #[(Pv bcp0 0),(Pv bcp1 0),(Pv bcp2 0)])] 154 (0,0))::L) w) (r:(Int×DFlat)) (hm:rG self p0 cp0 cp1=some r):
  Calls Tryz.prog 104 #[(.agg #[(Iv p0.kind),(.string p0.text),(Iv p0.at_),(Iv p0.fin),aI]),(Pv bcp0 0),(Pv bcp1 0),(Pv bcp2 0)] w (Ret fun v w'=>∃(nI:Value) (qW:Value) (lV:Value),v= .tuple #[]∧Hp Z ρ (Pt bcp0 (.cells #[(Iv r.1)] 3 (0,0))::Pt bcp1 (.cells #[nI,qW,lV] 135 (0,0))::aC 156 nI r.2.labels::aC 3 qW r.2.left::aC 3 lV r.2.numbers::Pt bcp2 (.cells #[(.func (.func 104) #[] #[(Pv bcp0 0),(Pv bcp1 0),(Pv bcp2 0)])] 154 (0,0))::L) w'):=by
 refine enter (N:=48) Tryz.func104 rfl rfl [(0,(.agg #[(Iv p0.kind),(.string p0.text),(Iv p0.at_),(Iv p0.fin),aI])),(1,(Pv bcp0 0)),(2,(Pv bcp1 0)),(3,(Pv bcp2 0))] rfl (bC ⟨rfl,rfl,rfl,rfl,trivial⟩) fun a hE=>?_
 unfold rG at hm
 refine aG (aA ?_)
 refine iI (wk0 rfl) rfl rfl hE hp rfl (v:=(.agg #[(Iv p0.kind),(.string p0.text),(Iv p0.at_),(Iv p0.fin),aI])) rfl ?_
 intro a w b1 hE hp
 have hp:=r7 hp
 refine aB (aG ?_)
 refine jR (by kernel_rfl) (by kernel_rfl) hp ?_
 refine Vq hE rfl (xl hE aT 1 rfl rfl rfl rfl) fun a hE=>Vq hE rfl (xf hE jB rfl rfl) fun a hE=>Vq hE rfl (xl hE kH 2 rfl rfl rfl rfl) fun a hE=>Vq hE rfl (bT rfl hE rfl (aC.len hp 3 rfl rD)) fun a hE=>Sq hE 2 rfl fun a hE=>?_
 refine iM fun w hp=>?_
 have hp:=r7 hp
 refine aG (aA ?_)
 refine V hE hp rfl (xl hE aT 1 rfl rfl rfl rfl) fun a hE=>?_
 obtain⟨x1,ex1,hm⟩:=bnd hm
 refine V hE hp rfl (bF rfl hE rfl rfl (aO ex1)) fun a hE=>?_
 refine aX (wk0 rfl) rfl hE hp rfl rfl rfl 1 rfl aT.size_ rfl (aQ ⟨rfl,trivial⟩) [(Iv x1)] rfl ?_
 intro w hp
 have hp:=r7 hp
 refine aB (aG ?_)
 refine aG (aA ?_)
 refine V hE hp rfl (xf hE sU rfl rfl) fun a hE=>V hE hp rfl (xl hE iT 0 rfl rfl rfl rfl) fun a hE=>V hE hp rfl (bT rfl hE rfl (aH.len bD jI)) fun a hE=>S hE 1 rfl fun a hE=>aB ?_
 obtain⟨b2,hc1,hm⟩:=bnd hm
 refine dH (fun a w=>∃(w3:Value) (w4:Value) (w5:Value),Env 48 [(2,(Pv bcp1 0)),(4,(Pv b1 0)),(5,(Iv cp0)),(6,(Iv (cp1.labels.length:Int)))] a∧Hp Z ρ (Pt b1 (.cells #[(Iv p0.kind),(.string p0.text),(Iv p0.at_),(Iv p0.fin),aI] 24 (0,0))::Pt bcp0 (.cells #[(Iv b2.1)] 3 (0,0))::Pt bcp1 (.cells #[w3,w4,w5] 135 (0,0))::aC 156 w3 b2.2.1::aC 3 w4 b2.2.2.1::aC 3 w5 b2.2.2.2::Pt bcp2 (.cells #[(.func (.func 104) #[] #[(Pv bcp0 0),(Pv bcp1 0),(Pv bcp2 0)])] 154 (0,0))::L) w) ?_ ?_
 ·refine dZ hc1 (fun s a w=>∃(w3:Value) (w4:Value) (w5:Value),Env 48 [(2,(Pv bcp1 0)),(3,(Pv bcp2 0)),(4,(Pv b1 0)),(5,(Iv cp0)),(6,(Iv (cp1.labels.length:Int))),(16,aI),(17,(Iv (p0.kids.length:Int))),(18,(Iv s.1))] a∧Hp Z ρ (Pt b1 (.cells #[(Iv p0.kind),(.string p0.text),(Iv p0.at_),(Iv p0.fin),aI] 24 (0,0))::Pt bcp0 (.cells #[(Iv s.2.1)] 3 (0,0))::Pt bcp1 (.cells #[w3,w4,w5] 135 (0,0))::aC 156 w3 s.2.2.1::aC 3 w4 s.2.2.2.1::aC 3 w5 s.2.2.2.2::Pt bcp2 (.cells #[(.func (.func 104) #[] #[(Pv bcp0 0),(Pv bcp1 0),(Pv bcp2 0)])] 154 (0,0))::L) w) ?_ ?_
  ·exact⟨_,_,_,hE.cut ⟨rfl,rfl,rfl,rfl,rfl,rfl,rfl,rfl,trivial⟩,hp⟩
  rintro⟨aP,aU,dR,fQ,lp1_4⟩ st a w ⟨w3,w4,w5,hE,hp⟩ hl1
  dsimp only at hE hp hl1
  unfold uJ at hl1
  refine aG (aA ?_)
  refine S hE 1 rfl fun a hE=>aB (aG ?_)
  refine dE hE rfl (fun hc2=>?_) (fun hc2=>?_)
  ·replace hl1:=(it hc2).symm.trans hl1
   refine aZ (aG ?_)
   refine dM (aG ?_)
   refine aA ?_
   obtain⟨x2,ex2,hl1⟩:=bnd hl1
   obtain⟨b3,b3o,b3c,b3r,b3k,b3f⟩:=aH.at bD jI ex2
   obtain⟨qU,rfl,aA9⟩:=NodeAt.opens b3k
   have b3f:AtP ρ b3 b3o [(Iv x2.kind),(.string x2.text),(Iv x2.at_),(Iv x2.fin),qU]:=b3f
   refine V hE hp rfl (aN rfl hE rfl rfl b3r) fun a hE=>V hE hp rfl (aK rfl hE rfl (fun w hw=>aW (cs:=[(Iv x2.kind),(.string x2.text),(Iv x2.at_),(Iv x2.fin),qU]) bY (fun j u hj=>cell_of hw.le (b3f j u hj)))) fun a hE=>?_
   refine dL (wk0 rfl) rfl rfl hE hp rfl [(Iv 0),(.string ByteArray.empty),(Iv 0),(Iv 0),N0] (fun w=>by simp[Instr.alloc,go_sem]<;>rfl) ?_
   intro a w b4 hE hp
   have hp:=r8 hp
   refine aX (wk0 rfl) rfl hE hp rfl rfl rfl 0 rfl bY.size_ rfl (aQ ⟨rfl,rfl,rfl,rfl,(aH.one aA9),trivial⟩) [(Iv x2.kind),(.string x2.text),(Iv x2.at_),(Iv x2.fin),qU] rfl ?_
   intro w hp
   have hp:=r8 hp
   refine aB ?_
   have hE:=hE.cut (E':=[(2,(Pv bcp1 0)),(3,(Pv bcp2 0)),(4,(Pv b1 0)),(5,(Iv cp0)),(6,(Iv (cp1.labels.length:Int))),(8,(Pv b4 0)),(16,aI),(17,(Iv (p0.kids.length:Int))),(18,(Iv aP))]) ⟨rfl,rfl,rfl,rfl,rfl,rfl,rfl,rfl,rfl,trivial⟩
   refine aA (V hE hp rfl (xl hE varty154 7 rfl rfl rfl rfl) fun a hE=>?_)
   refine V hE hp rfl (aK rfl hE rfl (fun w hw=>aW (cs:=[(Iv x2.kind),(.string x2.text),(Iv x2.at_),(Iv x2.fin),qU]) bY (Hp.cN 0 rfl 0 _ (aS rfl) w hw))) fun a hE=>?_
   obtain⟨x3,ex3,hl1⟩:=bnd hl1
   refine pU (wk0 rfl) rfl rfl hE rfl rfl [(.agg #[(Iv x2.kind),(.string x2.text),(Iv x2.at_),(Iv x2.fin),qU])] ⟨rfl,trivial⟩ ent104 (hself x2 qU aA9 bcp0 aU bcp1 (DFlat.mk dR fQ lp1_4) w3 w4 w5 bcp2 ((((((hp.get 7 rfl).get 7 rfl).get 7 rfl).get 7 rfl).get 7 rfl).get 7 rfl) x3 ex3) Ret.ret ?_
   intro v a w hR hE
   obtain⟨aC9,aK1,Y0,rfl,hp⟩:=Ret.of hR
   have hp:=r8 hp
   refine aB (aA ?_)
   obtain⟨x4,ex4,hl1⟩:=bnd hl1
   refine V hE hp rfl (bF rfl hE rfl rfl (aO ex4)) fun a hE=>S hE 1 rfl fun a hE=>aB ?_
   exact⟨_,(oj hl1).symm,_,_,_,hE.cut ⟨rfl,rfl,rfl,rfl,rfl,rfl,rfl,rfl,trivial⟩,(((((((((hp.get 5 rfl).get 5 rfl).get 5 rfl).get 5 rfl).get 5 rfl).get 5 rfl).get 7 rfl).get 7 rfl).drop)⟩
  replace hl1:=(ie hc2).symm.trans hl1
  refine dS ?_
  refine⟨_,(oj hl1).symm,fun hbb=>?_⟩
  subst hbb
  exact⟨_,_,_,hE.cut ⟨rfl,rfl,rfl,rfl,trivial⟩,hp⟩
 rintro a w ⟨w3,w4,w5,hE,hp⟩
 obtain⟨x5,ex5,hm⟩:=bnd hm
 obtain⟨x6,ex6,hm⟩:=bnd hm
 obtain⟨x7,ex7,hm⟩:=bnd hm
 have hp:=hp.drew
 refine fG ([([],At0 Z ρ),([],At1 Z ρ (Pt b1 (.cells #[(Iv p0.kind),(.string p0.text),(Iv p0.at_),(Iv p0.fin),aI] 24 (0,0)))),([20,22,24],At1 Z ρ (Pt bcp1 (.cells #[w3,w4,w5] 135 (0,0))))]:Facts) (fun a w=>∃y15:Nat,∃y14:Nat,∃y13:Nat,∃y3:Value,∃y4:Value,∃y5:Value,Env 48 [] a∧Hp Z ρ (Pt y15 (.cells #[(Iv cp0)] 3 (0,0))::Pt y14 (.cells #[(Iv (cp1.labels.length:Int))] 3 (0,0))::Pt y13 (.cells #[(Iv p0.kind),(.string p0.text)] 156 (0,0))::Pt b1 (.cells #[(Iv p0.kind),(.string p0.text),(Iv p0.at_),(Iv p0.fin),aI] 24 (0,0))::Pt bcp0 (.cells #[(Iv b2.1)] 3 (0,0))::Pt bcp1 (.cells #[y3,y4,y5] 135 (0,0))::aC 156 y3 x5::aC 3 y4 x6::aC 3 y5 x7::Pt bcp2 (.cells #[(.func (.func 104) #[] #[(Pv bcp0 0),(Pv bcp1 0),(Pv bcp2 0)])] 154 (0,0))::L) w) (by kernel_rfl) ⟨fun _=>⟨_,hp⟩,fun _=>⟨_,(hp.get 0 rfl)⟩,fun _=>⟨_,(hp.get 2 rfl)⟩,trivial⟩ (fun hS=>?_) ?_
 ·
  generalize w.drew=w at hS hp⊢
  refine T0 0 hE hS rfl rfl rfl (by kernel_rfl) (fun _=>xf hE jB rfl rfl) fun a hE hS=>T 1 2 hE hS rfl rfl rfl (by kernel_rfl) (fun _=>xl hE kH 0 rfl rfl rfl rfl) fun a hE hS=>T0 2 hE hS rfl rfl rfl (by kernel_rfl) (fun _=>xf hE yD rfl rfl) fun a hE hS=>T 3 1 hE hS rfl rfl rfl (by kernel_rfl) (fun _=>xl hE aT 0 rfl rfl rfl rfl) fun a hE hS=>T0 4 hE hS rfl rfl rfl (by kernel_rfl) (fun _=>xf hE wV rfl rfl) fun a hE hS=>T 5 1 hE hS rfl rfl rfl (by kernel_rfl) (fun _=>xl hE xR 0 rfl rfl rfl rfl) fun a hE hS=>T0 6 hE hS rfl rfl rfl (by kernel_rfl) (v:=(.agg #[(Iv p0.kind),(.string p0.text)])) (fun _=>lW rfl hE [(0,(Iv p0.kind)),(1,(.string p0.text))] (by exact⟨⟨rfl,rfl⟩,⟨rfl,rfl⟩,trivial⟩) (fun w=>by simp[Instr.build,Instr.fill,Value.cells,go_sem])) fun a hE hS=>T0 9 hE hS rfl rfl rfl (by kernel_rfl) (fun _=>xf hE iE rfl rfl) fun a hE hS=>T 10 2 hE hS rfl rfl rfl (by kernel_rfl) (fun _=>xl hE aY 0 rfl rfl rfl rfl) fun a hE hS=>Ts [11] hE hS rfl rfl (by kernel_rfl) fun a hE hS=>T0 14 hE hS rfl rfl rfl (by kernel_rfl) (fun _=>xf hE jP rfl rfl) fun a hE hS=>T 15 2 hE hS rfl rfl rfl (by kernel_rfl) (fun _=>xl hE aY 0 rfl rfl rfl rfl) fun a hE hS=>Ts [16] hE hS rfl rfl (by kernel_rfl) fun a hE hS=>?_
  refine gW [7,12,17] (by kernel_rfl) rfl ?_
  refine List.forall_mem_cons.2 ⟨?_,List.forall_mem_cons.2 ⟨?_,List.forall_mem_cons.2 ⟨?_,fun _ h=>absurd h (by simp)⟩⟩⟩
  ·
   refine dX rfl ?_
   refine fP (wk0 rfl) rfl rfl hE hp rfl [(0,(.agg #[(Iv p0.kind),(.string p0.text)]))] ⟨⟨rfl,rfl⟩,trivial⟩ [(Iv p0.kind),(.string p0.text)] 156 (fun w=>by simp[Instr.buildSlice,Instr.fill,Value.cells,go_sem]) ?_
   intro a w b8 hE hp
   have hp:=r8 hp
   refine aB (aF ⟨gp0 hp,gp 1 hp rfl,gp 3 hp rfl,trivial⟩ fun hS=>?_)
   refine gW [8,12,17] (by kernel_rfl) rfl ?_
   refine List.forall_mem_cons.2 ⟨?_,List.forall_mem_cons.2 ⟨?_,List.forall_mem_cons.2 ⟨?_,fun _ h=>absurd h (by simp)⟩⟩⟩
   ·
    refine dX rfl ?_
    refine fU (wk0 rfl) rfl rfl hE hp rfl rD rfl rfl 4 rfl rfl (l2:=[(Lbl.mk p0.kind p0.text)]) rfl (fun j u hj=>by have:=Hp.cN 0 rfl 0 _ (aS rfl) w hp j u hj;simpa using this) ex5 ?_
    intro v4 a w hE hp
    have hp:=r8 hp
    refine aB (aF ⟨gp0 hp,gp 1 hp rfl,gp 3 hp rfl,trivial⟩ fun hS=>?_)
    refine T0 19 hE hS rfl rfl rfl (by kernel_rfl) (fun _=>xf hE jB rfl rfl) fun a hE hS=>?_
    refine gW [12,17] (by kernel_rfl) rfl ?_
    refine List.forall_mem_cons.2 ⟨?_,List.forall_mem_cons.2 ⟨?_,fun _ h=>absurd h (by simp)⟩⟩
    ·
     refine dX rfl ?_
     refine fP (wk0 rfl) rfl rfl hE hp rfl [(0,(Iv (cp1.labels.length:Int)))] ⟨⟨rfl,rfl⟩,trivial⟩ [(Iv (cp1.labels.length:Int))] 3 (fun w=>by simp[Instr.buildSlice,Instr.fill,Value.cells,go_sem]) ?_
     intro a w b9 hE hp
     have hp:=r9 hp
     refine aB (aF ⟨gp0 hp,gp 2 hp rfl,gp 4 hp rfl,trivial⟩ fun hS=>?_)
     refine gW [13,17] (by kernel_rfl) rfl ?_
     refine List.forall_mem_cons.2 ⟨?_,List.forall_mem_cons.2 ⟨?_,fun _ h=>absurd h (by simp)⟩⟩
     ·
      refine dX rfl ?_
      refine fU (wk0 rfl) rfl rfl hE hp rfl bI rfl rfl 6 rfl rfl (l2:=[(cp1.labels.length:Int)]) rfl (fun j u hj=>by have:=Hp.cN 0 rfl 0 _ (aS rfl) w hp j u hj;simpa using this) ex6 ?_
      intro v5 a w hE hp
      have hp:=r9 hp
      refine aB (aF ⟨gp0 hp,gp 2 hp rfl,gp 4 hp rfl,trivial⟩ fun hS=>?_)
      refine W1 17 (by kernel_rfl) rfl ?_
      refine fP (wk0 rfl) rfl rfl hE hp rfl [(0,(Iv cp0))] ⟨⟨rfl,rfl⟩,trivial⟩ [(Iv cp0)] 3 (fun w=>by simp[Instr.buildSlice,Instr.fill,Value.cells,go_sem]) ?_
      intro a w b10 hE hp
      have hp:=r10 hp
      refine aB (aF ⟨gp0 hp,gp 3 hp rfl,gp 5 hp rfl,trivial⟩ fun hS=>?_)
      refine W1 18 (by kernel_rfl) rfl ?_
      refine fU (wk0 rfl) rfl rfl hE hp rfl bI rfl rfl 8 rfl rfl (l2:=[cp0]) rfl (fun j u hj=>by have:=Hp.cN 0 rfl 0 _ (aS rfl) w hp j u hj;simpa using this) ex7 ?_
      intro v6 a w hE hp
      have hp:=r10 hp
      refine aB (aF ⟨gp0 hp,gp 3 hp rfl,gp 5 hp rfl,trivial⟩ fun hS=>?_)
      refine W1 20 (by kernel_rfl) rfl ?_
      refine bQ (wk0 rfl) rfl hE hp rfl rfl rfl 5 rfl kH.size_ (aC.cells hp 6 rfl) (aC.one hp 6 rfl) rfl [v4,w4,w5] rfl ?_
      intro w hp
      have hp:=r10 hp
      refine aB (aF ⟨gp0 hp,gp 3 hp rfl,dead (by kernel_rfl),trivial⟩ fun hS=>?_)
      refine T0 21 hE hS rfl rfl rfl (by kernel_rfl) (fun _=>xf hE iE rfl rfl) fun a hE hS=>?_
      refine W1 22 (by kernel_rfl) rfl ?_
      refine bQ (wk0 rfl) rfl hE hp rfl rfl rfl 5 rfl aY.size_ (aC.cells hp 7 rfl) (aC.one hp 7 rfl) rfl [v4,v5,w5] rfl ?_
      intro w hp
      have hp:=r10 hp
      refine aB (aF ⟨gp0 hp,gp 3 hp rfl,dead (by kernel_rfl),trivial⟩ fun hS=>?_)
      refine T0 23 hE hS rfl rfl rfl (by kernel_rfl) (fun _=>xf hE jP rfl rfl) fun a hE hS=>?_
      refine W1 24 (by kernel_rfl) rfl ?_
      refine bQ (wk0 rfl) rfl hE hp rfl rfl rfl 5 rfl aY.size_ (aC.cells hp 8 rfl) (aC.one hp 8 rfl) rfl [v4,v5,v6] rfl ?_
      intro w hp
      have hp:=r10 hp
      refine aB (aF ⟨gp0 hp,gp 3 hp rfl,dead (by kernel_rfl),trivial⟩ fun hS=>?_)
      exact bP (by kernel_rfl) ⟨_,_,_,_,_,_,hE.cut trivial,hp⟩
     refine dX rfl ?_
     refine fP (wk0 rfl) rfl rfl hE hp rfl [(0,(Iv cp0))] ⟨⟨rfl,rfl⟩,trivial⟩ [(Iv cp0)] 3 (fun w=>by simp[Instr.buildSlice,Instr.fill,Value.cells,go_sem]) ?_
     intro a w b11 hE hp
     have hp:=r10 hp
     refine aB (aF ⟨gp0 hp,gp 3 hp rfl,gp 5 hp rfl,trivial⟩ fun hS=>?_)
     refine W1 13 (by kernel_rfl) rfl ?_
     refine fU (wk0 rfl) rfl rfl hE hp rfl bI rfl rfl 7 rfl rfl (l2:=[(cp1.labels.length:Int)]) rfl (fun j u hj=>by have:=Hp.cN 1 rfl 0 _ (aS rfl) w hp j u hj;simpa using this) ex6 ?_
     intro v7 a w hE hp
     have hp:=r10 hp
     refine aB (aF ⟨gp0 hp,gp 3 hp rfl,gp 5 hp rfl,trivial⟩ fun hS=>?_)
     refine W1 18 (by kernel_rfl) rfl ?_
     refine fU (wk0 rfl) rfl rfl hE hp rfl bI rfl rfl 8 rfl rfl (l2:=[cp0]) rfl (fun j u hj=>by have:=Hp.cN 0 rfl 0 _ (aS rfl) w hp j u hj;simpa using this) ex7 ?_
     intro v8 a w hE hp
     have hp:=r10 hp
     refine aB (aF ⟨gp0 hp,gp 3 hp rfl,gp 5 hp rfl,trivial⟩ fun hS=>?_)
     refine W1 20 (by kernel_rfl) rfl ?_
     refine bQ (wk0 rfl) rfl hE hp rfl rfl rfl 5 rfl kH.size_ (aC.cells hp 6 rfl) (aC.one hp 6 rfl) rfl [v4,w4,w5] rfl ?_
     intro w hp
     have hp:=r10 hp
     refine aB (aF ⟨gp0 hp,gp 3 hp rfl,dead (by kernel_rfl),trivial⟩ fun hS=>?_)
     refine T0 21 hE hS rfl rfl rfl (by kernel_rfl) (fun _=>xf hE iE rfl rfl) fun a hE hS=>?_
     refine W1 22 (by kernel_rfl) rfl ?_
     refine bQ (wk0 rfl) rfl hE hp rfl rfl rfl 5 rfl aY.size_ (aC.cells hp 7 rfl) (aC.one hp 7 rfl) rfl [v4,v7,w5] rfl ?_
     intro w hp
     have hp:=r10 hp
     refine aB (aF ⟨gp0 hp,gp 3 hp rfl,dead (by kernel_rfl),trivial⟩ fun hS=>?_)
     refine T0 23 hE hS rfl rfl rfl (by kernel_rfl) (fun _=>xf hE jP rfl rfl) fun a hE hS=>?_
     refine W1 24 (by kernel_rfl) rfl ?_
     refine bQ (wk0 rfl) rfl hE hp rfl rfl rfl 5 rfl aY.size_ (aC.cells hp 8 rfl) (aC.one hp 8 rfl) rfl [v4,v7,v8] rfl ?_
     intro w hp
     have hp:=r10 hp
     refine aB (aF ⟨gp0 hp,gp 3 hp rfl,dead (by kernel_rfl),trivial⟩ fun hS=>?_)
     exact bP (by kernel_rfl) ⟨_,_,_,_,_,_,hE.cut trivial,hp⟩
    refine dX rfl ?_
    refine fP (wk0 rfl) rfl rfl hE hp rfl [(0,(Iv cp0))] ⟨⟨rfl,rfl⟩,trivial⟩ [(Iv cp0)] 3 (fun w=>by simp[Instr.buildSlice,Instr.fill,Value.cells,go_sem]) ?_
    intro a w b12 hE hp
    have hp:=r9 hp
    refine aB (aF ⟨gp0 hp,gp 2 hp rfl,gp 4 hp rfl,trivial⟩ fun hS=>?_)
    refine W1 12 (by kernel_rfl) rfl ?_
    refine fP (wk0 rfl) rfl rfl hE hp rfl [(0,(Iv (cp1.labels.length:Int)))] ⟨⟨rfl,rfl⟩,trivial⟩ [(Iv (cp1.labels.length:Int))] 3 (fun w=>by simp[Instr.buildSlice,Instr.fill,Value.cells,go_sem]) ?_
    intro a w b13 hE hp
    have hp:=r10 hp
    refine aB (aF ⟨gp0 hp,gp 3 hp rfl,gp 5 hp rfl,trivial⟩ fun hS=>?_)
    refine W1 13 (by kernel_rfl) rfl ?_
    refine fU (wk0 rfl) rfl rfl hE hp rfl bI rfl rfl 7 rfl rfl (l2:=[(cp1.labels.length:Int)]) rfl (fun j u hj=>by have:=Hp.cN 0 rfl 0 _ (aS rfl) w hp j u hj;simpa using this) ex6 ?_
    intro v9 a w hE hp
    have hp:=r10 hp
    refine aB (aF ⟨gp0 hp,gp 3 hp rfl,gp 5 hp rfl,trivial⟩ fun hS=>?_)
    refine W1 18 (by kernel_rfl) rfl ?_
    refine fU (wk0 rfl) rfl rfl hE hp rfl bI rfl rfl 8 rfl rfl (l2:=[cp0]) rfl (fun j u hj=>by have:=Hp.cN 1 rfl 0 _ (aS rfl) w hp j u hj;simpa using this) ex7 ?_
    intro v10 a w hE hp
    have hp:=r10 hp
    refine aB (aF ⟨gp0 hp,gp 3 hp rfl,gp 5 hp rfl,trivial⟩ fun hS=>?_)
    refine W1 20 (by kernel_rfl) rfl ?_
    refine bQ (wk0 rfl) rfl hE hp rfl rfl rfl 5 rfl kH.size_ (aC.cells hp 6 rfl) (aC.one hp 6 rfl) rfl [v4,w4,w5] rfl ?_
    intro w hp
    have hp:=r10 hp
    refine aB (aF ⟨gp0 hp,gp 3 hp rfl,dead (by kernel_rfl),trivial⟩ fun hS=>?_)
    refine T0 21 hE hS rfl rfl rfl (by kernel_rfl) (fun _=>xf hE iE rfl rfl) fun a hE hS=>?_
    refine W1 22 (by kernel_rfl) rfl ?_
    refine bQ (wk0 rfl) rfl hE hp rfl rfl rfl 5 rfl aY.size_ (aC.cells hp 7 rfl) (aC.one hp 7 rfl) rfl [v4,v9,w5] rfl ?_
    intro w hp
    have hp:=r10 hp
    refine aB (aF ⟨gp0 hp,gp 3 hp rfl,dead (by kernel_rfl),trivial⟩ fun hS=>?_)
    refine T0 23 hE hS rfl rfl rfl (by kernel_rfl) (fun _=>xf hE jP rfl rfl) fun a hE hS=>?_
    refine W1 24 (by kernel_rfl) rfl ?_
    refine bQ (wk0 rfl) rfl hE hp rfl rfl rfl 5 rfl aY.size_ (aC.cells hp 8 rfl) (aC.one hp 8 rfl) rfl [v4,v9,v10] rfl ?_
    intro w hp
    have hp:=r10 hp
    refine aB (aF ⟨gp0 hp,gp 3 hp rfl,dead (by kernel_rfl),trivial⟩ fun hS=>?_)
    exact bP (by kernel_rfl) ⟨_,_,_,_,_,_,hE.cut trivial,((((((((((hp.get 9 rfl).get 9 rfl).get 9 rfl).get 9 rfl).get 9 rfl).get 9 rfl).get 9 rfl).get 9 rfl).get 8 rfl).get 9 rfl)⟩
   ·
    refine dX rfl ?_
    refine fP (wk0 rfl) rfl rfl hE hp rfl [(0,(Iv (cp1.labels.length:Int)))] ⟨⟨rfl,rfl⟩,trivial⟩ [(Iv (cp1.labels.length:Int))] 3 (fun w=>by simp[Instr.buildSlice,Instr.fill,Value.cells,go_sem]) ?_
    intro a w b14 hE hp
    have hp:=r9 hp
    refine aB (aF ⟨gp0 hp,gp 2 hp rfl,gp 4 hp rfl,trivial⟩ fun hS=>?_)
    refine gW [8,17] (by kernel_rfl) rfl ?_
    refine List.forall_mem_cons.2 ⟨?_,List.forall_mem_cons.2 ⟨?_,fun _ h=>absurd h (by simp)⟩⟩
    ·
     refine dX rfl ?_
     refine fU (wk0 rfl) rfl rfl hE hp rfl rD rfl rfl 5 rfl rfl (l2:=[(Lbl.mk p0.kind p0.text)]) rfl (fun j u hj=>by have:=Hp.cN 1 rfl 0 _ (aS rfl) w hp j u hj;simpa using this) ex5 ?_
     intro v11 a w hE hp
     have hp:=r9 hp
     refine aB (aF ⟨gp0 hp,gp 2 hp rfl,gp 4 hp rfl,trivial⟩ fun hS=>?_)
     refine T0 19 hE hS rfl rfl rfl (by kernel_rfl) (fun _=>xf hE jB rfl rfl) fun a hE hS=>?_
     refine gW [13,17] (by kernel_rfl) rfl ?_
     refine List.forall_mem_cons.2 ⟨?_,List.forall_mem_cons.2 ⟨?_,fun _ h=>absurd h (by simp)⟩⟩
     ·
      refine dX rfl ?_
      refine fU (wk0 rfl) rfl rfl hE hp rfl bI rfl rfl 6 rfl rfl (l2:=[(cp1.labels.length:Int)]) rfl (fun j u hj=>by have:=Hp.cN 0 rfl 0 _ (aS rfl) w hp j u hj;simpa using this) ex6 ?_
      intro v12 a w hE hp
      have hp:=r9 hp
      refine aB (aF ⟨gp0 hp,gp 2 hp rfl,gp 4 hp rfl,trivial⟩ fun hS=>?_)
      refine W1 17 (by kernel_rfl) rfl ?_
      refine fP (wk0 rfl) rfl rfl hE hp rfl [(0,(Iv cp0))] ⟨⟨rfl,rfl⟩,trivial⟩ [(Iv cp0)] 3 (fun w=>by simp[Instr.buildSlice,Instr.fill,Value.cells,go_sem]) ?_
      intro a w b15 hE hp
      have hp:=r10 hp
      refine aB (aF ⟨gp0 hp,gp 3 hp rfl,gp 5 hp rfl,trivial⟩ fun hS=>?_)
      refine W1 18 (by kernel_rfl) rfl ?_
      refine fU (wk0 rfl) rfl rfl hE hp rfl bI rfl rfl 8 rfl rfl (l2:=[cp0]) rfl (fun j u hj=>by have:=Hp.cN 0 rfl 0 _ (aS rfl) w hp j u hj;simpa using this) ex7 ?_
      intro v13 a w hE hp
      have hp:=r10 hp
      refine aB (aF ⟨gp0 hp,gp 3 hp rfl,gp 5 hp rfl,trivial⟩ fun hS=>?_)
      refine W1 20 (by kernel_rfl) rfl ?_
      refine bQ (wk0 rfl) rfl hE hp rfl rfl rfl 5 rfl kH.size_ (aC.cells hp 6 rfl) (aC.one hp 6 rfl) rfl [v11,w4,w5] rfl ?_
      intro w hp
      have hp:=r10 hp
      refine aB (aF ⟨gp0 hp,gp 3 hp rfl,dead (by kernel_rfl),trivial⟩ fun hS=>?_)
      refine T0 21 hE hS rfl rfl rfl (by kernel_rfl) (fun _=>xf hE iE rfl rfl) fun a hE hS=>?_
      refine W1 22 (by kernel_rfl) rfl ?_
      refine bQ (wk0 rfl) rfl hE hp rfl rfl rfl 5 rfl aY.size_ (aC.cells hp 7 rfl) (aC.one hp 7 rfl) rfl [v11,v12,w5] rfl ?_
      intro w hp
      have hp:=r10 hp
      refine aB (aF ⟨gp0 hp,gp 3 hp rfl,dead (by kernel_rfl),trivial⟩ fun hS=>?_)
      refine T0 23 hE hS rfl rfl rfl (by kernel_rfl) (fun _=>xf hE jP rfl rfl) fun a hE hS=>?_
      refine W1 24 (by kernel_rfl) rfl ?_
      refine bQ (wk0 rfl) rfl hE hp rfl rfl rfl 5 rfl aY.size_ (aC.cells hp 8 rfl) (aC.one hp 8 rfl) rfl [v11,v12,v13] rfl ?_
      intro w hp
      have hp:=r10 hp
      refine aB (aF ⟨gp0 hp,gp 3 hp rfl,dead (by kernel_rfl),trivial⟩ fun hS=>?_)
      exact bP (by kernel_rfl) ⟨_,_,_,_,_,_,hE.cut trivial,hp⟩
     refine dX rfl ?_
     refine fP (wk0 rfl) rfl rfl hE hp rfl [(0,(Iv cp0))] ⟨⟨rfl,rfl⟩,trivial⟩ [(Iv cp0)] 3 (fun w=>by simp[Instr.buildSlice,Instr.fill,Value.cells,go_sem]) ?_
     intro a w b16 hE hp
     have hp:=r10 hp
     refine aB (aF ⟨gp0 hp,gp 3 hp rfl,gp 5 hp rfl,trivial⟩ fun hS=>?_)
     refine W1 13 (by kernel_rfl) rfl ?_
     refine fU (wk0 rfl) rfl rfl hE hp rfl bI rfl rfl 7 rfl rfl (l2:=[(cp1.labels.length:Int)]) rfl (fun j u hj=>by have:=Hp.cN 1 rfl 0 _ (aS rfl) w hp j u hj;simpa using this) ex6 ?_
     intro v14 a w hE hp
     have hp:=r10 hp
     refine aB (aF ⟨gp0 hp,gp 3 hp rfl,gp 5 hp rfl,trivial⟩ fun hS=>?_)
     refine W1 18 (by kernel_rfl) rfl ?_
     refine fU (wk0 rfl) rfl rfl hE hp rfl bI rfl rfl 8 rfl rfl (l2:=[cp0]) rfl (fun j u hj=>by have:=Hp.cN 0 rfl 0 _ (aS rfl) w hp j u hj;simpa using this) ex7 ?_
     intro v15 a w hE hp
     have hp:=r10 hp
     refine aB (aF ⟨gp0 hp,gp 3 hp rfl,gp 5 hp rfl,trivial⟩ fun hS=>?_)
     refine W1 20 (by kernel_rfl) rfl ?_
     refine bQ (wk0 rfl) rfl hE hp rfl rfl rfl 5 rfl kH.size_ (aC.cells hp 6 rfl) (aC.one hp 6 rfl) rfl [v11,w4,w5] rfl ?_
     intro w hp
     have hp:=r10 hp
     refine aB (aF ⟨gp0 hp,gp 3 hp rfl,dead (by kernel_rfl),trivial⟩ fun hS=>?_)
     refine T0 21 hE hS rfl rfl rfl (by kernel_rfl) (fun _=>xf hE iE rfl rfl) fun a hE hS=>?_
     refine W1 22 (by kernel_rfl) rfl ?_
     refine bQ (wk0 rfl) rfl hE hp rfl rfl rfl 5 rfl aY.size_ (aC.cells hp 7 rfl) (aC.one hp 7 rfl) rfl [v11,v14,w5] rfl ?_
     intro w hp
     have hp:=r10 hp
     refine aB (aF ⟨gp0 hp,gp 3 hp rfl,dead (by kernel_rfl),trivial⟩ fun hS=>?_)
     refine T0 23 hE hS rfl rfl rfl (by kernel_rfl) (fun _=>xf hE jP rfl rfl) fun a hE hS=>?_
     refine W1 24 (by kernel_rfl) rfl ?_
     refine bQ (wk0 rfl) rfl hE hp rfl rfl rfl 5 rfl aY.size_ (aC.cells hp 8 rfl) (aC.one hp 8 rfl) rfl [v11,v14,v15] rfl ?_
     intro w hp
     have hp:=r10 hp
     refine aB (aF ⟨gp0 hp,gp 3 hp rfl,dead (by kernel_rfl),trivial⟩ fun hS=>?_)
     exact bP (by kernel_rfl) ⟨_,_,_,_,_,_,hE.cut trivial,hp⟩
    refine dX rfl ?_
    refine fP (wk0 rfl) rfl rfl hE hp rfl [(0,(Iv cp0))] ⟨⟨rfl,rfl⟩,trivial⟩ [(Iv cp0)] 3 (fun w=>by simp[Instr.buildSlice,Instr.fill,Value.cells,go_sem]) ?_
    intro a w b17 hE hp
    have hp:=r10 hp
    refine aB (aF ⟨gp0 hp,gp 3 hp rfl,gp 5 hp rfl,trivial⟩ fun hS=>?_)
    refine W1 8 (by kernel_rfl) rfl ?_
    refine fU (wk0 rfl) rfl rfl hE hp rfl rD rfl rfl 6 rfl rfl (l2:=[(Lbl.mk p0.kind p0.text)]) rfl (fun j u hj=>by have:=Hp.cN 2 rfl 0 _ (aS rfl) w hp j u hj;simpa using this) ex5 ?_
    intro v16 a w hE hp
    have hp:=r10 hp
    refine aB (aF ⟨gp0 hp,gp 3 hp rfl,gp 5 hp rfl,trivial⟩ fun hS=>?_)
    refine T0 19 hE hS rfl rfl rfl (by kernel_rfl) (fun _=>xf hE jB rfl rfl) fun a hE hS=>?_
    refine W1 13 (by kernel_rfl) rfl ?_
    refine fU (wk0 rfl) rfl rfl hE hp rfl bI rfl rfl 7 rfl rfl (l2:=[(cp1.labels.length:Int)]) rfl (fun j u hj=>by have:=Hp.cN 1 rfl 0 _ (aS rfl) w hp j u hj;simpa using this) ex6 ?_
    intro v17 a w hE hp
    have hp:=r10 hp
    refine aB (aF ⟨gp0 hp,gp 3 hp rfl,gp 5 hp rfl,trivial⟩ fun hS=>?_)
    refine W1 18 (by kernel_rfl) rfl ?_
    refine fU (wk0 rfl) rfl rfl hE hp rfl bI rfl rfl 8 rfl rfl (l2:=[cp0]) rfl (fun j u hj=>by have:=Hp.cN 0 rfl 0 _ (aS rfl) w hp j u hj;simpa using this) ex7 ?_
    intro v18 a w hE hp
    have hp:=r10 hp
    refine aB (aF ⟨gp0 hp,gp 3 hp rfl,gp 5 hp rfl,trivial⟩ fun hS=>?_)
    refine W1 20 (by kernel_rfl) rfl ?_
    refine bQ (wk0 rfl) rfl hE hp rfl rfl rfl 5 rfl kH.size_ (aC.cells hp 6 rfl) (aC.one hp 6 rfl) rfl [v16,w4,w5] rfl ?_
    intro w hp
    have hp:=r10 hp
    refine aB (aF ⟨gp0 hp,gp 3 hp rfl,dead (by kernel_rfl),trivial⟩ fun hS=>?_)
    refine T0 21 hE hS rfl rfl rfl (by kernel_rfl) (fun _=>xf hE iE rfl rfl) fun a hE hS=>?_
    refine W1 22 (by kernel_rfl) rfl ?_
    refine bQ (wk0 rfl) rfl hE hp rfl rfl rfl 5 rfl aY.size_ (aC.cells hp 7 rfl) (aC.one hp 7 rfl) rfl [v16,v17,w5] rfl ?_
    intro w hp
    have hp:=r10 hp
    refine aB (aF ⟨gp0 hp,gp 3 hp rfl,dead (by kernel_rfl),trivial⟩ fun hS=>?_)
    refine T0 23 hE hS rfl rfl rfl (by kernel_rfl) (fun _=>xf hE jP rfl rfl) fun a hE hS=>?_
    refine W1 24 (by kernel_rfl) rfl ?_
    refine bQ (wk0 rfl) rfl hE hp rfl rfl rfl 5 rfl aY.size_ (aC.cells hp 8 rfl) (aC.one hp 8 rfl) rfl [v16,v17,v18] rfl ?_
    intro w hp
    have hp:=r10 hp
    refine aB (aF ⟨gp0 hp,gp 3 hp rfl,dead (by kernel_rfl),trivial⟩ fun hS=>?_)
    exact bP (by kernel_rfl) ⟨_,_,_,_,_,_,hE.cut trivial,hp⟩
   refine dX rfl ?_
   refine fP (wk0 rfl) rfl rfl hE hp rfl [(0,(Iv cp0))] ⟨⟨rfl,rfl⟩,trivial⟩ [(Iv cp0)] 3 (fun w=>by simp[Instr.buildSlice,Instr.fill,Value.cells,go_sem]) ?_
   intro a w b18 hE hp
   have hp:=r9 hp
   refine aB (aF ⟨gp0 hp,gp 2 hp rfl,gp 4 hp rfl,trivial⟩ fun hS=>?_)
   refine gW [8,12] (by kernel_rfl) rfl ?_
   refine List.forall_mem_cons.2 ⟨?_,List.forall_mem_cons.2 ⟨?_,fun _ h=>absurd h (by simp)⟩⟩
   ·
    refine dX rfl ?_
    refine fU (wk0 rfl) rfl rfl hE hp rfl rD rfl rfl 5 rfl rfl (l2:=[(Lbl.mk p0.kind p0.text)]) rfl (fun j u hj=>by have:=Hp.cN 1 rfl 0 _ (aS rfl) w hp j u hj;simpa using this) ex5 ?_
    intro v19 a w hE hp
    have hp:=r9 hp
    refine aB (aF ⟨gp0 hp,gp 2 hp rfl,gp 4 hp rfl,trivial⟩ fun hS=>?_)
    refine T0 19 hE hS rfl rfl rfl (by kernel_rfl) (fun _=>xf hE jB rfl rfl) fun a hE hS=>?_
    refine W1 12 (by kernel_rfl) rfl ?_
    refine fP (wk0 rfl) rfl rfl hE hp rfl [(0,(Iv (cp1.labels.length:Int)))] ⟨⟨rfl,rfl⟩,trivial⟩ [(Iv (cp1.labels.length:Int))] 3 (fun w=>by simp[Instr.buildSlice,Instr.fill,Value.cells,go_sem]) ?_
    intro a w b19 hE hp
    have hp:=r10 hp
    refine aB (aF ⟨gp0 hp,gp 3 hp rfl,gp 5 hp rfl,trivial⟩ fun hS=>?_)
    refine W1 13 (by kernel_rfl) rfl ?_
    refine fU (wk0 rfl) rfl rfl hE hp rfl bI rfl rfl 7 rfl rfl (l2:=[(cp1.labels.length:Int)]) rfl (fun j u hj=>by have:=Hp.cN 0 rfl 0 _ (aS rfl) w hp j u hj;simpa using this) ex6 ?_
    intro v20 a w hE hp
    have hp:=r10 hp
    refine aB (aF ⟨gp0 hp,gp 3 hp rfl,gp 5 hp rfl,trivial⟩ fun hS=>?_)
    refine W1 18 (by kernel_rfl) rfl ?_
    refine fU (wk0 rfl) rfl rfl hE hp rfl bI rfl rfl 8 rfl rfl (l2:=[cp0]) rfl (fun j u hj=>by have:=Hp.cN 1 rfl 0 _ (aS rfl) w hp j u hj;simpa using this) ex7 ?_
    intro v21 a w hE hp
    have hp:=r10 hp
    refine aB (aF ⟨gp0 hp,gp 3 hp rfl,gp 5 hp rfl,trivial⟩ fun hS=>?_)
    refine W1 20 (by kernel_rfl) rfl ?_
    refine bQ (wk0 rfl) rfl hE hp rfl rfl rfl 5 rfl kH.size_ (aC.cells hp 6 rfl) (aC.one hp 6 rfl) rfl [v19,w4,w5] rfl ?_
    intro w hp
    have hp:=r10 hp
    refine aB (aF ⟨gp0 hp,gp 3 hp rfl,dead (by kernel_rfl),trivial⟩ fun hS=>?_)
    refine T0 21 hE hS rfl rfl rfl (by kernel_rfl) (fun _=>xf hE iE rfl rfl) fun a hE hS=>?_
    refine W1 22 (by kernel_rfl) rfl ?_
    refine bQ (wk0 rfl) rfl hE hp rfl rfl rfl 5 rfl aY.size_ (aC.cells hp 7 rfl) (aC.one hp 7 rfl) rfl [v19,v20,w5] rfl ?_
    intro w hp
    have hp:=r10 hp
    refine aB (aF ⟨gp0 hp,gp 3 hp rfl,dead (by kernel_rfl),trivial⟩ fun hS=>?_)
    refine T0 23 hE hS rfl rfl rfl (by kernel_rfl) (fun _=>xf hE jP rfl rfl) fun a hE hS=>?_
    refine W1 24 (by kernel_rfl) rfl ?_
    refine bQ (wk0 rfl) rfl hE hp rfl rfl rfl 5 rfl aY.size_ (aC.cells hp 8 rfl) (aC.one hp 8 rfl) rfl [v19,v20,v21] rfl ?_
    intro w hp
    have hp:=r10 hp
    refine aB (aF ⟨gp0 hp,gp 3 hp rfl,dead (by kernel_rfl),trivial⟩ fun hS=>?_)
    exact bP (by kernel_rfl) ⟨_,_,_,_,_,_,hE.cut trivial,((((((((((hp.get 9 rfl).get 9 rfl).get 9 rfl).get 9 rfl).get 9 rfl).get 9 rfl).get 9 rfl).get 9 rfl).get 8 rfl).get 9 rfl)⟩
   refine dX rfl ?_
   refine fP (wk0 rfl) rfl rfl hE hp rfl [(0,(Iv (cp1.labels.length:Int)))] ⟨⟨rfl,rfl⟩,trivial⟩ [(Iv (cp1.labels.length:Int))] 3 (fun w=>by simp[Instr.buildSlice,Instr.fill,Value.cells,go_sem]) ?_
   intro a w b20 hE hp
   have hp:=r10 hp
   refine aB (aF ⟨gp0 hp,gp 3 hp rfl,gp 5 hp rfl,trivial⟩ fun hS=>?_)
   refine W1 8 (by kernel_rfl) rfl ?_
   refine fU (wk0 rfl) rfl rfl hE hp rfl rD rfl rfl 6 rfl rfl (l2:=[(Lbl.mk p0.kind p0.text)]) rfl (fun j u hj=>by have:=Hp.cN 2 rfl 0 _ (aS rfl) w hp j u hj;simpa using this) ex5 ?_
   intro v22 a w hE hp
   have hp:=r10 hp
   refine aB (aF ⟨gp0 hp,gp 3 hp rfl,gp 5 hp rfl,trivial⟩ fun hS=>?_)
   refine T0 19 hE hS rfl rfl rfl (by kernel_rfl) (fun _=>xf hE jB rfl rfl) fun a hE hS=>?_
   refine W1 13 (by kernel_rfl) rfl ?_
   refine fU (wk0 rfl) rfl rfl hE hp rfl bI rfl rfl 7 rfl rfl (l2:=[(cp1.labels.length:Int)]) rfl (fun j u hj=>by have:=Hp.cN 0 rfl 0 _ (aS rfl) w hp j u hj;simpa using this) ex6 ?_
   intro v23 a w hE hp
   have hp:=r10 hp
   refine aB (aF ⟨gp0 hp,gp 3 hp rfl,gp 5 hp rfl,trivial⟩ fun hS=>?_)
   refine W1 18 (by kernel_rfl) rfl ?_
   refine fU (wk0 rfl) rfl rfl hE hp rfl bI rfl rfl 8 rfl rfl (l2:=[cp0]) rfl (fun j u hj=>by have:=Hp.cN 1 rfl 0 _ (aS rfl) w hp j u hj;simpa using this) ex7 ?_
   intro v24 a w hE hp
   have hp:=r10 hp
   refine aB (aF ⟨gp0 hp,gp 3 hp rfl,gp 5 hp rfl,trivial⟩ fun hS=>?_)
   refine W1 20 (by kernel_rfl) rfl ?_
   refine bQ (wk0 rfl) rfl hE hp rfl rfl rfl 5 rfl kH.size_ (aC.cells hp 6 rfl) (aC.one hp 6 rfl) rfl [v22,w4,w5] rfl ?_
   intro w hp
   have hp:=r10 hp
   refine aB (aF ⟨gp0 hp,gp 3 hp rfl,dead (by kernel_rfl),trivial⟩ fun hS=>?_)
   refine T0 21 hE hS rfl rfl rfl (by kernel_rfl) (fun _=>xf hE iE rfl rfl) fun a hE hS=>?_
   refine W1 22 (by kernel_rfl) rfl ?_
   refine bQ (wk0 rfl) rfl hE hp rfl rfl rfl 5 rfl aY.size_ (aC.cells hp 7 rfl) (aC.one hp 7 rfl) rfl [v22,v23,w5] rfl ?_
   intro w hp
   have hp:=r10 hp
   refine aB (aF ⟨gp0 hp,gp 3 hp rfl,dead (by kernel_rfl),trivial⟩ fun hS=>?_)
   refine T0 23 hE hS rfl rfl rfl (by kernel_rfl) (fun _=>xf hE jP rfl rfl) fun a hE hS=>?_
   refine W1 24 (by kernel_rfl) rfl ?_
   refine bQ (wk0 rfl) rfl hE hp rfl rfl rfl 5 rfl aY.size_ (aC.cells hp 8 rfl) (aC.one hp 8 rfl) rfl [v22,v23,v24] rfl ?_
   intro w hp
   have hp:=r10 hp
   refine aB (aF ⟨gp0 hp,gp 3 hp rfl,dead (by kernel_rfl),trivial⟩ fun hS=>?_)
   exact bP (by kernel_rfl) ⟨_,_,_,_,_,_,hE.cut trivial,((((((((((hp.get 9 rfl).get 9 rfl).get 9 rfl).get 9 rfl).get 9 rfl).get 9 rfl).get 9 rfl).get 9 rfl).get 8 rfl).get 9 rfl)⟩
  ·
   refine dX rfl ?_
   refine fP (wk0 rfl) rfl rfl hE hp rfl [(0,(Iv (cp1.labels.length:Int)))] ⟨⟨rfl,rfl⟩,trivial⟩ [(Iv (cp1.labels.length:Int))] 3 (fun w=>by simp[Instr.buildSlice,Instr.fill,Value.cells,go_sem]) ?_
   intro a w b21 hE hp
   have hp:=r8 hp
   refine aB (aF ⟨gp0 hp,gp 1 hp rfl,gp 3 hp rfl,trivial⟩ fun hS=>?_)
   refine gW [7,17] (by kernel_rfl) rfl ?_
   refine List.forall_mem_cons.2 ⟨?_,List.forall_mem_cons.2 ⟨?_,fun _ h=>absurd h (by simp)⟩⟩
   ·
    refine dX rfl ?_
    refine fP (wk0 rfl) rfl rfl hE hp rfl [(0,(.agg #[(Iv p0.kind),(.string p0.text)]))] ⟨⟨rfl,rfl⟩,trivial⟩ [(Iv p0.kind),(.string p0.text)] 156 (fun w=>by simp[Instr.buildSlice,Instr.fill,Value.cells,go_sem]) ?_
    intro a w b22 hE hp
    have hp:=r9 hp
    refine aB (aF ⟨gp0 hp,gp 2 hp rfl,gp 4 hp rfl,trivial⟩ fun hS=>?_)
    refine gW [8,17] (by kernel_rfl) rfl ?_
    refine List.forall_mem_cons.2 ⟨?_,List.forall_mem_cons.2 ⟨?_,fun _ h=>absurd h (by simp)⟩⟩
    ·
     refine dX rfl ?_
     refine fU (wk0 rfl) rfl rfl hE hp rfl rD rfl rfl 5 rfl rfl (l2:=[(Lbl.mk p0.kind p0.text)]) rfl (fun j u hj=>by have:=Hp.cN 0 rfl 0 _ (aS rfl) w hp j u hj;simpa using this) ex5 ?_
     intro v25 a w hE hp
     have hp:=r9 hp
     refine aB (aF ⟨gp0 hp,gp 2 hp rfl,gp 4 hp rfl,trivial⟩ fun hS=>?_)
     refine T0 19 hE hS rfl rfl rfl (by kernel_rfl) (fun _=>xf hE jB rfl rfl) fun a hE hS=>?_
     refine gW [13,17] (by kernel_rfl) rfl ?_
     refine List.forall_mem_cons.2 ⟨?_,List.forall_mem_cons.2 ⟨?_,fun _ h=>absurd h (by simp)⟩⟩
     ·
      refine dX rfl ?_
      refine fU (wk0 rfl) rfl rfl hE hp rfl bI rfl rfl 6 rfl rfl (l2:=[(cp1.labels.length:Int)]) rfl (fun j u hj=>by have:=Hp.cN 1 rfl 0 _ (aS rfl) w hp j u hj;simpa using this) ex6 ?_
      intro v26 a w hE hp
      have hp:=r9 hp
      refine aB (aF ⟨gp0 hp,gp 2 hp rfl,gp 4 hp rfl,trivial⟩ fun hS=>?_)
      refine W1 17 (by kernel_rfl) rfl ?_
      refine fP (wk0 rfl) rfl rfl hE hp rfl [(0,(Iv cp0))] ⟨⟨rfl,rfl⟩,trivial⟩ [(Iv cp0)] 3 (fun w=>by simp[Instr.buildSlice,Instr.fill,Value.cells,go_sem]) ?_
      intro a w b23 hE hp
      have hp:=r10 hp
      refine aB (aF ⟨gp0 hp,gp 3 hp rfl,gp 5 hp rfl,trivial⟩ fun hS=>?_)
      refine W1 18 (by kernel_rfl) rfl ?_
      refine fU (wk0 rfl) rfl rfl hE hp rfl bI rfl rfl 8 rfl rfl (l2:=[cp0]) rfl (fun j u hj=>by have:=Hp.cN 0 rfl 0 _ (aS rfl) w hp j u hj;simpa using this) ex7 ?_
      intro v27 a w hE hp
      have hp:=r10 hp
      refine aB (aF ⟨gp0 hp,gp 3 hp rfl,gp 5 hp rfl,trivial⟩ fun hS=>?_)
      refine W1 20 (by kernel_rfl) rfl ?_
      refine bQ (wk0 rfl) rfl hE hp rfl rfl rfl 5 rfl kH.size_ (aC.cells hp 6 rfl) (aC.one hp 6 rfl) rfl [v25,w4,w5] rfl ?_
      intro w hp
      have hp:=r10 hp
      refine aB (aF ⟨gp0 hp,gp 3 hp rfl,dead (by kernel_rfl),trivial⟩ fun hS=>?_)
      refine T0 21 hE hS rfl rfl rfl (by kernel_rfl) (fun _=>xf hE iE rfl rfl) fun a hE hS=>?_
      refine W1 22 (by kernel_rfl) rfl ?_
      refine bQ (wk0 rfl) rfl hE hp rfl rfl rfl 5 rfl aY.size_ (aC.cells hp 7 rfl) (aC.one hp 7 rfl) rfl [v25,v26,w5] rfl ?_
      intro w hp
      have hp:=r10 hp
      refine aB (aF ⟨gp0 hp,gp 3 hp rfl,dead (by kernel_rfl),trivial⟩ fun hS=>?_)
      refine T0 23 hE hS rfl rfl rfl (by kernel_rfl) (fun _=>xf hE jP rfl rfl) fun a hE hS=>?_
      refine W1 24 (by kernel_rfl) rfl ?_
      refine bQ (wk0 rfl) rfl hE hp rfl rfl rfl 5 rfl aY.size_ (aC.cells hp 8 rfl) (aC.one hp 8 rfl) rfl [v25,v26,v27] rfl ?_
      intro w hp
      have hp:=r10 hp
      refine aB (aF ⟨gp0 hp,gp 3 hp rfl,dead (by kernel_rfl),trivial⟩ fun hS=>?_)
      exact bP (by kernel_rfl) ⟨_,_,_,_,_,_,hE.cut trivial,((((((((((hp.get 9 rfl).get 9 rfl).get 9 rfl).get 9 rfl).get 9 rfl).get 9 rfl).get 9 rfl).get 8 rfl).get 9 rfl).get 9 rfl)⟩
     refine dX rfl ?_
     refine fP (wk0 rfl) rfl rfl hE hp rfl [(0,(Iv cp0))] ⟨⟨rfl,rfl⟩,trivial⟩ [(Iv cp0)] 3 (fun w=>by simp[Instr.buildSlice,Instr.fill,Value.cells,go_sem]) ?_
     intro a w b24 hE hp
     have hp:=r10 hp
     refine aB (aF ⟨gp0 hp,gp 3 hp rfl,gp 5 hp rfl,trivial⟩ fun hS=>?_)
     refine W1 13 (by kernel_rfl) rfl ?_
     refine fU (wk0 rfl) rfl rfl hE hp rfl bI rfl rfl 7 rfl rfl (l2:=[(cp1.labels.length:Int)]) rfl (fun j u hj=>by have:=Hp.cN 2 rfl 0 _ (aS rfl) w hp j u hj;simpa using this) ex6 ?_
     intro v28 a w hE hp
     have hp:=r10 hp
     refine aB (aF ⟨gp0 hp,gp 3 hp rfl,gp 5 hp rfl,trivial⟩ fun hS=>?_)
     refine W1 18 (by kernel_rfl) rfl ?_
     refine fU (wk0 rfl) rfl rfl hE hp rfl bI rfl rfl 8 rfl rfl (l2:=[cp0]) rfl (fun j u hj=>by have:=Hp.cN 0 rfl 0 _ (aS rfl) w hp j u hj;simpa using this) ex7 ?_
     intro v29 a w hE hp
     have hp:=r10 hp
     refine aB (aF ⟨gp0 hp,gp 3 hp rfl,gp 5 hp rfl,trivial⟩ fun hS=>?_)
     refine W1 20 (by kernel_rfl) rfl ?_
     refine bQ (wk0 rfl) rfl hE hp rfl rfl rfl 5 rfl kH.size_ (aC.cells hp 6 rfl) (aC.one hp 6 rfl) rfl [v25,w4,w5] rfl ?_
     intro w hp
     have hp:=r10 hp
     refine aB (aF ⟨gp0 hp,gp 3 hp rfl,dead (by kernel_rfl),trivial⟩ fun hS=>?_)
     refine T0 21 hE hS rfl rfl rfl (by kernel_rfl) (fun _=>xf hE iE rfl rfl) fun a hE hS=>?_
     refine W1 22 (by kernel_rfl) rfl ?_
     refine bQ (wk0 rfl) rfl hE hp rfl rfl rfl 5 rfl aY.size_ (aC.cells hp 7 rfl) (aC.one hp 7 rfl) rfl [v25,v28,w5] rfl ?_
     intro w hp
     have hp:=r10 hp
     refine aB (aF ⟨gp0 hp,gp 3 hp rfl,dead (by kernel_rfl),trivial⟩ fun hS=>?_)
     refine T0 23 hE hS rfl rfl rfl (by kernel_rfl) (fun _=>xf hE jP rfl rfl) fun a hE hS=>?_
     refine W1 24 (by kernel_rfl) rfl ?_
     refine bQ (wk0 rfl) rfl hE hp rfl rfl rfl 5 rfl aY.size_ (aC.cells hp 8 rfl) (aC.one hp 8 rfl) rfl [v25,v28,v29] rfl ?_
     intro w hp
     have hp:=r10 hp
     refine aB (aF ⟨gp0 hp,gp 3 hp rfl,dead (by kernel_rfl),trivial⟩ fun hS=>?_)
     exact bP (by kernel_rfl) ⟨_,_,_,_,_,_,hE.cut trivial,((((((((((hp.get 9 rfl).get 9 rfl).get 9 rfl).get 9 rfl).get 9 rfl).get 9 rfl).get 9 rfl).get 8 rfl).get 9 rfl).get 9 rfl)⟩
    refine dX rfl ?_
    refine fP (wk0 rfl) rfl rfl hE hp rfl [(0,(Iv cp0))] ⟨⟨rfl,rfl⟩,trivial⟩ [(Iv cp0)] 3 (fun w=>by simp[Instr.buildSlice,Instr.fill,Value.cells,go_sem]) ?_
    intro a w b25 hE hp
    have hp:=r10 hp
    refine aB (aF ⟨gp0 hp,gp 3 hp rfl,gp 5 hp rfl,trivial⟩ fun hS=>?_)
    refine W1 8 (by kernel_rfl) rfl ?_
    refine fU (wk0 rfl) rfl rfl hE hp rfl rD rfl rfl 6 rfl rfl (l2:=[(Lbl.mk p0.kind p0.text)]) rfl (fun j u hj=>by have:=Hp.cN 1 rfl 0 _ (aS rfl) w hp j u hj;simpa using this) ex5 ?_
    intro v30 a w hE hp
    have hp:=r10 hp
    refine aB (aF ⟨gp0 hp,gp 3 hp rfl,gp 5 hp rfl,trivial⟩ fun hS=>?_)
    refine T0 19 hE hS rfl rfl rfl (by kernel_rfl) (fun _=>xf hE jB rfl rfl) fun a hE hS=>?_
    refine W1 13 (by kernel_rfl) rfl ?_
    refine fU (wk0 rfl) rfl rfl hE hp rfl bI rfl rfl 7 rfl rfl (l2:=[(cp1.labels.length:Int)]) rfl (fun j u hj=>by have:=Hp.cN 2 rfl 0 _ (aS rfl) w hp j u hj;simpa using this) ex6 ?_
    intro v31 a w hE hp
    have hp:=r10 hp
    refine aB (aF ⟨gp0 hp,gp 3 hp rfl,gp 5 hp rfl,trivial⟩ fun hS=>?_)
    refine W1 18 (by kernel_rfl) rfl ?_
    refine fU (wk0 rfl) rfl rfl hE hp rfl bI rfl rfl 8 rfl rfl (l2:=[cp0]) rfl (fun j u hj=>by have:=Hp.cN 0 rfl 0 _ (aS rfl) w hp j u hj;simpa using this) ex7 ?_
    intro v32 a w hE hp
    have hp:=r10 hp
    refine aB (aF ⟨gp0 hp,gp 3 hp rfl,gp 5 hp rfl,trivial⟩ fun hS=>?_)
    refine W1 20 (by kernel_rfl) rfl ?_
    refine bQ (wk0 rfl) rfl hE hp rfl rfl rfl 5 rfl kH.size_ (aC.cells hp 6 rfl) (aC.one hp 6 rfl) rfl [v30,w4,w5] rfl ?_
    intro w hp
    have hp:=r10 hp
    refine aB (aF ⟨gp0 hp,gp 3 hp rfl,dead (by kernel_rfl),trivial⟩ fun hS=>?_)
    refine T0 21 hE hS rfl rfl rfl (by kernel_rfl) (fun _=>xf hE iE rfl rfl) fun a hE hS=>?_
    refine W1 22 (by kernel_rfl) rfl ?_
    refine bQ (wk0 rfl) rfl hE hp rfl rfl rfl 5 rfl aY.size_ (aC.cells hp 7 rfl) (aC.one hp 7 rfl) rfl [v30,v31,w5] rfl ?_
    intro w hp
    have hp:=r10 hp
    refine aB (aF ⟨gp0 hp,gp 3 hp rfl,dead (by kernel_rfl),trivial⟩ fun hS=>?_)
    refine T0 23 hE hS rfl rfl rfl (by kernel_rfl) (fun _=>xf hE jP rfl rfl) fun a hE hS=>?_
    refine W1 24 (by kernel_rfl) rfl ?_
    refine bQ (wk0 rfl) rfl hE hp rfl rfl rfl 5 rfl aY.size_ (aC.cells hp 8 rfl) (aC.one hp 8 rfl) rfl [v30,v31,v32] rfl ?_
    intro w hp
    have hp:=r10 hp
    refine aB (aF ⟨gp0 hp,gp 3 hp rfl,dead (by kernel_rfl),trivial⟩ fun hS=>?_)
    exact bP (by kernel_rfl) ⟨_,_,_,_,_,_,hE.cut trivial,((((((((((hp.get 9 rfl).get 9 rfl).get 9 rfl).get 9 rfl).get 9 rfl).get 9 rfl).get 9 rfl).get 8 rfl).get 9 rfl).get 9 rfl)⟩
   refine dX rfl ?_
   refine fP (wk0 rfl) rfl rfl hE hp rfl [(0,(Iv cp0))] ⟨⟨rfl,rfl⟩,trivial⟩ [(Iv cp0)] 3 (fun w=>by simp[Instr.buildSlice,Instr.fill,Value.cells,go_sem]) ?_
   intro a w b26 hE hp
   have hp:=r9 hp
   refine aB (aF ⟨gp0 hp,gp 2 hp rfl,gp 4 hp rfl,trivial⟩ fun hS=>?_)
   refine W1 7 (by kernel_rfl) rfl ?_
   refine fP (wk0 rfl) rfl rfl hE hp rfl [(0,(.agg #[(Iv p0.kind),(.string p0.text)]))] ⟨⟨rfl,rfl⟩,trivial⟩ [(Iv p0.kind),(.string p0.text)] 156 (fun w=>by simp[Instr.buildSlice,Instr.fill,Value.cells,go_sem]) ?_
   intro a w b27 hE hp
   have hp:=r10 hp
   refine aB (aF ⟨gp0 hp,gp 3 hp rfl,gp 5 hp rfl,trivial⟩ fun hS=>?_)
   refine W1 8 (by kernel_rfl) rfl ?_
   refine fU (wk0 rfl) rfl rfl hE hp rfl rD rfl rfl 6 rfl rfl (l2:=[(Lbl.mk p0.kind p0.text)]) rfl (fun j u hj=>by have:=Hp.cN 0 rfl 0 _ (aS rfl) w hp j u hj;simpa using this) ex5 ?_
   intro v33 a w hE hp
   have hp:=r10 hp
   refine aB (aF ⟨gp0 hp,gp 3 hp rfl,gp 5 hp rfl,trivial⟩ fun hS=>?_)
   refine T0 19 hE hS rfl rfl rfl (by kernel_rfl) (fun _=>xf hE jB rfl rfl) fun a hE hS=>?_
   refine W1 13 (by kernel_rfl) rfl ?_
   refine fU (wk0 rfl) rfl rfl hE hp rfl bI rfl rfl 7 rfl rfl (l2:=[(cp1.labels.length:Int)]) rfl (fun j u hj=>by have:=Hp.cN 2 rfl 0 _ (aS rfl) w hp j u hj;simpa using this) ex6 ?_
   intro v34 a w hE hp
   have hp:=r10 hp
   refine aB (aF ⟨gp0 hp,gp 3 hp rfl,gp 5 hp rfl,trivial⟩ fun hS=>?_)
   refine W1 18 (by kernel_rfl) rfl ?_
   refine fU (wk0 rfl) rfl rfl hE hp rfl bI rfl rfl 8 rfl rfl (l2:=[cp0]) rfl (fun j u hj=>by have:=Hp.cN 1 rfl 0 _ (aS rfl) w hp j u hj;simpa using this) ex7 ?_
   intro v35 a w hE hp
   have hp:=r10 hp
   refine aB (aF ⟨gp0 hp,gp 3 hp rfl,gp 5 hp rfl,trivial⟩ fun hS=>?_)
   refine W1 20 (by kernel_rfl) rfl ?_
   refine bQ (wk0 rfl) rfl hE hp rfl rfl rfl 5 rfl kH.size_ (aC.cells hp 6 rfl) (aC.one hp 6 rfl) rfl [v33,w4,w5] rfl ?_
   intro w hp
   have hp:=r10 hp
   refine aB (aF ⟨gp0 hp,gp 3 hp rfl,dead (by kernel_rfl),trivial⟩ fun hS=>?_)
   refine T0 21 hE hS rfl rfl rfl (by kernel_rfl) (fun _=>xf hE iE rfl rfl) fun a hE hS=>?_
   refine W1 22 (by kernel_rfl) rfl ?_
   refine bQ (wk0 rfl) rfl hE hp rfl rfl rfl 5 rfl aY.size_ (aC.cells hp 7 rfl) (aC.one hp 7 rfl) rfl [v33,v34,w5] rfl ?_
   intro w hp
   have hp:=r10 hp
   refine aB (aF ⟨gp0 hp,gp 3 hp rfl,dead (by kernel_rfl),trivial⟩ fun hS=>?_)
   refine T0 23 hE hS rfl rfl rfl (by kernel_rfl) (fun _=>xf hE jP rfl rfl) fun a hE hS=>?_
   refine W1 24 (by kernel_rfl) rfl ?_
   refine bQ (wk0 rfl) rfl hE hp rfl rfl rfl 5 rfl aY.size_ (aC.cells hp 8 rfl) (aC.one hp 8 rfl) rfl [v33,v34,v35] rfl ?_
   intro w hp
   have hp:=r10 hp
   refine aB (aF ⟨gp0 hp,gp 3 hp rfl,dead (by kernel_rfl),trivial⟩ fun hS=>?_)
   exact bP (by kernel_rfl) ⟨_,_,_,_,_,_,hE.cut trivial,((((((((((hp.get 9 rfl).get 9 rfl).get 9 rfl).get 9 rfl).get 9 rfl).get 9 rfl).get 9 rfl).get 7 rfl).get 9 rfl).get 9 rfl)⟩
  refine dX rfl ?_
  refine fP (wk0 rfl) rfl rfl hE hp rfl [(0,(Iv cp0))] ⟨⟨rfl,rfl⟩,trivial⟩ [(Iv cp0)] 3 (fun w=>by simp[Instr.buildSlice,Instr.fill,Value.cells,go_sem]) ?_
  intro a w b28 hE hp
  have hp:=r8 hp
  refine aB (aF ⟨gp0 hp,gp 1 hp rfl,gp 3 hp rfl,trivial⟩ fun hS=>?_)
  refine gW [7,12] (by kernel_rfl) rfl ?_
  refine List.forall_mem_cons.2 ⟨?_,List.forall_mem_cons.2 ⟨?_,fun _ h=>absurd h (by simp)⟩⟩
  ·
   refine dX rfl ?_
   refine fP (wk0 rfl) rfl rfl hE hp rfl [(0,(.agg #[(Iv p0.kind),(.string p0.text)]))] ⟨⟨rfl,rfl⟩,trivial⟩ [(Iv p0.kind),(.string p0.text)] 156 (fun w=>by simp[Instr.buildSlice,Instr.fill,Value.cells,go_sem]) ?_
   intro a w b29 hE hp
   have hp:=r9 hp
   refine aB (aF ⟨gp0 hp,gp 2 hp rfl,gp 4 hp rfl,trivial⟩ fun hS=>?_)
   refine gW [8,12] (by kernel_rfl) rfl ?_
   refine List.forall_mem_cons.2 ⟨?_,List.forall_mem_cons.2 ⟨?_,fun _ h=>absurd h (by simp)⟩⟩
   ·
    refine dX rfl ?_
    refine fU (wk0 rfl) rfl rfl hE hp rfl rD rfl rfl 5 rfl rfl (l2:=[(Lbl.mk p0.kind p0.text)]) rfl (fun j u hj=>by have:=Hp.cN 0 rfl 0 _ (aS rfl) w hp j u hj;simpa using this) ex5 ?_
    intro v36 a w hE hp
    have hp:=r9 hp
    refine aB (aF ⟨gp0 hp,gp 2 hp rfl,gp 4 hp rfl,trivial⟩ fun hS=>?_)
    refine T0 19 hE hS rfl rfl rfl (by kernel_rfl) (fun _=>xf hE jB rfl rfl) fun a hE hS=>?_
    refine W1 12 (by kernel_rfl) rfl ?_
    refine fP (wk0 rfl) rfl rfl hE hp rfl [(0,(Iv (cp1.labels.length:Int)))] ⟨⟨rfl,rfl⟩,trivial⟩ [(Iv (cp1.labels.length:Int))] 3 (fun w=>by simp[Instr.buildSlice,Instr.fill,Value.cells,go_sem]) ?_
    intro a w b30 hE hp
    have hp:=r10 hp
    refine aB (aF ⟨gp0 hp,gp 3 hp rfl,gp 5 hp rfl,trivial⟩ fun hS=>?_)
    refine W1 13 (by kernel_rfl) rfl ?_
    refine fU (wk0 rfl) rfl rfl hE hp rfl bI rfl rfl 7 rfl rfl (l2:=[(cp1.labels.length:Int)]) rfl (fun j u hj=>by have:=Hp.cN 0 rfl 0 _ (aS rfl) w hp j u hj;simpa using this) ex6 ?_
    intro v37 a w hE hp
    have hp:=r10 hp
    refine aB (aF ⟨gp0 hp,gp 3 hp rfl,gp 5 hp rfl,trivial⟩ fun hS=>?_)
    refine W1 18 (by kernel_rfl) rfl ?_
    refine fU (wk0 rfl) rfl rfl hE hp rfl bI rfl rfl 8 rfl rfl (l2:=[cp0]) rfl (fun j u hj=>by have:=Hp.cN 2 rfl 0 _ (aS rfl) w hp j u hj;simpa using this) ex7 ?_
    intro v38 a w hE hp
    have hp:=r10 hp
    refine aB (aF ⟨gp0 hp,gp 3 hp rfl,gp 5 hp rfl,trivial⟩ fun hS=>?_)
    refine W1 20 (by kernel_rfl) rfl ?_
    refine bQ (wk0 rfl) rfl hE hp rfl rfl rfl 5 rfl kH.size_ (aC.cells hp 6 rfl) (aC.one hp 6 rfl) rfl [v36,w4,w5] rfl ?_
    intro w hp
    have hp:=r10 hp
    refine aB (aF ⟨gp0 hp,gp 3 hp rfl,dead (by kernel_rfl),trivial⟩ fun hS=>?_)
    refine T0 21 hE hS rfl rfl rfl (by kernel_rfl) (fun _=>xf hE iE rfl rfl) fun a hE hS=>?_
    refine W1 22 (by kernel_rfl) rfl ?_
    refine bQ (wk0 rfl) rfl hE hp rfl rfl rfl 5 rfl aY.size_ (aC.cells hp 7 rfl) (aC.one hp 7 rfl) rfl [v36,v37,w5] rfl ?_
    intro w hp
    have hp:=r10 hp
    refine aB (aF ⟨gp0 hp,gp 3 hp rfl,dead (by kernel_rfl),trivial⟩ fun hS=>?_)
    refine T0 23 hE hS rfl rfl rfl (by kernel_rfl) (fun _=>xf hE jP rfl rfl) fun a hE hS=>?_
    refine W1 24 (by kernel_rfl) rfl ?_
    refine bQ (wk0 rfl) rfl hE hp rfl rfl rfl 5 rfl aY.size_ (aC.cells hp 8 rfl) (aC.one hp 8 rfl) rfl [v36,v37,v38] rfl ?_
    intro w hp
    have hp:=r10 hp
    refine aB (aF ⟨gp0 hp,gp 3 hp rfl,dead (by kernel_rfl),trivial⟩ fun hS=>?_)
    exact bP (by kernel_rfl) ⟨_,_,_,_,_,_,hE.cut trivial,((((((((((hp.get 9 rfl).get 9 rfl).get 9 rfl).get 9 rfl).get 9 rfl).get 9 rfl).get 9 rfl).get 8 rfl).get 8 rfl).get 9 rfl)⟩
   refine dX rfl ?_
   refine fP (wk0 rfl) rfl rfl hE hp rfl [(0,(Iv (cp1.labels.length:Int)))] ⟨⟨rfl,rfl⟩,trivial⟩ [(Iv (cp1.labels.length:Int))] 3 (fun w=>by simp[Instr.buildSlice,Instr.fill,Value.cells,go_sem]) ?_
   intro a w b31 hE hp
   have hp:=r10 hp
   refine aB (aF ⟨gp0 hp,gp 3 hp rfl,gp 5 hp rfl,trivial⟩ fun hS=>?_)
   refine W1 8 (by kernel_rfl) rfl ?_
   refine fU (wk0 rfl) rfl rfl hE hp rfl rD rfl rfl 6 rfl rfl (l2:=[(Lbl.mk p0.kind p0.text)]) rfl (fun j u hj=>by have:=Hp.cN 1 rfl 0 _ (aS rfl) w hp j u hj;simpa using this) ex5 ?_
   intro v39 a w hE hp
   have hp:=r10 hp
   refine aB (aF ⟨gp0 hp,gp 3 hp rfl,gp 5 hp rfl,trivial⟩ fun hS=>?_)
   refine T0 19 hE hS rfl rfl rfl (by kernel_rfl) (fun _=>xf hE jB rfl rfl) fun a hE hS=>?_
   refine W1 13 (by kernel_rfl) rfl ?_
   refine fU (wk0 rfl) rfl rfl hE hp rfl bI rfl rfl 7 rfl rfl (l2:=[(cp1.labels.length:Int)]) rfl (fun j u hj=>by have:=Hp.cN 0 rfl 0 _ (aS rfl) w hp j u hj;simpa using this) ex6 ?_
   intro v40 a w hE hp
   have hp:=r10 hp
   refine aB (aF ⟨gp0 hp,gp 3 hp rfl,gp 5 hp rfl,trivial⟩ fun hS=>?_)
   refine W1 18 (by kernel_rfl) rfl ?_
   refine fU (wk0 rfl) rfl rfl hE hp rfl bI rfl rfl 8 rfl rfl (l2:=[cp0]) rfl (fun j u hj=>by have:=Hp.cN 2 rfl 0 _ (aS rfl) w hp j u hj;simpa using this) ex7 ?_
   intro v41 a w hE hp
   have hp:=r10 hp
   refine aB (aF ⟨gp0 hp,gp 3 hp rfl,gp 5 hp rfl,trivial⟩ fun hS=>?_)
   refine W1 20 (by kernel_rfl) rfl ?_
   refine bQ (wk0 rfl) rfl hE hp rfl rfl rfl 5 rfl kH.size_ (aC.cells hp 6 rfl) (aC.one hp 6 rfl) rfl [v39,w4,w5] rfl ?_
   intro w hp
   have hp:=r10 hp
   refine aB (aF ⟨gp0 hp,gp 3 hp rfl,dead (by kernel_rfl),trivial⟩ fun hS=>?_)
   refine T0 21 hE hS rfl rfl rfl (by kernel_rfl) (fun _=>xf hE iE rfl rfl) fun a hE hS=>?_
   refine W1 22 (by kernel_rfl) rfl ?_
   refine bQ (wk0 rfl) rfl hE hp rfl rfl rfl 5 rfl aY.size_ (aC.cells hp 7 rfl) (aC.one hp 7 rfl) rfl [v39,v40,w5] rfl ?_
   intro w hp
   have hp:=r10 hp
   refine aB (aF ⟨gp0 hp,gp 3 hp rfl,dead (by kernel_rfl),trivial⟩ fun hS=>?_)
   refine T0 23 hE hS rfl rfl rfl (by kernel_rfl) (fun _=>xf hE jP rfl rfl) fun a hE hS=>?_
   refine W1 24 (by kernel_rfl) rfl ?_
   refine bQ (wk0 rfl) rfl hE hp rfl rfl rfl 5 rfl aY.size_ (aC.cells hp 8 rfl) (aC.one hp 8 rfl) rfl [v39,v40,v41] rfl ?_
   intro w hp
   have hp:=r10 hp
   refine aB (aF ⟨gp0 hp,gp 3 hp rfl,dead (by kernel_rfl),trivial⟩ fun hS=>?_)
   exact bP (by kernel_rfl) ⟨_,_,_,_,_,_,hE.cut trivial,((((((((((hp.get 9 rfl).get 9 rfl).get 9 rfl).get 9 rfl).get 9 rfl).get 9 rfl).get 9 rfl).get 8 rfl).get 8 rfl).get 9 rfl)⟩
  refine dX rfl ?_
  refine fP (wk0 rfl) rfl rfl hE hp rfl [(0,(Iv (cp1.labels.length:Int)))] ⟨⟨rfl,rfl⟩,trivial⟩ [(Iv (cp1.labels.length:Int))] 3 (fun w=>by simp[Instr.buildSlice,Instr.fill,Value.cells,go_sem]) ?_
  intro a w b32 hE hp
  have hp:=r9 hp
  refine aB (aF ⟨gp0 hp,gp 2 hp rfl,gp 4 hp rfl,trivial⟩ fun hS=>?_)
  refine W1 7 (by kernel_rfl) rfl ?_
  refine fP (wk0 rfl) rfl rfl hE hp rfl [(0,(.agg #[(Iv p0.kind),(.string p0.text)]))] ⟨⟨rfl,rfl⟩,trivial⟩ [(Iv p0.kind),(.string p0.text)] 156 (fun w=>by simp[Instr.buildSlice,Instr.fill,Value.cells,go_sem]) ?_
  intro a w b33 hE hp
  have hp:=r10 hp
  refine aB (aF ⟨gp0 hp,gp 3 hp rfl,gp 5 hp rfl,trivial⟩ fun hS=>?_)
  refine W1 8 (by kernel_rfl) rfl ?_
  refine fU (wk0 rfl) rfl rfl hE hp rfl rD rfl rfl 6 rfl rfl (l2:=[(Lbl.mk p0.kind p0.text)]) rfl (fun j u hj=>by have:=Hp.cN 0 rfl 0 _ (aS rfl) w hp j u hj;simpa using this) ex5 ?_
  intro v42 a w hE hp
  have hp:=r10 hp
  refine aB (aF ⟨gp0 hp,gp 3 hp rfl,gp 5 hp rfl,trivial⟩ fun hS=>?_)
  refine T0 19 hE hS rfl rfl rfl (by kernel_rfl) (fun _=>xf hE jB rfl rfl) fun a hE hS=>?_
  refine W1 13 (by kernel_rfl) rfl ?_
  refine fU (wk0 rfl) rfl rfl hE hp rfl bI rfl rfl 7 rfl rfl (l2:=[(cp1.labels.length:Int)]) rfl (fun j u hj=>by have:=Hp.cN 1 rfl 0 _ (aS rfl) w hp j u hj;simpa using this) ex6 ?_
  intro v43 a w hE hp
  have hp:=r10 hp
  refine aB (aF ⟨gp0 hp,gp 3 hp rfl,gp 5 hp rfl,trivial⟩ fun hS=>?_)
  refine W1 18 (by kernel_rfl) rfl ?_
  refine fU (wk0 rfl) rfl rfl hE hp rfl bI rfl rfl 8 rfl rfl (l2:=[cp0]) rfl (fun j u hj=>by have:=Hp.cN 2 rfl 0 _ (aS rfl) w hp j u hj;simpa using this) ex7 ?_
  intro v44 a w hE hp
  have hp:=r10 hp
  refine aB (aF ⟨gp0 hp,gp 3 hp rfl,gp 5 hp rfl,trivial⟩ fun hS=>?_)
  refine W1 20 (by kernel_rfl) rfl ?_
  refine bQ (wk0 rfl) rfl hE hp rfl rfl rfl 5 rfl kH.size_ (aC.cells hp 6 rfl) (aC.one hp 6 rfl) rfl [v42,w4,w5] rfl ?_
  intro w hp
  have hp:=r10 hp
  refine aB (aF ⟨gp0 hp,gp 3 hp rfl,dead (by kernel_rfl),trivial⟩ fun hS=>?_)
  refine T0 21 hE hS rfl rfl rfl (by kernel_rfl) (fun _=>xf hE iE rfl rfl) fun a hE hS=>?_
  refine W1 22 (by kernel_rfl) rfl ?_
  refine bQ (wk0 rfl) rfl hE hp rfl rfl rfl 5 rfl aY.size_ (aC.cells hp 7 rfl) (aC.one hp 7 rfl) rfl [v42,v43,w5] rfl ?_
  intro w hp
  have hp:=r10 hp
  refine aB (aF ⟨gp0 hp,gp 3 hp rfl,dead (by kernel_rfl),trivial⟩ fun hS=>?_)
  refine T0 23 hE hS rfl rfl rfl (by kernel_rfl) (fun _=>xf hE jP rfl rfl) fun a hE hS=>?_
  refine W1 24 (by kernel_rfl) rfl ?_
  refine bQ (wk0 rfl) rfl hE hp rfl rfl rfl 5 rfl aY.size_ (aC.cells hp 8 rfl) (aC.one hp 8 rfl) rfl [v42,v43,v44] rfl ?_
  intro w hp
  have hp:=r10 hp
  refine aB (aF ⟨gp0 hp,gp 3 hp rfl,dead (by kernel_rfl),trivial⟩ fun hS=>?_)
  exact bP (by kernel_rfl) ⟨_,_,_,_,_,_,hE.cut trivial,((((((((((hp.get 9 rfl).get 9 rfl).get 9 rfl).get 9 rfl).get 9 rfl).get 9 rfl).get 9 rfl).get 7 rfl).get 8 rfl).get 9 rfl)⟩
 rintro a w ⟨y15,y14,y13,y3,y4,y5,hE,hp⟩
 obtain rfl:=oj hm
 exact aB2 hE rfl ⟨_,rfl,_,_,_,rfl,(((((((hp.get 3 rfl).drop).get 2 rfl).drop).get 1 rfl).drop).drop)⟩
theorem aC3:∀(n:Nat),∀{Z:World} {ρ:PH} {L:List bK} {w:World} (p0:Node) (aI:Value) (bD:aH ρ aI p0.kids) (bcp0:Nat) (cp0:Int) (bcp1:Nat) (cp1:DFlat) (dU:Value) (fH:Value) (dN:Value) (bcp2:Nat) (hp:Hp Z ρ (Pt bcp0 (.cells #[(Iv cp0)] 3 (0,0))::Pt bcp1 (.cells #[dU,fH,dN] 135 (0,0))::aC 156 dU cp1.labels::aC 3 fH cp1.left::aC 3 dN cp1.numbers::Pt bcp2 (.cells #[(.func (.func 104) #[] #[(Pv bcp0 0),(Pv bcp1 0),(Pv bcp2 0)])] 154 (0,0))::L) w) (r:(Int×DFlat)) (hm:qL n p0 cp0 cp1=some r),Calls Tryz.prog 104 #[(.agg #[(Iv p0.kind),(.string p0.text),(Iv p0.at_),(Iv p0.fin),aI]),(Pv bcp0 0),(Pv bcp1 0),(Pv bcp2 0)] w (Ret fun v w'=>∃(nI:Value) (qW:Value) (lV:Value),v= .tuple #[]∧Hp Z ρ (Pt bcp0 (.cells #[(Iv r.1)] 3 (0,0))::Pt bcp1 (.cells #[nI,qW,lV] 135 (0,0))::aC 156 nI r.2.labels::aC 3 qW r.2.left::aC 3 lV r.2.numbers::Pt bcp2 (.cells #[(.func (.func 104) #[] #[(Pv bcp0 0),(Pv bcp1 0),(Pv bcp2 0)])] 154 (0,0))::L) w'):=by
 intro n
 induction n with
 |zero=>intro Z ρ L w p0 aI bD bcp0 cp0 bcp1 cp1 dU fH dN bcp2 hp r hm;cases hm
 |succ n ih=>intro Z ρ L w p0 aI bD bcp0 cp0 bcp1 cp1 dU fH dN bcp2 hp r hm;exact X5 (qL n) ih p0 aI bD bcp0 cp0 bcp1 cp1 dU fH dN bcp2 hp r hm
theorem aE3 {Z:World} {ρ:PH} {L:List bK} {w:World} (p0:Node) (aI:Value) (bD:aH ρ aI p0.kids) (bcp0:Nat) (cp0:Int) (bcp1:Nat) (cp1:DFlat) (dU:Value) (fH:Value) (dN:Value) (bcp2:Nat) (hp:Hp Z ρ (Pt bcp0 (.cells #[(Iv cp0)] 3 (0,0))::Pt bcp1 (.cells #[dU,fH,dN] 135 (0,0))::aC 156 dU cp1.labels::aC 3 fH cp1.left::aC 3 dN cp1.numbers::Pt bcp2 (.cells #[(.func (.func 104) #[] #[(Pv bcp0 0),(Pv bcp1 0),(Pv bcp2 0)])] 154 (0,0))::L) w) (r:(Int×DFlat)) (hm:F8 p0 cp0 cp1=some r):
  Calls Tryz.prog 104 #[(.agg #[(Iv p0.kind),(.string p0.text),(Iv p0.at_),(Iv p0.fin),aI]),(Pv bcp0 0),(Pv bcp1 0),(Pv bcp2 0)] w (Ret fun v w'=>∃(nI:Value) (qW:Value) (lV:Value),v= .tuple #[]∧Hp Z ρ (Pt bcp0 (.cells #[(Iv r.1)] 3 (0,0))::Pt bcp1 (.cells #[nI,qW,lV] 135 (0,0))::aC 156 nI r.2.labels::aC 3 qW r.2.left::aC 3 lV r.2.numbers::Pt bcp2 (.cells #[(.func (.func 104) #[] #[(Pv bcp0 0),(Pv bcp1 0),(Pv bcp2 0)])] 154 (0,0))::L) w'):=aC3 _ p0 aI bD bcp0 cp0 bcp1 cp1 dU fH dN bcp2 hp r hm
theorem eF {Z:World} {ρ:PH} {L:List bK} {w:World} (p0:Node) (aI:Value) (bD:aH ρ aI p0.kids) (hp:Hp Z ρ (L) w) (r:DFlat) (hm:uP p0=some r):
  Calls Tryz.prog 90 #[(.agg #[(Iv p0.kind),(.string p0.text),(Iv p0.at_),(Iv p0.fin),aI])] w (Ret fun v w'=>∃(vr1_labels:Value) (vr1_left:Value) (vr1_numbers:Value),v=(.agg #[vr1_labels,vr1_left,vr1_numbers])∧Hp Z ρ (aC 156 vr1_labels r.labels::aC 3 vr1_left r.left::aC 3 vr1_numbers r.numbers::L) w'):=by
 refine enter (N:=11) Tryz.func90 rfl rfl [(0,(.agg #[(Iv p0.kind),(.string p0.text),(Iv p0.at_),(Iv p0.fin),aI]))] rfl (bC ⟨rfl,trivial⟩) fun a hE=>?_
 unfold uP at hm
 refine aG (aA ?_)
 refine iI (wk0 rfl) rfl rfl hE hp rfl (v:=(.agg #[(Iv p0.kind),(.string p0.text),(Iv p0.at_),(Iv p0.fin),aI])) rfl ?_
 intro a w b1 hE hp
 have hp:=r1 hp
 refine dL (wk0 rfl) rfl rfl hE hp rfl [N0,N0,N0] (fun w=>by simp[Instr.alloc,go_sem]<;>rfl) ?_
 intro a w b2 hE hp
 have hp:=r2 hp
 refine aB (aG ?_)
 refine aA ?_
 refine dL (wk0 rfl) rfl rfl hE hp rfl [N0,N0,N0] (fun w=>by simp[Instr.alloc,go_sem]<;>rfl) ?_
 intro a w b3 hE hp
 have hp:=r3 hp
 refine aB (aG ?_)
 refine aA ?_
 refine dL (wk0 rfl) rfl rfl hE hp rfl [(Iv 0)] (fun w=>by simp[Instr.alloc,go_sem]<;>rfl) ?_
 intro a w b4 hE hp
 have hp:=r4 hp
 refine aX (wk0 rfl) rfl hE hp rfl rfl rfl 0 rfl aT.size_ rfl (aQ ⟨rfl,trivial⟩) [(Iv 0)] rfl ?_
 intro w hp
 have hp:=r4 hp
 refine aB (aG ?_)
 refine aA ?_
 refine dL (wk0 rfl) rfl rfl hE hp rfl [.nilFunc] (fun w=>by simp[Instr.alloc,go_sem]<;>rfl) ?_
 intro a w b5 hE hp
 have hp:=r5 hp
 refine aB (aG ?_)
 refine aA (V hE hp rfl (v:=(.func (.func 104) #[] #[(Pv b4 0),(Pv b3 0),(Pv b5 0)])) (ex_fn rfl hE [(Pv b4 0),(Pv b3 0),(Pv b5 0)] (by exact⟨rfl,rfl,rfl,trivial⟩)) fun a hE=>?_)
 refine aX (wk0 rfl) rfl hE hp rfl rfl rfl 0 rfl varty154.size_ rfl (aQ ⟨rfl,trivial⟩) [(.func (.func 104) #[] #[(Pv b4 0),(Pv b3 0),(Pv b5 0)])] rfl ?_
 intro w hp
 have hp:=r5 hp
 refine aB (aG ?_)
 refine aA (V hE hp rfl (xl hE varty154 0 rfl rfl rfl rfl) fun a hE=>?_)
 refine V hE hp rfl (aK rfl hE rfl (fun w hw=>aW (cs:=[(Iv p0.kind),(.string p0.text),(Iv p0.at_),(Iv p0.fin),aI]) bY (Hp.cN 4 rfl 0 _ (aS rfl) w hw))) fun a hE=>?_
 have hp:=hp.emp (aC.nil (α:=Lbl) 156)
 have hp:=r6 hp
 have hp:=hp.emp (aC.nil (α:=Int) 3)
 have hp:=r7 hp
 have hp:=hp.emp (aC.nil (α:=Int) 3)
 have hp:=r8 hp
 have hp:=r8 hp
 obtain⟨x1,ex1,hm⟩:=bnd hm
 refine pU (wk0 rfl) rfl rfl hE rfl rfl [(.agg #[(Iv p0.kind),(.string p0.text),(Iv p0.at_),(Iv p0.fin),aI])] ⟨rfl,trivial⟩ ent104 (aE3 p0 aI bD b4 0 b3 (DFlat.mk ([]) ([]) ([])) N0 N0 N0 b5 ((((((hp.get 3 rfl).get 1 rfl).get 2 rfl).get 3 rfl).get 5 rfl).get 5 rfl) x1 ex1) Ret.ret ?_
 intro v a w hR hE
 obtain⟨aC9,aK1,Y0,rfl,hp⟩:=Ret.of hR
 have hp:=r8 hp
 refine aB (aG ?_)
 refine aA (V hE hp rfl (aK rfl hE rfl (fun w hw=>aW (cs:=[aC9,aK1,Y0]) iF (Hp.cN 1 rfl 0 _ (aS rfl) w hw))) fun a hE=>?_)
 refine aX (wk0 rfl) rfl hE hp rfl rfl rfl 6 rfl iF.size_ rfl (aQ ⟨(aC.one hp 2 rfl),(aC.one hp 3 rfl),(aC.one hp 4 rfl),trivial⟩) [aC9,aK1,Y0] rfl ?_
 intro w hp
 have hp:=r8 hp
 refine aB (bZ ?_)
 obtain rfl:=oj hm
 exact retc1 hE rfl rfl (aG6 (cs:=[aC9,aK1,Y0]) iF (Hp.cN 6 rfl 0 _ (aS rfl) _ hp)) ⟨_,rfl,_,_,_,rfl,(((((((((hp.get 7 rfl).drop).get 6 rfl).drop).get 5 rfl).drop).get 1 rfl).drop).drop)⟩
theorem zJ {Z:World} {ρ:PH} {L:List bK} {w:World} (p0:DFlat) (qF:Value) (hp0_labels:aH ρ qF p0.labels) (rZ:Value) (hp0_left:aH ρ rZ p0.left) (nZ:Value) (hp0_numbers:aH ρ nZ p0.numbers) (hp:Hp Z ρ (L) w) (r:(List Int)) (hm:rC p0=some r):
  Calls Tryz.prog 93 #[(.agg #[qF,rZ,nZ])] w (Ret fun v w'=>∃(vr1:Value),v=vr1∧Hp Z ρ (aC 3 vr1 r::L) w'):=by
 refine enter (N:=22) Tryz.func93 rfl rfl [(0,(.agg #[qF,rZ,nZ]))] rfl (bC ⟨rfl,trivial⟩) fun a hE=>?_
 unfold rC at hm
 refine aG (aA ?_)
 refine iI (wk0 rfl) rfl rfl hE hp rfl (v:=(.agg #[qF,rZ,nZ])) rfl ?_
 intro a w b1 hE hp
 have hp:=r1 hp
 refine S hE 1 rfl fun a hE=>aB (aG ?_)
 refine aA ?_
 refine s_mkmap (κ:=Int) (β:=Int) (wk0 rfl) rfl rfl hE hp rfl ?_
 intro a w b2 hE hp
 have hp:=r2 hp
 refine S hE 1 rfl fun a hE=>aB (aG ?_)
 refine aG (aA ?_)
 refine V hE hp rfl (xf hE iE rfl rfl) fun a hE=>V hE hp rfl (xl hE aY 1 rfl rfl rfl rfl) fun a hE=>V hE hp rfl (bT rfl hE rfl (aH.len hp0_left bI)) fun a hE=>S hE 1 rfl fun a hE=>aB ?_
 obtain⟨b3,hc1,hm⟩:=bnd hm
 refine dH (fun a w=>Env 22 [(3,(.map (some b2)))] a∧Hp Z ρ (sN b2 (b3:List (Int×Int))::Pt b1 (.cells #[qF,rZ,nZ] 135 (0,0))::L) w) ?_ ?_
 ·refine dZ hc1 (fun s a w=>Env 22 [(3,(.map (some b2))),(8,rZ),(9,(Iv (p0.left.length:Int))),(10,(Iv s.1))] a∧Hp Z ρ (sN b2 (s.2:List (Int×Int))::Pt b1 (.cells #[qF,rZ,nZ] 135 (0,0))::L) w) ?_ ?_
  ·exact⟨hE.cut ⟨rfl,rfl,rfl,rfl,trivial⟩,hp⟩
  rintro⟨aP,aU⟩ st a w ⟨hE,hp⟩ hl1
  dsimp only at hE hp hl1
  unfold xH at hl1
  refine aG (aA ?_)
  refine S hE 1 rfl fun a hE=>aB (aG ?_)
  refine dE hE rfl (fun hc2=>?_) (fun hc2=>?_)
  ·replace hl1:=(it hc2).symm.trans hl1
   refine aZ (aG ?_)
   refine dM (aG ?_)
   refine aA (S hE 1 rfl fun a hE=>?_)
   obtain⟨x1,ex1,hl1⟩:=bnd hl1
   obtain⟨b4,b4o,b4c,b4r,b4k,b4f⟩:=aH.at hp0_left bI ex1
   obtain rfl:b4c=Enc.enc x1:=b4k
   have b4f:AtP ρ b4 b4o [(Iv x1)]:=b4f
   refine V hE hp rfl (aN rfl hE rfl rfl b4r) fun a hE=>V hE hp rfl (aK rfl hE rfl (fun w hw=>aV aT (b4f.c 0 rfl w hw))) fun a hE=>S hE 2 rfl fun a hE=>aB ?_
   have hE:=hE.cut (E':=[(3,(.map (some b2))),(4,(Iv aP)),(5,(Iv x1)),(8,rZ),(9,(Iv (p0.left.length:Int))),(10,(Iv aP))]) ⟨rfl,rfl,rfl,rfl,rfl,rfl,trivial⟩
   refine aA (S hE 3 rfl fun a hE=>?_)
   refine s_mput kt3 mapty157 (wk0 rfl) rfl hE hp rfl 0 (k:=x1) (v:=aP) rfl rfl rfl rfl ?_
   intro w hp
   have hp:=r2 hp
   refine aB (aA ?_)
   obtain⟨x2,ex2,hl1⟩:=bnd hl1
   refine V hE hp rfl (bF rfl hE rfl rfl (aO ex2)) fun a hE=>S hE 1 rfl fun a hE=>aB ?_
   exact⟨_,(oj hl1).symm,hE.cut ⟨rfl,rfl,rfl,rfl,trivial⟩,hp⟩
  replace hl1:=(ie hc2).symm.trans hl1
  refine dS ?_
  refine⟨_,(oj hl1).symm,fun hbb=>?_⟩
  subst hbb
  exact⟨hE.cut ⟨rfl,trivial⟩,hp⟩
 rintro a w ⟨hE,hp⟩
 refine aG (aA ?_)
 refine S hE 1 rfl fun a hE=>?_
 refine Cl hE rfl rfl ent107 (c_values_ii b2 hp) ⟨rfl,trivial⟩ fun v a w hR hE=>?_
 obtain⟨b5,rfl,hp⟩:=hR
 have hp:=r3 hp
 obtain⟨x3,ex3,hm⟩:=bnd hm
 refine s_call (wk0 rfl) rfl rfl hE rfl [(.func (.func 116) #[] #[.pointer (some ⟨b5,0,none⟩)])] ⟨rfl,trivial⟩ ent106 (c_sortedV b3 ((hp.get 1 rfl).get 1 rfl) x3 ex3) Ret.ret ?_
 intro v1 a w hR hE
 obtain⟨u,hu,hp⟩:=Ret.of hR
 rw[←hu] at hp
 have hp:=r4 hp
 refine S hE 1 rfl fun a hE=>aB (bZ ?_)
 obtain rfl:=oj hm
 exact gJ hE rfl rfl ⟨_,rfl,_,rfl,((((((hp.get 3 rfl).drop).get 2 rfl).drop).get 1 rfl).drop)⟩
theorem zL {Z:World} {ρ:PH} {L:List bK} {w:World} (p0:Int) (p1:Int) (hp:Hp Z ρ (L) w) (r:(List (List Int))) (hm:tH p0 p1=some r):
  Calls Tryz.prog 91 #[(Iv p0),(Iv p1)] w (Ret fun v w'=>∃(vr1:Value) (usr1:List Sl),v=vr1∧Hp Z ρ (cO 73 3 vr1 usr1 (r:(List (List Int)))::L) w'):=by
 refine enter (N:=21) Tryz.func91 rfl rfl [(0,(Iv p0)),(1,(Iv p1))] rfl (bC ⟨rfl,rfl,trivial⟩) fun a hE=>?_
 unfold tH at hm
 refine aG (aA ?_)
 refine S hE 1 rfl fun a hE=>aB (aG ?_)
 refine aA (S hE 1 rfl fun a hE=>?_)
 obtain⟨x1,ex1,hm⟩:=bnd hm
 refine s_tmake (wk0 rfl) rfl rfl hE hp rfl (T:=73) (bytes:=24) (by kernel_rfl) (by kernel_rfl) rfl rfl rfl ex1 3 ?_
 intro v1 us1 a w hE hp
 have hp:=r1 hp
 refine S hE 1 rfl fun a hE=>aB (aG ?_)
 refine aG (aA ?_)
 refine S hE 1 rfl fun a hE=>V hE hp rfl (bT rfl hE rfl (cO.len hp 0 rfl jD)) fun a hE=>S hE 1 rfl fun a hE=>aB ?_
 obtain⟨b1,hc1,hm⟩:=bnd hm
 refine dH (fun a w=>∃(w2:Value) (us2:List Sl),Env 21 [(5,w2)] a∧Hp Z ρ (cO 73 3 w2 us2 (b1:(List (List Int)))::L) w) ?_ ?_
 ·refine dZ hc1 (fun s a w=>∃(w2:Value) (us2:List Sl),Env 21 [(1,(Iv p1)),(5,w2),(10,(Iv (x1.length:Int))),(11,(Iv s.1))] a∧Hp Z ρ (cO 73 3 w2 us2 (s.2:(List (List Int)))::L) w) ?_ ?_
  ·exact⟨_,_,hE.cut ⟨rfl,rfl,rfl,rfl,trivial⟩,hp⟩
  rintro⟨aP,aU⟩ st a w ⟨w2,us2,hE,hp⟩ hl1
  dsimp only at hE hp hl1
  unfold F9 at hl1
  refine aG (aA ?_)
  refine S hE 1 rfl fun a hE=>aB (aG ?_)
  refine dE hE rfl (fun hc2=>?_) (fun hc2=>?_)
  ·replace hl1:=(it hc2).symm.trans hl1
   refine aZ (aG ?_)
   refine dM (aG ?_)
   refine aA (S hE 2 rfl fun a hE=>?_)
   refine aB (aA ?_)
   refine S hE 3 rfl fun a hE=>?_
   obtain⟨x2,ex2,hl1⟩:=bnd hl1
   refine aF4 (wk0 rfl) rfl rfl hE hp rfl (El:=3) (bytes:=8) (by kernel_rfl) (0:Int) (by kernel_rfl) (by kernel_rfl) rfl rfl ex2 ?_
   intro v2 a w hE hp
   have hp:=r2 hp
   obtain⟨x3,ex3,hl1⟩:=bnd hl1
   obtain⟨b2u,b2,b2o,b2h,b2r,b2v,b2f⟩:=cO.hdr hp 1 rfl jD ex3
   refine V hE hp rfl (aN rfl hE rfl rfl b2r) fun a hE=>?_
   obtain⟨sl1,sl1e⟩:=aC.toSl hp 0 rfl
   refine s_tput (wk0 rfl) rfl hE sl1e (hp.get 0 rfl) rfl rfl rfl 0 rfl b2h ex3 b2v aY.size_ ?_
   intro w hp
   have hp:=r1 hp
   refine aB ?_
   have hE:=hE.cut (E':=[(1,(Iv p1)),(5,w2),(10,(Iv (x1.length:Int))),(11,(Iv aP))]) ⟨rfl,rfl,rfl,rfl,trivial⟩
   refine aA ?_
   obtain⟨x4,ex4,hl1⟩:=bnd hl1
   refine V hE hp rfl (bF rfl hE rfl rfl (aO ex4)) fun a hE=>S hE 1 rfl fun a hE=>aB ?_
   exact⟨_,(oj hl1).symm,_,_,hE.cut ⟨rfl,rfl,rfl,rfl,trivial⟩,hp⟩
  replace hl1:=(ie hc2).symm.trans hl1
  refine dS ?_
  refine⟨_,(oj hl1).symm,fun hbb=>?_⟩
  subst hbb
  exact⟨_,_,hE.cut ⟨rfl,trivial⟩,hp⟩
 rintro a w ⟨w2,us2,hE,hp⟩
 refine aG (aA ?_)
 refine S hE 2 rfl fun a hE=>aB (bZ ?_)
 obtain rfl:=oj hm
 exact gJ hE rfl rfl ⟨_,rfl,_,_,rfl,hp⟩
theorem aJ1 {Z:World} {ρ:PH} {L:List bK} {w:World} (p0:DFlat) (qF:Value) (hp0_labels:aH ρ qF p0.labels) (rZ:Value) (hp0_left:aH ρ rZ p0.left) (nZ:Value) (hp0_numbers:aH ρ nZ p0.numbers) (p1:DFlat) (U0:Value) (hp1_labels:aH ρ U0 p1.labels) (aF5:Value) (hp1_left:aH ρ aF5 p1.left) (G5:Value) (hp1_numbers:aH ρ G5 p1.numbers) (p2:(List (List Int))) (vp2:Value) (usp2:List Sl) (hp:Hp Z ρ (cO 73 3 vp2 usp2 (p2:(List (List Int)))::L) w) (r:(List (List Int))) (hm:zD p0 p1 p2=some r):
  Calls Tryz.prog 92 #[(.agg #[qF,rZ,nZ]),(.agg #[U0,aF5,G5]),vp2] w (Ret fun v w'=>∃(b1:Nat) (b2:Nat) (b3:Nat),v=(.func (.func 105) #[] #[.pointer (some ⟨b1,0,none⟩),.pointer (some ⟨b2,0,none⟩),.pointer (some ⟨b3,0,none⟩)])∧Hp Z ρ (Pt b1 (.cells #[qF,rZ,nZ] 135 (0,0))::Pt b2 (.cells #[U0,aF5,G5] 135 (0,0))::Pt b3 (.cells #[vp2] 83 (0,0))::cO 73 3 vp2 usp2 (r:(List (List Int)))::L) w'):=by
 refine enter (N:=8) Tryz.func92 rfl rfl [(0,(.agg #[qF,rZ,nZ])),(1,(.agg #[U0,aF5,G5])),(2,vp2)] rfl (bC ⟨rfl,rfl,rfl,trivial⟩) fun a hE=>?_
 unfold zD at hm
 refine aG (aA ?_)
 refine iI (wk0 rfl) rfl rfl hE hp rfl (v:=(.agg #[qF,rZ,nZ])) rfl ?_
 intro a w b1 hE hp
 have hp:=r2 hp
 refine iI (wk0 rfl) rfl rfl hE hp rfl (v:=(.agg #[U0,aF5,G5])) rfl ?_
 intro a w b2 hE hp
 have hp:=r3 hp
 refine iI (wk0 rfl) rfl rfl hE hp rfl (v:=vp2) rfl ?_
 intro a w b3 hE hp
 rw[cO.cells hp 3 rfl] at hp
 have hp:=r4 hp
 refine S hE 1 rfl fun a hE=>aB (aG ?_)
 refine aA (V hE hp rfl (v:=(.func (.func 105) #[] #[(Pv b1 0),(Pv b2 0),(Pv b3 0)])) (ex_fn rfl hE [(Pv b1 0),(Pv b2 0),(Pv b3 0)] (by exact⟨rfl,rfl,rfl,trivial⟩)) fun a hE=>?_)
 refine S hE 1 rfl fun a hE=>aB (bZ ?_)
 obtain rfl:=oj hm
 exact gJ hE rfl rfl ⟨_,rfl,_,_,_,rfl,((((hp.get 3 rfl).get 1 rfl).get 2 rfl).get 3 rfl)⟩
theorem aH5 {Z:World} {ρ:PH} {L:List bK} {w:World} (p0:Int) (p1:Int) (bcp0:Nat) (cp0:DFlat) (jA:Value) (hcp0_labels:aH ρ jA cp0.labels) (mO:Value) (hcp0_left:aH ρ mO cp0.left) (iP:Value) (hcp0_numbers:aH ρ iP cp0.numbers) (bcp1:Nat) (cp1:DFlat) (dU:Value) (hcp1_labels:aH ρ dU cp1.labels) (fH:Value) (hcp1_left:aH ρ fH cp1.left) (dN:Value) (hcp1_numbers:aH ρ dN cp1.numbers) (bcp2:Nat) (cp2:(List (List Int))) (vcp2:Value) (uscp2:List Sl) (hp:Hp Z ρ (Pt bcp0 (.cells #[jA,mO,iP] 135 (0,0))::Pt bcp1 (.cells #[dU,fH,dN] 135 (0,0))::Pt bcp2 (.cells #[vcp2] 83 (0,0))::cO 73 3 vcp2 uscp2 (cp2:(List (List Int)))::L) w) (r:(List (List Int))) (hm:xK p0 p1 cp0 cp1 cp2=some r):
  Calls Tryz.prog 105 #[(Iv p0),(Iv p1),(Pv bcp0 0),(Pv bcp1 0),(Pv bcp2 0)] w (Ret fun v w'=>v= .tuple #[]∧Hp Z ρ (Pt bcp0 (.cells #[jA,mO,iP] 135 (0,0))::Pt bcp1 (.cells #[dU,fH,dN] 135 (0,0))::Pt bcp2 (.cells #[vcp2] 83 (0,0))::cO 73 3 vcp2 uscp2 (r:(List (List Int)))::L) w'):=by
 refine enter (N:=196) Tryz.func105 rfl rfl [(0,(Iv p0)),(1,(Iv p1)),(2,(Pv bcp0 0)),(3,(Pv bcp1 0)),(4,(Pv bcp2 0))] rfl (bC ⟨rfl,rfl,rfl,rfl,rfl,trivial⟩) fun a hE=>?_
 unfold xK at hm
 refine aG ?_
 refine jR (by kernel_rfl) (by kernel_rfl) hp ?_
 refine Vq hE rfl (xf hE iE rfl rfl) fun a hE=>Vq hE rfl (xl hE aY 0 rfl rfl rfl rfl) fun a hE=>Sq hE 1 rfl fun a hE=>?_
 obtain⟨x1,ex1,hm⟩:=bnd hm
 obtain⟨b1,b1o,b1c,b1r,b1k,b1f⟩:=aH.at hcp0_left bI ex1
 obtain rfl:b1c=Enc.enc x1:=b1k
 have b1f:AtP ρ b1 b1o [(Iv x1)]:=b1f
 refine Vq hE rfl (aN rfl hE rfl rfl b1r) fun a hE=>Vq hE rfl (aK rfl hE rfl (fun w hw=>aV aT (b1f.c 0 rfl w hw))) fun a hE=>Vq hE rfl (xf hE iE rfl rfl) fun a hE=>Vq hE rfl (xl hE aY 1 rfl rfl rfl rfl) fun a hE=>Sq hE 1 rfl fun a hE=>?_
 obtain⟨x2,ex2,hm⟩:=bnd hm
 obtain⟨b2,b2o,b2c,b2r,b2k,b2f⟩:=aH.at hcp1_left bI ex2
 obtain rfl:b2c=Enc.enc x2:=b2k
 have b2f:AtP ρ b2 b2o [(Iv x2)]:=b2f
 refine Vq hE rfl (aN rfl hE rfl rfl b2r) fun a hE=>Vq hE rfl (aK rfl hE rfl (fun w hw=>aV aT (b2f.c 0 rfl w hw))) fun a hE=>Sq hE 2 rfl fun a hE=>?_
 refine iM fun w hp=>?_
 have hp:=r4 hp
 refine aG (aA ?_)
 refine S hE 2 rfl fun a hE=>?_
 obtain⟨x3,ex3,hm⟩:=bnd hm
 refine V hE hp rfl (dQ rfl hE rfl rfl (aO ex3)) fun a hE=>?_
 obtain⟨x4,ex4,hm⟩:=bnd hm
 refine V hE hp rfl (bF rfl hE rfl rfl (aO ex4)) fun a hE=>S hE 2 rfl fun a hE=>?_
 obtain⟨x5,ex5,hm⟩:=bnd hm
 refine V hE hp rfl (dQ rfl hE rfl rfl (aO ex5)) fun a hE=>?_
 obtain⟨x6,ex6,hm⟩:=bnd hm
 refine V hE hp rfl (bF rfl hE rfl rfl (aO ex6)) fun a hE=>?_
 obtain⟨x7,ex7,hm⟩:=bnd hm
 refine s_call (wk0 rfl) rfl rfl hE rfl [(Iv x4),(Iv x6)] ⟨rfl,rfl,trivial⟩ ent91 (zL x4 x6 hp x7 ex7) Ret.ret ?_
 intro vr1 a w hR hE
 obtain⟨u,usr1,rfl,hp⟩:=Ret.of hR
 have hp:=r5 hp
 refine S hE 1 rfl fun a hE=>aB (aG ?_)
 refine aG (aA ?_)
 refine S hE 1 rfl fun a hE=>V hE hp rfl (bT rfl hE rfl (cO.len hp 0 rfl jD)) fun a hE=>S hE 1 rfl fun a hE=>aB ?_
 have hE:=hE.cut (E':=[(0,(Iv p0)),(1,(Iv p1)),(2,(Pv bcp0 0)),(3,(Pv bcp1 0)),(4,(Pv bcp2 0)),(7,(Iv x1)),(8,(Iv x2)),(9,vr1),(38,(Iv (x7.length:Int))),(39,(Iv 0))]) ⟨rfl,rfl,rfl,rfl,rfl,rfl,rfl,rfl,rfl,rfl,trivial⟩
 obtain⟨b3,hc1,hm⟩:=bnd hm
 refine dH (fun a w=>Env 196 [(0,(Iv p0)),(1,(Iv p1)),(2,(Pv bcp0 0)),(3,(Pv bcp1 0)),(4,(Pv bcp2 0)),(7,(Iv x1)),(8,(Iv x2)),(9,vr1)] a∧Hp Z ρ (cO 73 3 vr1 usr1 (b3:(List (List Int)))::Pt bcp0 (.cells #[jA,mO,iP] 135 (0,0))::Pt bcp1 (.cells #[dU,fH,dN] 135 (0,0))::Pt bcp2 (.cells #[vcp2] 83 (0,0))::cO 73 3 vcp2 uscp2 (cp2:(List (List Int)))::L) w) ?_ ?_
 ·refine dZ hc1 (fun s a w=>Env 196 [(0,(Iv p0)),(1,(Iv p1)),(2,(Pv bcp0 0)),(3,(Pv bcp1 0)),(4,(Pv bcp2 0)),(7,(Iv x1)),(8,(Iv x2)),(9,vr1),(38,(Iv (x7.length:Int))),(39,(Iv s.1))] a∧Hp Z ρ (cO 73 3 vr1 usr1 (s.2:(List (List Int)))::Pt bcp0 (.cells #[jA,mO,iP] 135 (0,0))::Pt bcp1 (.cells #[dU,fH,dN] 135 (0,0))::Pt bcp2 (.cells #[vcp2] 83 (0,0))::cO 73 3 vcp2 uscp2 (cp2:(List (List Int)))::L) w) ?_ ?_
  ·exact⟨hE.cut ⟨rfl,rfl,rfl,rfl,rfl,rfl,rfl,rfl,rfl,rfl,trivial⟩,hp⟩
  rintro⟨aP,aU⟩ st a w ⟨hE,hp⟩ hl1
  dsimp only at hE hp hl1
  unfold yJ at hl1
  refine aG (aA ?_)
  refine S hE 1 rfl fun a hE=>aB (aG ?_)
  refine dE hE rfl (fun hc2=>?_) (fun hc2=>?_)
  ·replace hl1:=(it hc2).symm.trans hl1
   refine aZ (aG ?_)
   refine dM (aG ?_)
   refine aA (S hE 2 rfl fun a hE=>?_)
   refine aB (aA ?_)
   refine S hE 2 rfl fun a hE=>?_
   obtain⟨x8,ex8,hl1⟩:=bnd hl1
   obtain⟨b4u,b4,b4o,b4h,b4r,b4v,b4f⟩:=cO.hdr hp 0 rfl jD ex8
   refine V hE hp rfl (aN rfl hE rfl rfl b4r) fun a hE=>V hE hp rfl (aK rfl hE rfl (fun w hw=>aV aY (b4f 0 _ rfl _ _ w (hw.get 0 rfl)))) fun a hE=>S hE 1 rfl fun a hE=>?_
   obtain⟨x9,ex9,hl1⟩:=bnd hl1
   obtain⟨b5,b5o,b5r,b5v,b5f⟩:=cO.at hp 0 rfl bI b4h ex8 ex9
   refine V hE hp rfl (aN rfl hE rfl rfl b5r) fun a hE=>?_
   refine J5 (wk0 rfl) rfl hE hp rfl rfl rfl 0 rfl b4h ex8 ex9 b5v 0 (e':=aP) aT.size_ rfl rfl rfl ⟨rfl,rfl⟩ ?_
   intro w hp
   have hp:=r5 hp
   refine aB ?_
   have hE:=hE.cut (E':=[(0,(Iv p0)),(1,(Iv p1)),(2,(Pv bcp0 0)),(3,(Pv bcp1 0)),(4,(Pv bcp2 0)),(7,(Iv x1)),(8,(Iv x2)),(9,vr1),(38,(Iv (x7.length:Int))),(39,(Iv aP))]) ⟨rfl,rfl,rfl,rfl,rfl,rfl,rfl,rfl,rfl,rfl,trivial⟩
   refine aA ?_
   obtain⟨x10,ex10,hl1⟩:=bnd hl1
   refine V hE hp rfl (bF rfl hE rfl rfl (aO ex10)) fun a hE=>S hE 1 rfl fun a hE=>aB ?_
   exact⟨_,(oj hl1).symm,hE.cut ⟨rfl,rfl,rfl,rfl,rfl,rfl,rfl,rfl,rfl,rfl,trivial⟩,hp⟩
  replace hl1:=(ie hc2).symm.trans hl1
  refine dS ?_
  refine⟨_,(oj hl1).symm,fun hbb=>?_⟩
  subst hbb
  exact⟨hE.cut ⟨rfl,rfl,rfl,rfl,rfl,rfl,rfl,rfl,trivial⟩,hp⟩
 rintro a w ⟨hE,hp⟩
 refine aG (aG ?_)
 refine aA (S hE 1 rfl fun a hE=>?_)
 obtain⟨x11,ex11,hm⟩:=bnd hm
 obtain⟨b6u,b6,b6o,b6h,b6r,b6v,b6f⟩:=cO.hdr hp 0 rfl jD ex11
 refine V hE hp rfl (aN rfl hE rfl rfl b6r) fun a hE=>V hE hp rfl (aK rfl hE rfl (fun w hw=>aV aY (b6f 0 _ rfl _ _ w (hw.get 0 rfl)))) fun a hE=>V hE hp rfl (bT rfl hE rfl (cO.rlen hp 0 rfl bI b6h ex11)) fun a hE=>S hE 1 rfl fun a hE=>aB ?_
 obtain⟨b7,hc3,hm⟩:=bnd hm
 refine dH (fun a w=>Env 196 [(0,(Iv p0)),(1,(Iv p1)),(2,(Pv bcp0 0)),(3,(Pv bcp1 0)),(4,(Pv bcp2 0)),(7,(Iv x1)),(8,(Iv x2)),(9,vr1)] a∧Hp Z ρ (cO 73 3 vr1 usr1 (b7:(List (List Int)))::Pt bcp0 (.cells #[jA,mO,iP] 135 (0,0))::Pt bcp1 (.cells #[dU,fH,dN] 135 (0,0))::Pt bcp2 (.cells #[vcp2] 83 (0,0))::cO 73 3 vcp2 uscp2 (cp2:(List (List Int)))::L) w) ?_ ?_
 ·refine dZ hc3 (fun s a w=>Env 196 [(0,(Iv p0)),(1,(Iv p1)),(2,(Pv bcp0 0)),(3,(Pv bcp1 0)),(4,(Pv bcp2 0)),(7,(Iv x1)),(8,(Iv x2)),(9,vr1),(52,(Iv (x11.length:Int))),(53,(Iv s.1))] a∧Hp Z ρ (cO 73 3 vr1 usr1 (s.2:(List (List Int)))::Pt bcp0 (.cells #[jA,mO,iP] 135 (0,0))::Pt bcp1 (.cells #[dU,fH,dN] 135 (0,0))::Pt bcp2 (.cells #[vcp2] 83 (0,0))::cO 73 3 vcp2 uscp2 (cp2:(List (List Int)))::L) w) ?_ ?_
  ·exact⟨hE.cut ⟨rfl,rfl,rfl,rfl,rfl,rfl,rfl,rfl,rfl,rfl,trivial⟩,hp⟩
  rintro⟨bJ,dY⟩ st a w ⟨hE,hp⟩ hl2
  dsimp only at hE hp hl2
  unfold yK at hl2
  refine aG (aA ?_)
  refine S hE 1 rfl fun a hE=>aB (aG ?_)
  refine dE hE rfl (fun hc4=>?_) (fun hc4=>?_)
  ·replace hl2:=(it hc4).symm.trans hl2
   refine aZ (aG ?_)
   refine dM (aG ?_)
   refine aA (S hE 2 rfl fun a hE=>?_)
   refine aB (aA ?_)
   refine S hE 1 rfl fun a hE=>?_
   obtain⟨x12,ex12,hl2⟩:=bnd hl2
   obtain⟨b8u,b8,b8o,b8h,b8r,b8v,b8f⟩:=cO.hdr hp 0 rfl jD ex12
   refine V hE hp rfl (aN rfl hE rfl rfl b8r) fun a hE=>V hE hp rfl (aK rfl hE rfl (fun w hw=>aV aY (b8f 0 _ rfl _ _ w (hw.get 0 rfl)))) fun a hE=>S hE 2 rfl fun a hE=>?_
   obtain⟨x13,ex13,hl2⟩:=bnd hl2
   obtain⟨b9,b9o,b9r,b9v,b9f⟩:=cO.at hp 0 rfl bI b8h ex12 ex13
   refine V hE hp rfl (aN rfl hE rfl rfl b9r) fun a hE=>?_
   refine J5 (wk0 rfl) rfl hE hp rfl rfl rfl 0 rfl b8h ex12 ex13 b9v 0 (e':=bJ) aT.size_ rfl rfl rfl ⟨rfl,rfl⟩ ?_
   intro w hp
   have hp:=r5 hp
   refine aB (aA ?_)
   obtain⟨x14,ex14,hl2⟩:=bnd hl2
   refine V hE hp rfl (bF rfl hE rfl rfl (aO ex14)) fun a hE=>S hE 1 rfl fun a hE=>aB ?_
   exact⟨_,(oj hl2).symm,hE.cut ⟨rfl,rfl,rfl,rfl,rfl,rfl,rfl,rfl,rfl,rfl,trivial⟩,hp⟩
  replace hl2:=(ie hc4).symm.trans hl2
  refine dS ?_
  refine⟨_,(oj hl2).symm,fun hbb=>?_⟩
  subst hbb
  exact⟨hE.cut ⟨rfl,rfl,rfl,rfl,rfl,rfl,rfl,rfl,trivial⟩,hp⟩
 rintro a w ⟨hE,hp⟩
 refine aG (aA ?_)
 refine S hE 2 rfl fun a hE=>aB ?_
 have hE:=hE.cut (E':=[(0,(Iv p0)),(1,(Iv p1)),(2,(Pv bcp0 0)),(3,(Pv bcp1 0)),(4,(Pv bcp2 0)),(7,(Iv x1)),(8,(Iv x2)),(9,vr1),(12,(Iv x1))]) ⟨rfl,rfl,rfl,rfl,rfl,rfl,rfl,rfl,rfl,trivial⟩
 obtain⟨b10,hc5,hm⟩:=bnd hm
 refine dH (fun a w=>Env 196 [] a∧Hp Z ρ (cO 73 3 vr1 usr1 (b10.1:(List (List Int)))::Pt bcp0 (.cells #[jA,mO,iP] 135 (0,0))::Pt bcp1 (.cells #[dU,fH,dN] 135 (0,0))::Pt bcp2 (.cells #[vcp2] 83 (0,0))::cO 73 3 vcp2 uscp2 (b10.2:(List (List Int)))::L) w) ?_ ?_
 ·refine dZ hc5 (fun s a w=>Env 196 [(0,(Iv p0)),(1,(Iv p1)),(2,(Pv bcp0 0)),(3,(Pv bcp1 0)),(4,(Pv bcp2 0)),(7,(Iv x1)),(8,(Iv x2)),(9,vr1),(12,(Iv s.1))] a∧Hp Z ρ (cO 73 3 vr1 usr1 (s.2.1:(List (List Int)))::Pt bcp0 (.cells #[jA,mO,iP] 135 (0,0))::Pt bcp1 (.cells #[dU,fH,dN] 135 (0,0))::Pt bcp2 (.cells #[vcp2] 83 (0,0))::cO 73 3 vcp2 uscp2 (s.2.2:(List (List Int)))::L) w) ?_ ?_
  ·exact⟨hE.cut ⟨rfl,rfl,rfl,rfl,rfl,rfl,rfl,rfl,rfl,trivial⟩,hp⟩
  rintro⟨eQ,uG,lp3_2⟩ st a w ⟨hE,hp⟩ hl3
  dsimp only at hE hp hl3
  unfold yL at hl3
  refine aG (aG ?_)
  refine aA (S hE 3 rfl fun a hE=>?_)
  refine aB ?_
  refine dE hE rfl (fun hc6=>?_) (fun hc6=>?_)
  ·replace hl3:=(it hc6).symm.trans hl3
   refine aZ (aG ?_)
   refine dM (aG ?_)
   refine aA (S hE 2 rfl fun a hE=>?_)
   refine aB ?_
   obtain⟨b11,hc7,hl3⟩:=bnd hl3
   refine dH (fun a w=>Env 196 [(0,(Iv p0)),(1,(Iv p1)),(2,(Pv bcp0 0)),(3,(Pv bcp1 0)),(4,(Pv bcp2 0)),(7,(Iv x1)),(8,(Iv x2)),(9,vr1),(12,(Iv eQ))] a∧Hp Z ρ (cO 73 3 vr1 usr1 (b11.1:(List (List Int)))::Pt bcp0 (.cells #[jA,mO,iP] 135 (0,0))::Pt bcp1 (.cells #[dU,fH,dN] 135 (0,0))::Pt bcp2 (.cells #[vcp2] 83 (0,0))::cO 73 3 vcp2 uscp2 (b11.2:(List (List Int)))::L) w) ?_ ?_
   ·refine dZ hc7 (fun s a w=>Env 196 [(0,(Iv p0)),(1,(Iv p1)),(2,(Pv bcp0 0)),(3,(Pv bcp1 0)),(4,(Pv bcp2 0)),(7,(Iv x1)),(8,(Iv x2)),(9,vr1),(12,(Iv eQ)),(13,(Iv s.1))] a∧Hp Z ρ (cO 73 3 vr1 usr1 (s.2.1:(List (List Int)))::Pt bcp0 (.cells #[jA,mO,iP] 135 (0,0))::Pt bcp1 (.cells #[dU,fH,dN] 135 (0,0))::Pt bcp2 (.cells #[vcp2] 83 (0,0))::cO 73 3 vcp2 uscp2 (s.2.2:(List (List Int)))::L) w) ?_ ?_
    ·exact⟨hE.cut ⟨rfl,rfl,rfl,rfl,rfl,rfl,rfl,rfl,rfl,rfl,trivial⟩,hp⟩
    rintro⟨fJ,iY,xE⟩ st a w ⟨hE,hp⟩ hl4
    dsimp only at hE hp hl4
    unfold yM at hl4
    refine aG (aG ?_)
    refine aA (S hE 3 rfl fun a hE=>?_)
    refine aB ?_
    refine dE hE rfl (fun hc8=>?_) (fun hc8=>?_)
    ·replace hl4:=(it hc8).symm.trans hl4
     refine aZ (aG ?_)
     obtain⟨j1,hj1,hl4⟩:=bnd hl4
     refine dH (fun a w=>Env 196 [(0,(Iv p0)),(1,(Iv p1)),(2,(Pv bcp0 0)),(3,(Pv bcp1 0)),(4,(Pv bcp2 0)),(7,(Iv x1)),(8,(Iv x2)),(9,vr1),(12,(Iv eQ)),(13,(Iv fJ))] a∧Hp Z ρ (cO 73 3 vr1 usr1 (j1.1:(List (List Int)))::Pt bcp0 (.cells #[jA,mO,iP] 135 (0,0))::Pt bcp1 (.cells #[dU,fH,dN] 135 (0,0))::Pt bcp2 (.cells #[vcp2] 83 (0,0))::cO 73 3 vcp2 uscp2 (j1.2:(List (List Int)))::L) w) ?_ ?_
     ·
      refine aG (aA ?_)
      refine S hE 2 rfl fun a hE=>?_
      obtain⟨x15,ex15,hj1⟩:=bnd hj1
      refine V hE hp rfl (dQ rfl hE rfl rfl (aO ex15)) fun a hE=>?_
      obtain⟨x16,ex16,hj1⟩:=bnd hj1
      refine V hE hp rfl (bF rfl hE rfl rfl (aO ex16)) fun a hE=>S hE 2 rfl fun a hE=>?_
      obtain⟨x17,ex17,hj1⟩:=bnd hj1
      refine V hE hp rfl (dQ rfl hE rfl rfl (aO ex17)) fun a hE=>?_
      obtain⟨x18,ex18,hj1⟩:=bnd hj1
      refine V hE hp rfl (bF rfl hE rfl rfl (aO ex18)) fun a hE=>S hE 2 rfl fun a hE=>aB (aG ?_)
      refine jR (by kernel_rfl) (by kernel_rfl) hp ?_
      refine Sq hE 2 rfl fun a hE=>?_
      obtain⟨x19,ex19,hj1⟩:=bnd hj1
      refine Vq hE rfl (dQ rfl hE rfl rfl (aO ex19)) fun a hE=>?_
      obtain⟨x20,ex20,hj1⟩:=bnd hj1
      obtain⟨b12u,b12,b12o,b12h,b12r,b12v,b12f⟩:=cO.hdr hp 0 rfl jD ex20
      refine Vq hE rfl (aN rfl hE rfl rfl b12r) fun a hE=>Vq hE rfl (aK rfl hE rfl (fun w hw=>aV aY (b12f 0 _ rfl _ _ w (hw.get 0 rfl)))) fun a hE=>Sq hE 1 rfl fun a hE=>?_
      obtain⟨x21,ex21,hj1⟩:=bnd hj1
      obtain⟨b13,b13o,b13r,b13v,b13f⟩:=cO.at hp 0 rfl bI b12h ex20 ex21
      refine Vq hE rfl (aN rfl hE rfl rfl b13r) fun a hE=>Vq hE rfl (aK rfl hE rfl (fun w hw=>aV aT (b13f 0 _ rfl _ _ w (hw.get 0 rfl)))) fun a hE=>Sq hE 2 rfl fun a hE=>?_
      obtain⟨x22,ex22,hj1⟩:=bnd hj1
      obtain⟨b14u,b14,b14o,b14h,b14r,b14v,b14f⟩:=cO.hdr hp 0 rfl jD ex22
      refine Vq hE rfl (aN rfl hE rfl rfl b14r) fun a hE=>Vq hE rfl (aK rfl hE rfl (fun w hw=>aV aY (b14f 0 _ rfl _ _ w (hw.get 0 rfl)))) fun a hE=>Sq hE 1 rfl fun a hE=>?_
      obtain⟨x23,ex23,hj1⟩:=bnd hj1
      refine Vq hE rfl (dQ rfl hE rfl rfl (aO ex23)) fun a hE=>?_
      obtain⟨x24,ex24,hj1⟩:=bnd hj1
      obtain⟨b15,b15o,b15r,b15v,b15f⟩:=cO.at hp 0 rfl bI b14h ex22 ex24
      refine Vq hE rfl (aN rfl hE rfl rfl b15r) fun a hE=>Vq hE rfl (aK rfl hE rfl (fun w hw=>aV aT (b15f 0 _ rfl _ _ w (hw.get 0 rfl)))) fun a hE=>Vq hE rfl (v:=(Iv (min x21 x24))) (ex_min rfl hE rfl rfl) fun a hE=>?_
      obtain⟨x25,ex25,hj1⟩:=bnd hj1
      refine Vq hE rfl (bF rfl hE rfl rfl (aO ex25)) fun a hE=>Sq hE 1 rfl fun a hE=>?_
      refine iM fun w hp=>?_
      have hp:=r5 hp
      have hE:=hE.cut (E':=[(0,(Iv p0)),(1,(Iv p1)),(2,(Pv bcp0 0)),(3,(Pv bcp1 0)),(4,(Pv bcp2 0)),(7,(Iv x1)),(8,(Iv x2)),(9,vr1),(12,(Iv eQ)),(13,(Iv fJ)),(14,(Iv x16)),(15,(Iv x18)),(16,(Iv x25))]) ⟨rfl,rfl,rfl,rfl,rfl,rfl,rfl,rfl,rfl,rfl,rfl,rfl,rfl,trivial⟩
      refine aG (aG ?_)
      refine aA (V hE hp rfl (xf hE iE rfl rfl) fun a hE=>?_)
      refine V hE hp rfl (xl hE aY 1 rfl rfl rfl rfl) fun a hE=>S hE 1 rfl fun a hE=>?_
      obtain⟨x26,ex26,hj1⟩:=bnd hj1
      obtain⟨b16,b16o,b16c,b16r,b16k,b16f⟩:=aH.at hcp0_left bI ex26
      obtain rfl:b16c=Enc.enc x26:=b16k
      have b16f:AtP ρ b16 b16o [(Iv x26)]:=b16f
      refine V hE hp rfl (aN rfl hE rfl rfl b16r) fun a hE=>V hE hp rfl (aK rfl hE rfl (fun w hw=>aV aT (b16f.c 0 rfl w hw))) fun a hE=>S hE 3 rfl fun a hE=>?_
      obtain⟨m1,hg1,hj1⟩:=bnd hj1
      refine iL [_,_,_,_,_,_,_,_] (fun a w=>Env 196 [(116,(.bool m1)),(0,(Iv p0)),(1,(Iv p1)),(2,(Pv bcp0 0)),(3,(Pv bcp1 0)),(4,(Pv bcp2 0)),(7,(Iv x1)),(8,(Iv x2)),(9,vr1),(12,(Iv eQ)),(13,(Iv fJ)),(14,(Iv x16)),(15,(Iv x18)),(16,(Iv x25))] a∧Hp Z ρ (cO 73 3 vr1 usr1 (iY:(List (List Int)))::Pt bcp0 (.cells #[jA,mO,iP] 135 (0,0))::Pt bcp1 (.cells #[dU,fH,dN] 135 (0,0))::Pt bcp2 (.cells #[vcp2] 83 (0,0))::cO 73 3 vcp2 uscp2 (xE:(List (List Int)))::L) w) ?_ ?_
      ·rcases Bool.eq_false_or_eq_true (!decide (x26=x1)) with hc9|hc9
       ·
        replace hg1:=(it hc9).symm.trans hg1
        refine Gk hE hc9 rfl fun a hE=>Gk hE hc9 rfl fun a hE=>Gk hE hc9 rfl fun a hE=>Gk hE hc9 rfl fun a hE=>Gk hE hc9 rfl fun a hE=>Gk hE hc9 rfl fun a hE=>Gk hE hc9 rfl fun a hE=>pk1 hE hc9 rfl rfl rfl rfl fun a hE=>?_
        obtain rfl:=oj hg1
        exact aB ⟨hE.cut ⟨rfl,rfl,rfl,rfl,rfl,rfl,rfl,rfl,rfl,rfl,rfl,rfl,rfl,rfl,trivial⟩,hp⟩
       replace hg1:=(ie hc9).symm.trans hg1
       refine G hE hp hc9 rfl (xf hE iE rfl rfl) fun a hE=>G hE hp hc9 rfl (xl hE aY 2 rfl rfl rfl rfl) fun a hE=>Gs hE hc9 rfl rfl fun a hE=>?_
       obtain⟨x27,ex27,hg1⟩:=bnd hg1
       obtain⟨b17,b17o,b17c,b17r,b17k,b17f⟩:=aH.at hcp1_left bI ex27
       obtain rfl:b17c=Enc.enc x27:=b17k
       have b17f:AtP ρ b17 b17o [(Iv x27)]:=b17f
       refine G hE hp hc9 rfl (aN rfl hE rfl rfl b17r) fun a hE=>G hE hp hc9 rfl (aK rfl hE rfl (fun w hw=>aV aT (b17f.c 0 rfl w hw))) fun a hE=>Gs hE hc9 rfl rfl fun a hE=>Gs hE hc9 rfl rfl fun a hE=>pk0 hE hc9 rfl rfl rfl rfl fun a hE=>?_
       obtain rfl:=oj hg1
       exact aB ⟨hE.cut ⟨rfl,rfl,rfl,rfl,rfl,rfl,rfl,rfl,rfl,rfl,rfl,rfl,rfl,rfl,trivial⟩,hp⟩
      rintro a w ⟨hE,hp⟩
      refine aB ?_
      refine dE hE rfl (fun hc10=>?_) (fun hc10=>?_)
      ·replace hj1:=(it hc10).symm.trans hj1
       refine aG ?_
       obtain⟨x28,ex28,hj1⟩:=bnd hj1
       obtain⟨x29,ex29,hj1⟩:=bnd hj1
       obtain⟨x30,ex30,hj1⟩:=bnd hj1
       obtain⟨x31,ex31,hj1⟩:=bnd hj1
       obtain⟨x32,ex32,hj1⟩:=bnd hj1
       obtain⟨x33,ex33,hj1⟩:=bnd hj1
       obtain⟨x34,ex34,hj1⟩:=bnd hj1
       obtain⟨x35,ex35,hj1⟩:=bnd hj1
       obtain⟨x36,ex36,hj1⟩:=bnd hj1
       obtain⟨x37,ex37,hj1⟩:=bnd hj1
       obtain⟨x38,ex38,hj1⟩:=bnd hj1
       have hp:=hp.drew
       refine fG ([([],At0 Z ρ),([35],At1 Z ρ (cO 73 3 vr1 usr1 (iY:(List (List Int))))),([],At1 Z ρ (Pt bcp0 (.cells #[jA,mO,iP] 135 (0,0)))),([],At1 Z ρ (Pt bcp1 (.cells #[dU,fH,dN] 135 (0,0)))),([],At1 Z ρ (Pt bcp2 (.cells #[vcp2] 83 (0,0)))),([],At1 Z ρ (cO 73 3 vcp2 uscp2 (xE:(List (List Int)))))]:Facts) (fun a w=>Env 196 [(0,(Iv p0)),(1,(Iv p1)),(2,(Pv bcp0 0)),(3,(Pv bcp1 0)),(4,(Pv bcp2 0)),(7,(Iv x1)),(8,(Iv x2)),(9,vr1),(12,(Iv eQ)),(13,(Iv fJ))] a∧Hp Z ρ (cO 73 3 vr1 usr1 (iY.set x16.toNat (x28.set x18.toNat (min x25 x37)):(List (List Int)))::Pt bcp0 (.cells #[jA,mO,iP] 135 (0,0))::Pt bcp1 (.cells #[dU,fH,dN] 135 (0,0))::Pt bcp2 (.cells #[vcp2] 83 (0,0))::cO 73 3 vcp2 uscp2 (xE:(List (List Int)))::L) w) (by kernel_rfl) ⟨fun _=>⟨_,hp⟩,fun _=>⟨_,(hp.get 0 rfl)⟩,fun _=>⟨_,(hp.get 1 rfl)⟩,fun _=>⟨_,(hp.get 2 rfl)⟩,fun _=>⟨_,(hp.get 3 rfl)⟩,fun _=>⟨_,(hp.get 4 rfl)⟩,trivial⟩ (fun hS=>?_) ?_
       ·
        generalize w.drew=w at hS hp⊢
        refine Ts [0,1] hE hS rfl rfl (by kernel_rfl) fun a hE hS=>?_
        obtain⟨b26u,b26,b26o,b26h,b26r,b26v,b26f⟩:=cO.hdr hp 0 rfl jD ex28
        refine T0 2 hE hS rfl rfl rfl (by kernel_rfl) (fun _=>aN rfl hE rfl rfl b26r) fun a hE hS=>T 3 1 hE hS rfl rfl rfl (by kernel_rfl) (fun _=>aK rfl hE rfl (fun w hw=>aV aY (b26f 0 _ rfl _ _ w (hw.get 0 rfl)))) fun a hE hS=>Ts [4,5,6] hE hS rfl rfl (by kernel_rfl) fun a hE hS=>T0 7 hE hS rfl rfl rfl (by kernel_rfl) (fun _=>xf hE iE rfl rfl) fun a hE hS=>T 8 2 hE hS rfl rfl rfl (by kernel_rfl) (fun _=>xl hE aY 0 rfl rfl rfl rfl) fun a hE hS=>Ts [9] hE hS rfl rfl (by kernel_rfl) fun a hE hS=>?_
        obtain⟨b27,b27o,b27c,b27r,b27k,b27f⟩:=aH.at hcp0_left bI ex29
        obtain rfl:b27c=Enc.enc x29:=b27k
        have b27f:AtP ρ b27 b27o [(Iv x29)]:=b27f
        refine T0 10 hE hS rfl rfl rfl (by kernel_rfl) (fun _=>aN rfl hE rfl rfl b27r) fun a hE hS=>T0 11 hE hS rfl rfl rfl (by kernel_rfl) (fun _=>aK rfl hE rfl (fun w hw=>aV aT (b27f.c 0 rfl w hw))) fun a hE hS=>Ts [12] hE hS rfl rfl (by kernel_rfl) fun a hE hS=>T0 13 hE hS rfl rfl rfl (by kernel_rfl) (fun _=>dQ rfl hE rfl rfl (aO ex30)) fun a hE hS=>?_
        obtain⟨b28u,b28,b28o,b28h,b28r,b28v,b28f⟩:=cO.hdr hp 0 rfl jD ex31
        refine T0 14 hE hS rfl rfl rfl (by kernel_rfl) (fun _=>aN rfl hE rfl rfl b28r) fun a hE hS=>T 15 1 hE hS rfl rfl rfl (by kernel_rfl) (fun _=>aK rfl hE rfl (fun w hw=>aV aY (b28f 0 _ rfl _ _ w (hw.get 0 rfl)))) fun a hE hS=>T0 16 hE hS rfl rfl rfl (by kernel_rfl) (fun _=>xf hE iE rfl rfl) fun a hE hS=>T 17 3 hE hS rfl rfl rfl (by kernel_rfl) (fun _=>xl hE aY 0 rfl rfl rfl rfl) fun a hE hS=>Ts [18] hE hS rfl rfl (by kernel_rfl) fun a hE hS=>?_
        obtain⟨b29,b29o,b29c,b29r,b29k,b29f⟩:=aH.at hcp1_left bI ex32
        obtain rfl:b29c=Enc.enc x32:=b29k
        have b29f:AtP ρ b29 b29o [(Iv x32)]:=b29f
        refine T0 19 hE hS rfl rfl rfl (by kernel_rfl) (fun _=>aN rfl hE rfl rfl b29r) fun a hE hS=>T0 20 hE hS rfl rfl rfl (by kernel_rfl) (fun _=>aK rfl hE rfl (fun w hw=>aV aT (b29f.c 0 rfl w hw))) fun a hE hS=>Ts [21] hE hS rfl rfl (by kernel_rfl) fun a hE hS=>T0 22 hE hS rfl rfl rfl (by kernel_rfl) (fun _=>dQ rfl hE rfl rfl (aO ex33)) fun a hE hS=>?_
        obtain⟨b30,b30o,b30r,b30v,b30f⟩:=cO.at hp 0 rfl bI b28h ex31 ex34
        refine T0 23 hE hS rfl rfl rfl (by kernel_rfl) (fun _=>aN rfl hE rfl rfl b30r) fun a hE hS=>T 24 1 hE hS rfl rfl rfl (by kernel_rfl) (fun _=>aK rfl hE rfl (fun w hw=>aV aT (b30f 0 _ rfl _ _ w (hw.get 0 rfl)))) fun a hE hS=>T 25 4 hE hS rfl rfl rfl (by kernel_rfl) (fun _=>xl hE varty83 0 rfl rfl rfl rfl) fun a hE hS=>Ts [26] hE hS rfl rfl (by kernel_rfl) fun a hE hS=>?_
        obtain⟨b31u,b31,b31o,b31h,b31r,b31v,b31f⟩:=cO.hdr hp 4 rfl jD ex35
        refine T0 27 hE hS rfl rfl rfl (by kernel_rfl) (fun _=>aN rfl hE rfl rfl b31r) fun a hE hS=>T 28 5 hE hS rfl rfl rfl (by kernel_rfl) (fun _=>aK rfl hE rfl (fun w hw=>aV aY (b31f 0 _ rfl _ _ w (hw.get 0 rfl)))) fun a hE hS=>Ts [29] hE hS rfl rfl (by kernel_rfl) fun a hE hS=>?_
        obtain⟨b32,b32o,b32r,b32v,b32f⟩:=cO.at hp 4 rfl bI b31h ex35 ex36
        refine T0 30 hE hS rfl rfl rfl (by kernel_rfl) (fun _=>aN rfl hE rfl rfl b32r) fun a hE hS=>T 31 5 hE hS rfl rfl rfl (by kernel_rfl) (fun _=>aK rfl hE rfl (fun w hw=>aV aT (b32f 0 _ rfl _ _ w (hw.get 0 rfl)))) fun a hE hS=>T0 32 hE hS rfl rfl rfl (by kernel_rfl) (fun _=>bF rfl hE rfl rfl (aO ex37)) fun a hE hS=>T0 33 hE hS rfl rfl rfl (by kernel_rfl) (v:=(Iv (min x25 x37))) (fun _=>ex_min rfl hE rfl rfl) fun a hE hS=>?_
        obtain⟨b33,b33o,b33r,b33v,b33f⟩:=cO.at hp 0 rfl bI b26h ex28 ex38
        refine T0 34 hE hS rfl rfl rfl (by kernel_rfl) (fun _=>aN rfl hE rfl rfl b33r) fun a hE hS=>?_
        refine W1 35 (by kernel_rfl) rfl ?_
        refine J5 (wk0 rfl) rfl hE hp rfl rfl rfl 0 rfl b26h ex28 ex38 b33v 0 (e':=min x25 x37) aT.size_ rfl rfl rfl ⟨rfl,rfl⟩ ?_
        intro w hp
        have hp:=r5 hp
        refine aB (aF ⟨gp0 hp,dead (by kernel_rfl),gp 1 hp rfl,gp 2 hp rfl,gp 3 hp rfl,gp 4 hp rfl,trivial⟩ fun hS=>?_)
        exact bP (by kernel_rfl) ⟨hE.cut ⟨rfl,rfl,rfl,rfl,rfl,rfl,rfl,rfl,rfl,rfl,trivial⟩,hp⟩
       rintro a w ⟨hE,hp⟩
       refine dS ?_
       obtain rfl:=oj hj1
       exact⟨hE.cut ⟨rfl,rfl,rfl,rfl,rfl,rfl,rfl,rfl,rfl,rfl,trivial⟩,hp⟩
      replace hj1:=(ie hc10).symm.trans hj1
      refine aZ (aG ?_)
      refine aA (S hE 2 rfl fun a hE=>?_)
      obtain⟨x39,ex39,hj1⟩:=bnd hj1
      refine V hE hp rfl (dQ rfl hE rfl rfl (aO ex39)) fun a hE=>?_
      obtain⟨x40,ex40,hj1⟩:=bnd hj1
      obtain⟨b34u,b34,b34o,b34h,b34r,b34v,b34f⟩:=cO.hdr hp 0 rfl jD ex40
      refine V hE hp rfl (aN rfl hE rfl rfl b34r) fun a hE=>V hE hp rfl (aK rfl hE rfl (fun w hw=>aV aY (b34f 0 _ rfl _ _ w (hw.get 0 rfl)))) fun a hE=>S hE 1 rfl fun a hE=>?_
      obtain⟨x41,ex41,hj1⟩:=bnd hj1
      refine V hE hp rfl (dQ rfl hE rfl rfl (aO ex41)) fun a hE=>?_
      obtain⟨x42,ex42,hj1⟩:=bnd hj1
      obtain⟨b35,b35o,b35r,b35v,b35f⟩:=cO.at hp 0 rfl bI b34h ex40 ex42
      refine V hE hp rfl (aN rfl hE rfl rfl b35r) fun a hE=>V hE hp rfl (aK rfl hE rfl (fun w hw=>aV aT (b35f 0 _ rfl _ _ w (hw.get 0 rfl)))) fun a hE=>S hE 1 rfl fun a hE=>aB (aG ?_)
      refine aG ?_
      refine jR (by kernel_rfl) (by kernel_rfl) hp ?_
      refine Vq hE rfl (xf hE jB rfl rfl) fun a hE=>Vq hE rfl (xl hE kH 1 rfl rfl rfl rfl) fun a hE=>Sq hE 1 rfl fun a hE=>?_
      obtain⟨x43,ex43,hj1⟩:=bnd hj1
      obtain⟨b36,b36o,b36c,b36r,b36k,b36f⟩:=aH.at hcp0_labels rD ex43
      obtain rfl:b36c=Enc.enc x43:=b36k
      have b36f:AtP ρ b36 b36o [(Iv x43.kind),(.string x43.text)]:=b36f
      refine Vq hE rfl (aN rfl hE rfl rfl b36r) fun a hE=>Vq hE rfl (aK rfl hE rfl (fun w hw=>aW (cs:=[(Iv x43.kind),(.string x43.text)]) varty156 (fun j u hj=>cell_of hw.le (b36f j u hj)))) fun a hE=>Vq hE rfl (xf hE jB rfl rfl) fun a hE=>Vq hE rfl (xl hE kH 2 rfl rfl rfl rfl) fun a hE=>Sq hE 1 rfl fun a hE=>?_
      obtain⟨x44,ex44,hj1⟩:=bnd hj1
      obtain⟨b37,b37o,b37c,b37r,b37k,b37f⟩:=aH.at hcp1_labels rD ex44
      obtain rfl:b37c=Enc.enc x44:=b37k
      have b37f:AtP ρ b37 b37o [(Iv x44.kind),(.string x44.text)]:=b37f
      refine Vq hE rfl (aN rfl hE rfl rfl b37r) fun a hE=>Vq hE rfl (aK rfl hE rfl (fun w hw=>aW (cs:=[(Iv x44.kind),(.string x44.text)]) varty156 (fun j u hj=>cell_of hw.le (b37f j u hj)))) fun a hE=>Vq hE rfl (v:=(.bool (!((decide (x43.kind=x44.kind))&&(decide (x43.text=x44.text)))))) (ex_stneq (eqst156 x43.kind x43.text x44.kind x44.text) rfl hE rfl rfl) fun a hE=>?_
      refine iM fun w hp=>?_
      have hp:=r5 hp
      have hE:=hE.cut (E':=[(0,(Iv p0)),(1,(Iv p1)),(2,(Pv bcp0 0)),(3,(Pv bcp1 0)),(4,(Pv bcp2 0)),(7,(Iv x1)),(8,(Iv x2)),(9,vr1),(12,(Iv eQ)),(13,(Iv fJ)),(14,(Iv x16)),(15,(Iv x18)),(16,(Iv x25)),(17,(Iv x42)),(171,(.bool (!((decide (x43.kind=x44.kind))&&(decide (x43.text=x44.text))))))]) ⟨rfl,rfl,rfl,rfl,rfl,rfl,rfl,rfl,rfl,rfl,rfl,rfl,rfl,rfl,rfl,trivial⟩
      obtain⟨j2,hj2,hj1⟩:=bnd hj1
      refine k_cut (fun a w=>Env 196 [(0,(Iv p0)),(1,(Iv p1)),(2,(Pv bcp0 0)),(3,(Pv bcp1 0)),(4,(Pv bcp2 0)),(7,(Iv x1)),(8,(Iv x2)),(9,vr1),(12,(Iv eQ)),(13,(Iv fJ)),(14,(Iv x16)),(15,(Iv x18)),(16,(Iv x25)),(17,(Iv j2))] a∧Hp Z ρ (cO 73 3 vr1 usr1 (iY:(List (List Int)))::Pt bcp0 (.cells #[jA,mO,iP] 135 (0,0))::Pt bcp1 (.cells #[dU,fH,dN] 135 (0,0))::Pt bcp2 (.cells #[vcp2] 83 (0,0))::cO 73 3 vcp2 uscp2 (xE:(List (List Int)))::L) w) ?_ ?_
      ·
       refine dE hE rfl (fun hc11=>?_) (fun hc11=>?_)
       ·replace hj2:=(it hc11).symm.trans hj2
        refine aA (S hE 1 rfl fun a hE=>?_)
        obtain⟨x45,ex45,hj2⟩:=bnd hj2
        refine V hE hp rfl (bF rfl hE rfl rfl (aO ex45)) fun a hE=>S hE 1 rfl fun a hE=>aB ?_
        obtain rfl:=oj hj2
        exact⟨hE.cut ⟨rfl,rfl,rfl,rfl,rfl,rfl,rfl,rfl,rfl,rfl,rfl,rfl,rfl,rfl,trivial⟩,hp⟩
       replace hj2:=(ie hc11).symm.trans hj2
       refine aZ ?_
       obtain rfl:=oj hj2
       exact⟨hE.cut ⟨rfl,rfl,rfl,rfl,rfl,rfl,rfl,rfl,rfl,rfl,rfl,rfl,rfl,rfl,trivial⟩,hp⟩
      rintro a w ⟨hE,hp⟩
      refine aG (aA ?_)
      refine S hE 2 rfl fun a hE=>?_
      obtain⟨x46,ex46,hj1⟩:=bnd hj1
      obtain⟨b38u,b38,b38o,b38h,b38r,b38v,b38f⟩:=cO.hdr hp 0 rfl jD ex46
      refine V hE hp rfl (aN rfl hE rfl rfl b38r) fun a hE=>V hE hp rfl (aK rfl hE rfl (fun w hw=>aV aY (b38f 0 _ rfl _ _ w (hw.get 0 rfl)))) fun a hE=>S hE 3 rfl fun a hE=>V hE hp rfl (v:=(Iv (min x25 j2))) (ex_min rfl hE rfl rfl) fun a hE=>?_
      obtain⟨x47,ex47,hj1⟩:=bnd hj1
      obtain⟨b39,b39o,b39r,b39v,b39f⟩:=cO.at hp 0 rfl bI b38h ex46 ex47
      refine V hE hp rfl (aN rfl hE rfl rfl b39r) fun a hE=>?_
      refine J5 (wk0 rfl) rfl hE hp rfl rfl rfl 0 rfl b38h ex46 ex47 b39v 0 (e':=min x25 j2) aT.size_ rfl rfl rfl ⟨rfl,rfl⟩ ?_
      intro w hp
      have hp:=r5 hp
      refine aB ?_
      have hE:=hE.cut (E':=[(0,(Iv p0)),(1,(Iv p1)),(2,(Pv bcp0 0)),(3,(Pv bcp1 0)),(4,(Pv bcp2 0)),(7,(Iv x1)),(8,(Iv x2)),(9,vr1),(12,(Iv eQ)),(13,(Iv fJ)),(14,(Iv x16)),(15,(Iv x18))]) ⟨rfl,rfl,rfl,rfl,rfl,rfl,rfl,rfl,rfl,rfl,rfl,rfl,trivial⟩
      obtain⟨x48,ex48,hj1⟩:=bnd hj1
      obtain⟨x49,ex49,hj1⟩:=bnd hj1
      obtain⟨x50,ex50,hj1⟩:=bnd hj1
      obtain⟨x51,ex51,hj1⟩:=bnd hj1
      have hp:=hp.drew
      refine fG ([([],At0 Z ρ),([],At1 Z ρ (cO 73 3 vr1 usr1 (iY.set x16.toNat (x46.set x18.toNat (min x25 j2)):(List (List Int))))),([],At1 Z ρ (Pt bcp2 (.cells #[vcp2] 83 (0,0)))),([13],At1 Z ρ (cO 73 3 vcp2 uscp2 (xE:(List (List Int)))))]:Facts) (fun a w=>Env 196 [(0,(Iv p0)),(1,(Iv p1)),(2,(Pv bcp0 0)),(3,(Pv bcp1 0)),(4,(Pv bcp2 0)),(7,(Iv x1)),(8,(Iv x2)),(9,vr1),(12,(Iv eQ)),(13,(Iv fJ))] a∧Hp Z ρ (cO 73 3 vr1 usr1 (iY.set x16.toNat (x46.set x18.toNat (min x25 j2)):(List (List Int)))::Pt bcp0 (.cells #[jA,mO,iP] 135 (0,0))::Pt bcp1 (.cells #[dU,fH,dN] 135 (0,0))::Pt bcp2 (.cells #[vcp2] 83 (0,0))::cO 73 3 vcp2 uscp2 (xE.set eQ.toNat (x48.set fJ.toNat x50):(List (List Int)))::L) w) (by kernel_rfl) ⟨fun _=>⟨_,hp⟩,fun _=>⟨_,(hp.get 0 rfl)⟩,fun _=>⟨_,(hp.get 3 rfl)⟩,fun _=>⟨_,(hp.get 4 rfl)⟩,trivial⟩ (fun hS=>?_) ?_
      ·
       generalize w.drew=w at hS hp⊢
       refine T 0 2 hE hS rfl rfl rfl (by kernel_rfl) (fun _=>xl hE varty83 0 rfl rfl rfl rfl) fun a hE hS=>Ts [1] hE hS rfl rfl (by kernel_rfl) fun a hE hS=>?_
       obtain⟨b44u,b44,b44o,b44h,b44r,b44v,b44f⟩:=cO.hdr hp 4 rfl jD ex48
       refine T0 2 hE hS rfl rfl rfl (by kernel_rfl) (fun _=>aN rfl hE rfl rfl b44r) fun a hE hS=>T 3 3 hE hS rfl rfl rfl (by kernel_rfl) (fun _=>aK rfl hE rfl (fun w hw=>aV aY (b44f 0 _ rfl _ _ w (hw.get 0 rfl)))) fun a hE hS=>Ts [4,5,6] hE hS rfl rfl (by kernel_rfl) fun a hE hS=>?_
       obtain⟨b45u,b45,b45o,b45h,b45r,b45v,b45f⟩:=cO.hdr hp 0 rfl jD ex49
       refine T0 7 hE hS rfl rfl rfl (by kernel_rfl) (fun _=>aN rfl hE rfl rfl b45r) fun a hE hS=>T 8 1 hE hS rfl rfl rfl (by kernel_rfl) (fun _=>aK rfl hE rfl (fun w hw=>aV aY (b45f 0 _ rfl _ _ w (hw.get 0 rfl)))) fun a hE hS=>Ts [9] hE hS rfl rfl (by kernel_rfl) fun a hE hS=>?_
       obtain⟨b46,b46o,b46r,b46v,b46f⟩:=cO.at hp 0 rfl bI b45h ex49 ex50
       refine T0 10 hE hS rfl rfl rfl (by kernel_rfl) (fun _=>aN rfl hE rfl rfl b46r) fun a hE hS=>T 11 1 hE hS rfl rfl rfl (by kernel_rfl) (fun _=>aK rfl hE rfl (fun w hw=>aV aT (b46f 0 _ rfl _ _ w (hw.get 0 rfl)))) fun a hE hS=>?_
       obtain⟨b47,b47o,b47r,b47v,b47f⟩:=cO.at hp 4 rfl bI b44h ex48 ex51
       refine T0 12 hE hS rfl rfl rfl (by kernel_rfl) (fun _=>aN rfl hE rfl rfl b47r) fun a hE hS=>?_
       refine W1 13 (by kernel_rfl) rfl ?_
       refine J5 (wk0 rfl) rfl hE hp rfl rfl rfl 4 rfl b44h ex48 ex51 b47v 0 (e':=x50) aT.size_ rfl rfl rfl ⟨rfl,rfl⟩ ?_
       intro w hp
       have hp:=r5 hp
       refine aB (aF ⟨gp0 hp,gp 0 hp rfl,gp 3 hp rfl,dead (by kernel_rfl),trivial⟩ fun hS=>?_)
       exact bP (by kernel_rfl) ⟨hE.cut ⟨rfl,rfl,rfl,rfl,rfl,rfl,rfl,rfl,rfl,rfl,trivial⟩,hp⟩
      rintro a w ⟨hE,hp⟩
      obtain rfl:=oj hj1
      exact⟨hE.cut ⟨rfl,rfl,rfl,rfl,rfl,rfl,rfl,rfl,rfl,rfl,trivial⟩,hp⟩
     rintro a w ⟨hE,hp⟩
     refine aA (S hE 1 rfl fun a hE=>?_)
     obtain⟨x52,ex52,hl4⟩:=bnd hl4
     refine V hE hp rfl (bF rfl hE rfl rfl (aO ex52)) fun a hE=>S hE 1 rfl fun a hE=>aB ?_
     exact⟨_,(oj hl4).symm,hE.cut ⟨rfl,rfl,rfl,rfl,rfl,rfl,rfl,rfl,rfl,rfl,trivial⟩,hp⟩
    replace hl4:=(ie hc8).symm.trans hl4
    refine dS ?_
    refine⟨_,(oj hl4).symm,fun hbb=>?_⟩
    subst hbb
    exact⟨hE.cut ⟨rfl,rfl,rfl,rfl,rfl,rfl,rfl,rfl,rfl,trivial⟩,hp⟩
   rintro a w ⟨hE,hp⟩
   refine aA (S hE 1 rfl fun a hE=>?_)
   obtain⟨x53,ex53,hl3⟩:=bnd hl3
   refine V hE hp rfl (bF rfl hE rfl rfl (aO ex53)) fun a hE=>S hE 1 rfl fun a hE=>aB ?_
   exact⟨_,(oj hl3).symm,hE.cut ⟨rfl,rfl,rfl,rfl,rfl,rfl,rfl,rfl,rfl,trivial⟩,hp⟩
  replace hl3:=(ie hc6).symm.trans hl3
  refine dS ?_
  refine⟨_,(oj hl3).symm,fun hbb=>?_⟩
  subst hbb
  exact⟨hE.cut trivial,hp⟩
 rintro a w ⟨hE,hp⟩
 obtain rfl:=oj hm
 exact aB2 hE rfl ⟨_,rfl,rfl,(hp.drop)⟩
end Go.Proofs.YtopnldfjcciieaaGreat

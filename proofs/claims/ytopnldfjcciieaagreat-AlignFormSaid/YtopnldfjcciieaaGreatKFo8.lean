/- The code goes as its model: slices.Index[[]bool,bool], slices.Contains[[]bool,bool], assessor/align.Valid, assessor/align.Cost. (Printed by wip/sp/gen.py.) -/
import Derived.Test.YtopnldfjcciieaaGreatKFoT
import Derived.Test.YtopnldfjcciieaaGreatKFo3
import Derived.Test.YtopnldfjcciieaaGreatKFo5
import Derived.Test.YtopnldfjcciieaaGreatKFo7
set_option linter.unusedVariables false
set_option linter.unusedSimpArgs false
set_option maxRecDepth 100000
set_option maxHeartbeats 4000000
namespace Go.Proofs.YtopnldfjcciieaaGreat
open Go.RowKit
theorem X6 {Z:World} {ρ:PH} {L:List bK} {w:World} (p0:(List Bool)) (vp0:Value) (hp0:aH ρ vp0 p0) (p1:Bool) (hp:Hp Z ρ (L) w) (r:Int) (hm:oI p0 p1=some r):
  Calls Tryz.prog 66 #[vp0,(.bool p1)] w (Ret fun v w'=>v=(Iv r)∧Hp Z ρ (L) w'):=by
 refine enter (N:=19) Tryz.func66 rfl rfl [(0,vp0),(1,(.bool p1))] rfl (bC ⟨rfl,rfl,trivial⟩) fun a hE=>?_
 unfold oI at hm
 refine aG (aA ?_)
 refine S hE 1 rfl fun a hE=>aB (aG ?_)
 refine aG (aA ?_)
 refine S hE 1 rfl fun a hE=>V hE hp rfl (bT rfl hE rfl (aH.len hp0 rH)) fun a hE=>S hE 1 rfl fun a hE=>aB ?_
 obtain⟨b1,hc1,hm⟩:=bnd hm
 refine dH (fun a w=>∃s:Unit,b1= .brk s∧(Env 19 [] a∧Hp Z ρ (L) w)) ?_ ?_
 ·refine dZ hc1 (fun s a w=>Env 19 [(0,vp0),(1,(.bool p1)),(7,(Iv (p0.length:Int))),(8,(Iv s))] a∧Hp Z ρ (L) w) ?_ ?_
  ·exact⟨hE.cut ⟨rfl,rfl,rfl,rfl,trivial⟩,hp⟩
  rintro aP st a w ⟨hE,hp⟩ hl1
  unfold iZ at hl1
  refine aG (aA ?_)
  refine S hE 1 rfl fun a hE=>aB (aG ?_)
  refine dE hE rfl (fun hc2=>?_) (fun hc2=>?_)
  ·replace hl1:=(it hc2).symm.trans hl1
   refine aZ (aG ?_)
   refine dM (aG ?_)
   refine aA (S hE 2 rfl fun a hE=>?_)
   refine aB (aG ?_)
   refine aA (S hE 3 rfl fun a hE=>?_)
   obtain⟨x1,ex1,hl1⟩:=bnd hl1
   obtain⟨b2,b2o,b2c,b2r,b2k,b2f⟩:=aH.at hp0 rH ex1
   obtain rfl:b2c=Enc.enc x1:=b2k
   have b2f:AtP ρ b2 b2o [(.bool x1)]:=b2f
   refine V hE hp rfl (aN rfl hE rfl rfl b2r) fun a hE=>V hE hp rfl (aK rfl hE rfl (fun w hw=>aV vH (b2f.c 0 rfl w hw))) fun a hE=>V hE hp rfl (v:=(.bool (p1==x1))) (ex_beql bty4 rfl hE rfl rfl) fun a hE=>aB ?_
   have hE:=hE.cut (E':=[(0,vp0),(1,(.bool p1)),(5,(Iv aP)),(7,(Iv (p0.length:Int))),(8,(Iv aP)),(16,(.bool (p1==x1)))]) ⟨rfl,rfl,rfl,rfl,rfl,rfl,trivial⟩
   refine dE hE rfl (fun hc3=>?_) (fun hc3=>?_)
   ·replace hl1:=(it hc3).symm.trans hl1
    refine aG (aA ?_)
    refine S hE 2 rfl fun a hE=>aB (bZ ?_)
    refine⟨_,(oj hl1).symm,fun hb=>?_⟩
    subst hb
    obtain rfl:=oj hm
    exact gJ hE rfl rfl ⟨_,rfl,rfl,hp⟩
   replace hl1:=(ie hc3).symm.trans hl1
   refine aZ (aA ?_)
   obtain⟨x2,ex2,hl1⟩:=bnd hl1
   refine V hE hp rfl (bF rfl hE rfl rfl (aO ex2)) fun a hE=>S hE 1 rfl fun a hE=>aB ?_
   exact⟨_,(oj hl1).symm,hE.cut ⟨rfl,rfl,rfl,rfl,trivial⟩,hp⟩
  replace hl1:=(ie hc2).symm.trans hl1
  refine dS ?_
  refine⟨_,(oj hl1).symm,fun hbb=>?_⟩
  exact⟨_,hbb.symm,hE.cut trivial,hp⟩
 rintro a w ⟨b1s,rfl,hE,hp⟩
 dsimp only at hm
 refine aG (aA ?_)
 refine S hE 1 rfl fun a hE=>aB (bZ ?_)
 obtain rfl:=oj hm
 exact gJ hE rfl rfl ⟨_,rfl,rfl,hp⟩
theorem I5 {Z:World} {ρ:PH} {L:List bK} {w:World} (p0:(List Bool)) (vp0:Value) (hp0:aH ρ vp0 p0) (p1:Bool) (hp:Hp Z ρ (L) w) (r:Bool) (hm:jG p0 p1=some r):
  Calls Tryz.prog 46 #[vp0,(.bool p1)] w (Ret fun v w'=>v=(.bool r)∧Hp Z ρ (L) w'):=by
 refine enter (N:=9) Tryz.func46 rfl rfl [(0,vp0),(1,(.bool p1))] rfl (bC ⟨rfl,rfl,trivial⟩) fun a hE=>?_
 unfold jG at hm
 refine aG (aA ?_)
 refine S hE 1 rfl fun a hE=>aB (aG ?_)
 refine aA (S hE 2 rfl fun a hE=>?_)
 obtain⟨x1,ex1,hm⟩:=bnd hm
 refine Cl hE rfl rfl ent66 (X6 p0 vp0 hp0 p1 hp x1 ex1) ⟨rfl,rfl,trivial⟩ fun v a w hR hE=>?_
 obtain⟨rfl,hp⟩:=hR
 have hp:=r0 hp
 refine S hE 2 rfl fun a hE=>aB (bZ ?_)
 obtain rfl:=oj hm
 exact gJ hE rfl rfl ⟨_,rfl,rfl,hp⟩
theorem A8 {Z:World} {ρ:PH} {L:List bK} {w:World} (p0:Node) (aI:Value) (bD:aH ρ aI p0.kids) (p1:Node) (aJ:Value) (bH:aH ρ aJ p1.kids) (p2:(List Opn)) (vp2:Value) (hp2:aH ρ vp2 p2) (hp:Hp Z ρ (L) w) (r:Bool) (hm:qO p0 p1 p2=some r):
  Calls Tryz.prog 17 #[(.agg #[(Iv p0.kind),(.string p0.text),(Iv p0.at_),(Iv p0.fin),aI]),(.agg #[(Iv p1.kind),(.string p1.text),(Iv p1.at_),(Iv p1.fin),aJ]),vp2] w (Ret fun v w'=>v=(.bool r)∧Hp Z ρ (L) w'):=by
 refine enter (N:=174) Tryz.func17 rfl rfl [(0,(.agg #[(Iv p0.kind),(.string p0.text),(Iv p0.at_),(Iv p0.fin),aI])),(1,(.agg #[(Iv p1.kind),(.string p1.text),(Iv p1.at_),(Iv p1.fin),aJ])),(2,vp2)] rfl (bC ⟨rfl,rfl,rfl,trivial⟩) fun a hE=>?_
 unfold qO at hm
 refine aG (aA ?_)
 refine iI (wk0 rfl) rfl rfl hE hp rfl (v:=(.agg #[(Iv p0.kind),(.string p0.text),(Iv p0.at_),(Iv p0.fin),aI])) rfl ?_
 intro a w b1 hE hp
 have hp:=r1 hp
 refine iI (wk0 rfl) rfl rfl hE hp rfl (v:=(.agg #[(Iv p1.kind),(.string p1.text),(Iv p1.at_),(Iv p1.fin),aJ])) rfl ?_
 intro a w b2 hE hp
 have hp:=r2 hp
 refine S hE 1 rfl fun a hE=>aB (aG ?_)
 obtain⟨x1,ex1,hm⟩:=bnd hm
 obtain⟨x2,ex2,hm⟩:=bnd hm
 have hp:=hp.drew
 refine fG ([([],At0 Z ρ),([],At1 Z ρ (Pt b2 (.cells #[(Iv p1.kind),(.string p1.text),(Iv p1.at_),(Iv p1.fin),aJ] 24 (0,0)))),([],At1 Z ρ (Pt b1 (.cells #[(Iv p0.kind),(.string p0.text),(Iv p0.at_),(Iv p0.fin),aI] 24 (0,0))))]:Facts) (fun a w=>∃ρy1:PH,∃y4:Nat,∃y3:Nat,∃yv1:Value,∃yv2:Value,∃yv3:Value,∃yv4:Value,∃yv5:Value,∃yv6:Value,ρ.le ρy1∧aH ρy1 yv1 x2.nodes∧aH ρy1 yv2 x2.sizes∧aH ρy1 yv3 x2.parent∧aH ρy1 yv4 x1.nodes∧aH ρy1 yv5 x1.sizes∧aH ρy1 yv6 x1.parent∧Env 174 [(2,vp2),(7,(Pv y3 0)),(8,(Pv y4 0))] a∧Hp Z ρy1 (Pt y4 (.cells #[yv1,yv2,yv3] 75 (0,0))::Pt y3 (.cells #[yv4,yv5,yv6] 75 (0,0))::Pt b2 (.cells #[(Iv p1.kind),(.string p1.text),(Iv p1.at_),(Iv p1.fin),aJ] 24 (0,0))::Pt b1 (.cells #[(Iv p0.kind),(.string p0.text),(Iv p0.at_),(Iv p0.fin),aI] 24 (0,0))::L) w) (by kernel_rfl) ⟨fun _=>⟨_,hp⟩,fun _=>⟨_,(hp.get 0 rfl)⟩,fun _=>⟨_,(hp.get 1 rfl)⟩,trivial⟩ (fun hS=>?_) ?_
 ·
  generalize w.drew=w at hS hp⊢
  refine T 0 2 hE hS rfl rfl rfl (by kernel_rfl) (fun _=>aK rfl hE rfl (fun w hw=>aW (cs:=[(Iv p0.kind),(.string p0.text),(Iv p0.at_),(Iv p0.fin),aI]) bY (Hp.cN 0 rfl 0 _ (aS rfl) w hw))) fun a hE hS=>T 2 1 hE hS rfl rfl rfl (by kernel_rfl) (fun _=>aK rfl hE rfl (fun w hw=>aW (cs:=[(Iv p1.kind),(.string p1.text),(Iv p1.at_),(Iv p1.fin),aJ]) bY (Hp.cN 0 rfl 0 _ (aS rfl) w hw))) fun a hE hS=>?_
  refine gW [1,4,5] (by kernel_rfl) rfl ?_
  refine List.forall_mem_cons.2 ⟨?_,List.forall_mem_cons.2 ⟨?_,List.forall_mem_cons.2 ⟨?_,fun _ h=>absurd h (by simp)⟩⟩⟩
  ·
   refine dX rfl ?_
   refine Cl hE rfl rfl jM (bG p0 aI bD hp x1 ex1) ⟨rfl,trivial⟩ fun v a w hR hE=>?_
   obtain⟨ρ3,O1,O3,zY,hle3,rfl,rJ,rM,qB,hp⟩:=hR
   have hp:=r2 hp
   refine aB (aF ⟨fun _=>⟨_,(hp.less hle3)⟩,fun _=>⟨_,((hp.get 0 rfl).less hle3)⟩,fun _=>⟨_,((hp.get 1 rfl).less hle3)⟩,trivial⟩ fun hS=>?_)
   refine gW [3,4,5] (by kernel_rfl) rfl ?_
   refine List.forall_mem_cons.2 ⟨?_,List.forall_mem_cons.2 ⟨?_,List.forall_mem_cons.2 ⟨?_,fun _ h=>absurd h (by simp)⟩⟩⟩
   ·
    refine dX rfl ?_
    refine Cl hE rfl rfl jM (bG p1 aJ (aH.mono bH hle3) hp x2 ex2) ⟨rfl,trivial⟩ fun v a w hR hE=>?_
    obtain⟨ρ4,nP,nR,lH,hle4,rfl,gB,gG,fD,hp⟩:=hR
    have hp:=r2 hp
    refine aB (aF ⟨fun _=>⟨_,((hp.less hle4).less hle3)⟩,fun _=>⟨_,(((hp.get 0 rfl).less hle4).less hle3)⟩,fun _=>⟨_,(((hp.get 1 rfl).less hle4).less hle3)⟩,trivial⟩ fun hS=>?_)
    refine gW [4,5] (by kernel_rfl) rfl ?_
    refine List.forall_mem_cons.2 ⟨?_,List.forall_mem_cons.2 ⟨?_,fun _ h=>absurd h (by simp)⟩⟩
    ·
     refine dX rfl ?_
     refine dL (wk0 rfl) rfl rfl hE hp rfl [N0,N0,N0] (fun w=>by simp[Instr.alloc,go_sem]<;>rfl) ?_
     intro a w b5 hE hp
     have hp:=r3 hp
     refine aB (aF ⟨fun _=>⟨_,((hp.less hle4).less hle3)⟩,fun _=>⟨_,(((hp.get 1 rfl).less hle4).less hle3)⟩,fun _=>⟨_,(((hp.get 2 rfl).less hle4).less hle3)⟩,trivial⟩ fun hS=>?_)
     refine W1 5 (by kernel_rfl) rfl ?_
     refine dL (wk0 rfl) rfl rfl hE hp rfl [N0,N0,N0] (fun w=>by simp[Instr.alloc,go_sem]<;>rfl) ?_
     intro a w b6 hE hp
     have hp:=r4 hp
     refine aB (aF ⟨fun _=>⟨_,((hp.less hle4).less hle3)⟩,fun _=>⟨_,(((hp.get 2 rfl).less hle4).less hle3)⟩,fun _=>⟨_,(((hp.get 3 rfl).less hle4).less hle3)⟩,trivial⟩ fun hS=>?_)
     refine W1 6 (by kernel_rfl) rfl ?_
     refine aX (wk0 rfl) rfl hE hp rfl rfl rfl 1 rfl dD.size_ rfl (aQ ⟨(aH.one (aH.mono rJ hle4)),(aH.one (aH.mono rM hle4)),(aH.one (aH.mono qB hle4)),trivial⟩) [O1,O3,zY] rfl ?_
     intro w hp
     have hp:=r4 hp
     refine aB (aF ⟨fun _=>⟨_,((hp.less hle4).less hle3)⟩,fun _=>⟨_,(((hp.get 2 rfl).less hle4).less hle3)⟩,fun _=>⟨_,(((hp.get 3 rfl).less hle4).less hle3)⟩,trivial⟩ fun hS=>?_)
     refine W1 7 (by kernel_rfl) rfl ?_
     refine aX (wk0 rfl) rfl hE hp rfl rfl rfl 0 rfl dD.size_ rfl (aQ ⟨(aH.one gB),(aH.one gG),(aH.one fD),trivial⟩) [nP,nR,lH] rfl ?_
     intro w hp
     have hp:=r4 hp
     refine aB (aF ⟨fun _=>⟨_,((hp.less hle4).less hle3)⟩,fun _=>⟨_,(((hp.get 2 rfl).less hle4).less hle3)⟩,fun _=>⟨_,(((hp.get 3 rfl).less hle4).less hle3)⟩,trivial⟩ fun hS=>?_)
     exact bP (by kernel_rfl) ⟨ρ4,_,_,_,_,_,_,_,_,(PH.le.tr hle3 hle4),gB,gG,fD,(aH.mono rJ hle4),(aH.mono rM hle4),(aH.mono qB hle4),hE.cut ⟨rfl,rfl,rfl,trivial⟩,hp⟩
    refine dX rfl ?_
    refine dL (wk0 rfl) rfl rfl hE hp rfl [N0,N0,N0] (fun w=>by simp[Instr.alloc,go_sem]<;>rfl) ?_
    intro a w b7 hE hp
    have hp:=r3 hp
    refine aB (aF ⟨fun _=>⟨_,((hp.less hle4).less hle3)⟩,fun _=>⟨_,(((hp.get 1 rfl).less hle4).less hle3)⟩,fun _=>⟨_,(((hp.get 2 rfl).less hle4).less hle3)⟩,trivial⟩ fun hS=>?_)
    refine W1 4 (by kernel_rfl) rfl ?_
    refine dL (wk0 rfl) rfl rfl hE hp rfl [N0,N0,N0] (fun w=>by simp[Instr.alloc,go_sem]<;>rfl) ?_
    intro a w b8 hE hp
    have hp:=r4 hp
    refine aB (aF ⟨fun _=>⟨_,((hp.less hle4).less hle3)⟩,fun _=>⟨_,(((hp.get 2 rfl).less hle4).less hle3)⟩,fun _=>⟨_,(((hp.get 3 rfl).less hle4).less hle3)⟩,trivial⟩ fun hS=>?_)
    refine W1 6 (by kernel_rfl) rfl ?_
    refine aX (wk0 rfl) rfl hE hp rfl rfl rfl 0 rfl dD.size_ rfl (aQ ⟨(aH.one (aH.mono rJ hle4)),(aH.one (aH.mono rM hle4)),(aH.one (aH.mono qB hle4)),trivial⟩) [O1,O3,zY] rfl ?_
    intro w hp
    have hp:=r4 hp
    refine aB (aF ⟨fun _=>⟨_,((hp.less hle4).less hle3)⟩,fun _=>⟨_,(((hp.get 2 rfl).less hle4).less hle3)⟩,fun _=>⟨_,(((hp.get 3 rfl).less hle4).less hle3)⟩,trivial⟩ fun hS=>?_)
    refine W1 7 (by kernel_rfl) rfl ?_
    refine aX (wk0 rfl) rfl hE hp rfl rfl rfl 1 rfl dD.size_ rfl (aQ ⟨(aH.one gB),(aH.one gG),(aH.one fD),trivial⟩) [nP,nR,lH] rfl ?_
    intro w hp
    have hp:=r4 hp
    refine aB (aF ⟨fun _=>⟨_,((hp.less hle4).less hle3)⟩,fun _=>⟨_,(((hp.get 2 rfl).less hle4).less hle3)⟩,fun _=>⟨_,(((hp.get 3 rfl).less hle4).less hle3)⟩,trivial⟩ fun hS=>?_)
    exact bP (by kernel_rfl) ⟨ρ4,_,_,_,_,_,_,_,_,(PH.le.tr hle3 hle4),gB,gG,fD,(aH.mono rJ hle4),(aH.mono rM hle4),(aH.mono qB hle4),hE.cut ⟨rfl,rfl,rfl,trivial⟩,((((hp.get 3 rfl).get 3 rfl).get 2 rfl).get 3 rfl)⟩
   ·
    refine dX rfl ?_
    refine dL (wk0 rfl) rfl rfl hE hp rfl [N0,N0,N0] (fun w=>by simp[Instr.alloc,go_sem]<;>rfl) ?_
    intro a w b9 hE hp
    have hp:=r3 hp
    refine aB (aF ⟨fun _=>⟨_,(hp.less hle3)⟩,fun _=>⟨_,((hp.get 1 rfl).less hle3)⟩,fun _=>⟨_,((hp.get 2 rfl).less hle3)⟩,trivial⟩ fun hS=>?_)
    refine gW [3,5] (by kernel_rfl) rfl ?_
    refine List.forall_mem_cons.2 ⟨?_,List.forall_mem_cons.2 ⟨?_,fun _ h=>absurd h (by simp)⟩⟩
    ·
     refine dX rfl ?_
     refine Cl hE rfl rfl jM (bG p1 aJ (aH.mono bH hle3) hp x2 ex2) ⟨rfl,trivial⟩ fun v a w hR hE=>?_
     obtain⟨ρ5,tN,tV,qV,hle5,rfl,oL,oM,lX,hp⟩:=hR
     have hp:=r3 hp
     refine aB (aF ⟨fun _=>⟨_,((hp.less hle5).less hle3)⟩,fun _=>⟨_,(((hp.get 1 rfl).less hle5).less hle3)⟩,fun _=>⟨_,(((hp.get 2 rfl).less hle5).less hle3)⟩,trivial⟩ fun hS=>?_)
     refine W1 5 (by kernel_rfl) rfl ?_
     refine dL (wk0 rfl) rfl rfl hE hp rfl [N0,N0,N0] (fun w=>by simp[Instr.alloc,go_sem]<;>rfl) ?_
     intro a w b10 hE hp
     have hp:=r4 hp
     refine aB (aF ⟨fun _=>⟨_,((hp.less hle5).less hle3)⟩,fun _=>⟨_,(((hp.get 2 rfl).less hle5).less hle3)⟩,fun _=>⟨_,(((hp.get 3 rfl).less hle5).less hle3)⟩,trivial⟩ fun hS=>?_)
     refine W1 6 (by kernel_rfl) rfl ?_
     refine aX (wk0 rfl) rfl hE hp rfl rfl rfl 1 rfl dD.size_ rfl (aQ ⟨(aH.one (aH.mono rJ hle5)),(aH.one (aH.mono rM hle5)),(aH.one (aH.mono qB hle5)),trivial⟩) [O1,O3,zY] rfl ?_
     intro w hp
     have hp:=r4 hp
     refine aB (aF ⟨fun _=>⟨_,((hp.less hle5).less hle3)⟩,fun _=>⟨_,(((hp.get 2 rfl).less hle5).less hle3)⟩,fun _=>⟨_,(((hp.get 3 rfl).less hle5).less hle3)⟩,trivial⟩ fun hS=>?_)
     refine W1 7 (by kernel_rfl) rfl ?_
     refine aX (wk0 rfl) rfl hE hp rfl rfl rfl 0 rfl dD.size_ rfl (aQ ⟨(aH.one oL),(aH.one oM),(aH.one lX),trivial⟩) [tN,tV,qV] rfl ?_
     intro w hp
     have hp:=r4 hp
     refine aB (aF ⟨fun _=>⟨_,((hp.less hle5).less hle3)⟩,fun _=>⟨_,(((hp.get 2 rfl).less hle5).less hle3)⟩,fun _=>⟨_,(((hp.get 3 rfl).less hle5).less hle3)⟩,trivial⟩ fun hS=>?_)
     exact bP (by kernel_rfl) ⟨ρ5,_,_,_,_,_,_,_,_,(PH.le.tr hle3 hle5),oL,oM,lX,(aH.mono rJ hle5),(aH.mono rM hle5),(aH.mono qB hle5),hE.cut ⟨rfl,rfl,rfl,trivial⟩,hp⟩
    refine dX rfl ?_
    refine dL (wk0 rfl) rfl rfl hE hp rfl [N0,N0,N0] (fun w=>by simp[Instr.alloc,go_sem]<;>rfl) ?_
    intro a w b11 hE hp
    have hp:=r4 hp
    refine aB (aF ⟨fun _=>⟨_,(hp.less hle3)⟩,fun _=>⟨_,((hp.get 2 rfl).less hle3)⟩,fun _=>⟨_,((hp.get 3 rfl).less hle3)⟩,trivial⟩ fun hS=>?_)
    refine W1 3 (by kernel_rfl) rfl ?_
    refine Cl hE rfl rfl jM (bG p1 aJ (aH.mono bH hle3) hp x2 ex2) ⟨rfl,trivial⟩ fun v a w hR hE=>?_
    obtain⟨ρ6,xB,xC,uS,hle6,rfl,sV,sW,qR,hp⟩:=hR
    have hp:=r4 hp
    refine aB (aF ⟨fun _=>⟨_,((hp.less hle6).less hle3)⟩,fun _=>⟨_,(((hp.get 2 rfl).less hle6).less hle3)⟩,fun _=>⟨_,(((hp.get 3 rfl).less hle6).less hle3)⟩,trivial⟩ fun hS=>?_)
    refine W1 6 (by kernel_rfl) rfl ?_
    refine aX (wk0 rfl) rfl hE hp rfl rfl rfl 1 rfl dD.size_ rfl (aQ ⟨(aH.one (aH.mono rJ hle6)),(aH.one (aH.mono rM hle6)),(aH.one (aH.mono qB hle6)),trivial⟩) [O1,O3,zY] rfl ?_
    intro w hp
    have hp:=r4 hp
    refine aB (aF ⟨fun _=>⟨_,((hp.less hle6).less hle3)⟩,fun _=>⟨_,(((hp.get 2 rfl).less hle6).less hle3)⟩,fun _=>⟨_,(((hp.get 3 rfl).less hle6).less hle3)⟩,trivial⟩ fun hS=>?_)
    refine W1 7 (by kernel_rfl) rfl ?_
    refine aX (wk0 rfl) rfl hE hp rfl rfl rfl 0 rfl dD.size_ rfl (aQ ⟨(aH.one sV),(aH.one sW),(aH.one qR),trivial⟩) [xB,xC,uS] rfl ?_
    intro w hp
    have hp:=r4 hp
    refine aB (aF ⟨fun _=>⟨_,((hp.less hle6).less hle3)⟩,fun _=>⟨_,(((hp.get 2 rfl).less hle6).less hle3)⟩,fun _=>⟨_,(((hp.get 3 rfl).less hle6).less hle3)⟩,trivial⟩ fun hS=>?_)
    exact bP (by kernel_rfl) ⟨ρ6,_,_,_,_,_,_,_,_,(PH.le.tr hle3 hle6),sV,sW,qR,(aH.mono rJ hle6),(aH.mono rM hle6),(aH.mono qB hle6),hE.cut ⟨rfl,rfl,rfl,trivial⟩,hp⟩
   refine dX rfl ?_
   refine dL (wk0 rfl) rfl rfl hE hp rfl [N0,N0,N0] (fun w=>by simp[Instr.alloc,go_sem]<;>rfl) ?_
   intro a w b12 hE hp
   have hp:=r3 hp
   refine aB (aF ⟨fun _=>⟨_,(hp.less hle3)⟩,fun _=>⟨_,((hp.get 1 rfl).less hle3)⟩,fun _=>⟨_,((hp.get 2 rfl).less hle3)⟩,trivial⟩ fun hS=>?_)
   refine gW [3,4] (by kernel_rfl) rfl ?_
   refine List.forall_mem_cons.2 ⟨?_,List.forall_mem_cons.2 ⟨?_,fun _ h=>absurd h (by simp)⟩⟩
   ·
    refine dX rfl ?_
    refine Cl hE rfl rfl jM (bG p1 aJ (aH.mono bH hle3) hp x2 ex2) ⟨rfl,trivial⟩ fun v a w hR hE=>?_
    obtain⟨ρ7,aB5,aB6,V8,hle7,rfl,yE,yF,wJ,hp⟩:=hR
    have hp:=r3 hp
    refine aB (aF ⟨fun _=>⟨_,((hp.less hle7).less hle3)⟩,fun _=>⟨_,(((hp.get 1 rfl).less hle7).less hle3)⟩,fun _=>⟨_,(((hp.get 2 rfl).less hle7).less hle3)⟩,trivial⟩ fun hS=>?_)
    refine W1 4 (by kernel_rfl) rfl ?_
    refine dL (wk0 rfl) rfl rfl hE hp rfl [N0,N0,N0] (fun w=>by simp[Instr.alloc,go_sem]<;>rfl) ?_
    intro a w b13 hE hp
    have hp:=r4 hp
    refine aB (aF ⟨fun _=>⟨_,((hp.less hle7).less hle3)⟩,fun _=>⟨_,(((hp.get 2 rfl).less hle7).less hle3)⟩,fun _=>⟨_,(((hp.get 3 rfl).less hle7).less hle3)⟩,trivial⟩ fun hS=>?_)
    refine W1 6 (by kernel_rfl) rfl ?_
    refine aX (wk0 rfl) rfl hE hp rfl rfl rfl 0 rfl dD.size_ rfl (aQ ⟨(aH.one (aH.mono rJ hle7)),(aH.one (aH.mono rM hle7)),(aH.one (aH.mono qB hle7)),trivial⟩) [O1,O3,zY] rfl ?_
    intro w hp
    have hp:=r4 hp
    refine aB (aF ⟨fun _=>⟨_,((hp.less hle7).less hle3)⟩,fun _=>⟨_,(((hp.get 2 rfl).less hle7).less hle3)⟩,fun _=>⟨_,(((hp.get 3 rfl).less hle7).less hle3)⟩,trivial⟩ fun hS=>?_)
    refine W1 7 (by kernel_rfl) rfl ?_
    refine aX (wk0 rfl) rfl hE hp rfl rfl rfl 1 rfl dD.size_ rfl (aQ ⟨(aH.one yE),(aH.one yF),(aH.one wJ),trivial⟩) [aB5,aB6,V8] rfl ?_
    intro w hp
    have hp:=r4 hp
    refine aB (aF ⟨fun _=>⟨_,((hp.less hle7).less hle3)⟩,fun _=>⟨_,(((hp.get 2 rfl).less hle7).less hle3)⟩,fun _=>⟨_,(((hp.get 3 rfl).less hle7).less hle3)⟩,trivial⟩ fun hS=>?_)
    exact bP (by kernel_rfl) ⟨ρ7,_,_,_,_,_,_,_,_,(PH.le.tr hle3 hle7),yE,yF,wJ,(aH.mono rJ hle7),(aH.mono rM hle7),(aH.mono qB hle7),hE.cut ⟨rfl,rfl,rfl,trivial⟩,((((hp.get 3 rfl).get 3 rfl).get 2 rfl).get 3 rfl)⟩
   refine dX rfl ?_
   refine dL (wk0 rfl) rfl rfl hE hp rfl [N0,N0,N0] (fun w=>by simp[Instr.alloc,go_sem]<;>rfl) ?_
   intro a w b14 hE hp
   have hp:=r4 hp
   refine aB (aF ⟨fun _=>⟨_,(hp.less hle3)⟩,fun _=>⟨_,((hp.get 2 rfl).less hle3)⟩,fun _=>⟨_,((hp.get 3 rfl).less hle3)⟩,trivial⟩ fun hS=>?_)
   refine W1 3 (by kernel_rfl) rfl ?_
   refine Cl hE rfl rfl jM (bG p1 aJ (aH.mono bH hle3) hp x2 ex2) ⟨rfl,trivial⟩ fun v a w hR hE=>?_
   obtain⟨ρ8,aB7,aB8,V9,hle8,rfl,yG,yH,wK,hp⟩:=hR
   have hp:=r4 hp
   refine aB (aF ⟨fun _=>⟨_,((hp.less hle8).less hle3)⟩,fun _=>⟨_,(((hp.get 2 rfl).less hle8).less hle3)⟩,fun _=>⟨_,(((hp.get 3 rfl).less hle8).less hle3)⟩,trivial⟩ fun hS=>?_)
   refine W1 6 (by kernel_rfl) rfl ?_
   refine aX (wk0 rfl) rfl hE hp rfl rfl rfl 0 rfl dD.size_ rfl (aQ ⟨(aH.one (aH.mono rJ hle8)),(aH.one (aH.mono rM hle8)),(aH.one (aH.mono qB hle8)),trivial⟩) [O1,O3,zY] rfl ?_
   intro w hp
   have hp:=r4 hp
   refine aB (aF ⟨fun _=>⟨_,((hp.less hle8).less hle3)⟩,fun _=>⟨_,(((hp.get 2 rfl).less hle8).less hle3)⟩,fun _=>⟨_,(((hp.get 3 rfl).less hle8).less hle3)⟩,trivial⟩ fun hS=>?_)
   refine W1 7 (by kernel_rfl) rfl ?_
   refine aX (wk0 rfl) rfl hE hp rfl rfl rfl 1 rfl dD.size_ rfl (aQ ⟨(aH.one yG),(aH.one yH),(aH.one wK),trivial⟩) [aB7,aB8,V9] rfl ?_
   intro w hp
   have hp:=r4 hp
   refine aB (aF ⟨fun _=>⟨_,((hp.less hle8).less hle3)⟩,fun _=>⟨_,(((hp.get 2 rfl).less hle8).less hle3)⟩,fun _=>⟨_,(((hp.get 3 rfl).less hle8).less hle3)⟩,trivial⟩ fun hS=>?_)
   exact bP (by kernel_rfl) ⟨ρ8,_,_,_,_,_,_,_,_,(PH.le.tr hle3 hle8),yG,yH,wK,(aH.mono rJ hle8),(aH.mono rM hle8),(aH.mono qB hle8),hE.cut ⟨rfl,rfl,rfl,trivial⟩,((((hp.get 3 rfl).get 3 rfl).get 2 rfl).get 3 rfl)⟩
  ·
   refine dX rfl ?_
   refine dL (wk0 rfl) rfl rfl hE hp rfl [N0,N0,N0] (fun w=>by simp[Instr.alloc,go_sem]<;>rfl) ?_
   intro a w b15 hE hp
   have hp:=r3 hp
   refine aB (aF ⟨gp0 hp,gp 1 hp rfl,gp 2 hp rfl,trivial⟩ fun hS=>?_)
   refine gW [1,5] (by kernel_rfl) rfl ?_
   refine List.forall_mem_cons.2 ⟨?_,List.forall_mem_cons.2 ⟨?_,fun _ h=>absurd h (by simp)⟩⟩
   ·
    refine dX rfl ?_
    refine Cl hE rfl rfl jM (bG p0 aI bD hp x1 ex1) ⟨rfl,trivial⟩ fun v a w hR hE=>?_
    obtain⟨ρ9,O4,O5,zZ,hle9,rfl,uZ,vC,sH,hp⟩:=hR
    have hp:=r3 hp
    refine aB (aF ⟨fun _=>⟨_,(hp.less hle9)⟩,fun _=>⟨_,((hp.get 1 rfl).less hle9)⟩,fun _=>⟨_,((hp.get 2 rfl).less hle9)⟩,trivial⟩ fun hS=>?_)
    refine gW [3,5] (by kernel_rfl) rfl ?_
    refine List.forall_mem_cons.2 ⟨?_,List.forall_mem_cons.2 ⟨?_,fun _ h=>absurd h (by simp)⟩⟩
    ·
     refine dX rfl ?_
     refine Cl hE rfl rfl jM (bG p1 aJ (aH.mono bH hle9) hp x2 ex2) ⟨rfl,trivial⟩ fun v a w hR hE=>?_
     obtain⟨ρ10,xU,xW,wP,hle10,rfl,pW,pX,nS,hp⟩:=hR
     have hp:=r3 hp
     refine aB (aF ⟨fun _=>⟨_,((hp.less hle10).less hle9)⟩,fun _=>⟨_,(((hp.get 1 rfl).less hle10).less hle9)⟩,fun _=>⟨_,(((hp.get 2 rfl).less hle10).less hle9)⟩,trivial⟩ fun hS=>?_)
     refine W1 5 (by kernel_rfl) rfl ?_
     refine dL (wk0 rfl) rfl rfl hE hp rfl [N0,N0,N0] (fun w=>by simp[Instr.alloc,go_sem]<;>rfl) ?_
     intro a w b16 hE hp
     have hp:=r4 hp
     refine aB (aF ⟨fun _=>⟨_,((hp.less hle10).less hle9)⟩,fun _=>⟨_,(((hp.get 2 rfl).less hle10).less hle9)⟩,fun _=>⟨_,(((hp.get 3 rfl).less hle10).less hle9)⟩,trivial⟩ fun hS=>?_)
     refine W1 6 (by kernel_rfl) rfl ?_
     refine aX (wk0 rfl) rfl hE hp rfl rfl rfl 1 rfl dD.size_ rfl (aQ ⟨(aH.one (aH.mono uZ hle10)),(aH.one (aH.mono vC hle10)),(aH.one (aH.mono sH hle10)),trivial⟩) [O4,O5,zZ] rfl ?_
     intro w hp
     have hp:=r4 hp
     refine aB (aF ⟨fun _=>⟨_,((hp.less hle10).less hle9)⟩,fun _=>⟨_,(((hp.get 2 rfl).less hle10).less hle9)⟩,fun _=>⟨_,(((hp.get 3 rfl).less hle10).less hle9)⟩,trivial⟩ fun hS=>?_)
     refine W1 7 (by kernel_rfl) rfl ?_
     refine aX (wk0 rfl) rfl hE hp rfl rfl rfl 0 rfl dD.size_ rfl (aQ ⟨(aH.one pW),(aH.one pX),(aH.one nS),trivial⟩) [xU,xW,wP] rfl ?_
     intro w hp
     have hp:=r4 hp
     refine aB (aF ⟨fun _=>⟨_,((hp.less hle10).less hle9)⟩,fun _=>⟨_,(((hp.get 2 rfl).less hle10).less hle9)⟩,fun _=>⟨_,(((hp.get 3 rfl).less hle10).less hle9)⟩,trivial⟩ fun hS=>?_)
     exact bP (by kernel_rfl) ⟨ρ10,_,_,_,_,_,_,_,_,(PH.le.tr hle9 hle10),pW,pX,nS,(aH.mono uZ hle10),(aH.mono vC hle10),(aH.mono sH hle10),hE.cut ⟨rfl,rfl,rfl,trivial⟩,hp⟩
    refine dX rfl ?_
    refine dL (wk0 rfl) rfl rfl hE hp rfl [N0,N0,N0] (fun w=>by simp[Instr.alloc,go_sem]<;>rfl) ?_
    intro a w b17 hE hp
    have hp:=r4 hp
    refine aB (aF ⟨fun _=>⟨_,(hp.less hle9)⟩,fun _=>⟨_,((hp.get 2 rfl).less hle9)⟩,fun _=>⟨_,((hp.get 3 rfl).less hle9)⟩,trivial⟩ fun hS=>?_)
    refine W1 3 (by kernel_rfl) rfl ?_
    refine Cl hE rfl rfl jM (bG p1 aJ (aH.mono bH hle9) hp x2 ex2) ⟨rfl,trivial⟩ fun v a w hR hE=>?_
    obtain⟨ρ11,U1,U2,G7,hle11,rfl,vV,vW,tZ,hp⟩:=hR
    have hp:=r4 hp
    refine aB (aF ⟨fun _=>⟨_,((hp.less hle11).less hle9)⟩,fun _=>⟨_,(((hp.get 2 rfl).less hle11).less hle9)⟩,fun _=>⟨_,(((hp.get 3 rfl).less hle11).less hle9)⟩,trivial⟩ fun hS=>?_)
    refine W1 6 (by kernel_rfl) rfl ?_
    refine aX (wk0 rfl) rfl hE hp rfl rfl rfl 1 rfl dD.size_ rfl (aQ ⟨(aH.one (aH.mono uZ hle11)),(aH.one (aH.mono vC hle11)),(aH.one (aH.mono sH hle11)),trivial⟩) [O4,O5,zZ] rfl ?_
    intro w hp
    have hp:=r4 hp
    refine aB (aF ⟨fun _=>⟨_,((hp.less hle11).less hle9)⟩,fun _=>⟨_,(((hp.get 2 rfl).less hle11).less hle9)⟩,fun _=>⟨_,(((hp.get 3 rfl).less hle11).less hle9)⟩,trivial⟩ fun hS=>?_)
    refine W1 7 (by kernel_rfl) rfl ?_
    refine aX (wk0 rfl) rfl hE hp rfl rfl rfl 0 rfl dD.size_ rfl (aQ ⟨(aH.one vV),(aH.one vW),(aH.one tZ),trivial⟩) [U1,U2,G7] rfl ?_
    intro w hp
    have hp:=r4 hp
    refine aB (aF ⟨fun _=>⟨_,((hp.less hle11).less hle9)⟩,fun _=>⟨_,(((hp.get 2 rfl).less hle11).less hle9)⟩,fun _=>⟨_,(((hp.get 3 rfl).less hle11).less hle9)⟩,trivial⟩ fun hS=>?_)
    exact bP (by kernel_rfl) ⟨ρ11,_,_,_,_,_,_,_,_,(PH.le.tr hle9 hle11),vV,vW,tZ,(aH.mono uZ hle11),(aH.mono vC hle11),(aH.mono sH hle11),hE.cut ⟨rfl,rfl,rfl,trivial⟩,hp⟩
   refine dX rfl ?_
   refine dL (wk0 rfl) rfl rfl hE hp rfl [N0,N0,N0] (fun w=>by simp[Instr.alloc,go_sem]<;>rfl) ?_
   intro a w b18 hE hp
   have hp:=r4 hp
   refine aB (aF ⟨gp0 hp,gp 2 hp rfl,gp 3 hp rfl,trivial⟩ fun hS=>?_)
   refine W1 1 (by kernel_rfl) rfl ?_
   refine Cl hE rfl rfl jM (bG p0 aI bD hp x1 ex1) ⟨rfl,trivial⟩ fun v a w hR hE=>?_
   obtain⟨ρ12,U3,U4,G8,hle12,rfl,vX,vY,uA,hp⟩:=hR
   have hp:=r4 hp
   refine aB (aF ⟨fun _=>⟨_,(hp.less hle12)⟩,fun _=>⟨_,((hp.get 2 rfl).less hle12)⟩,fun _=>⟨_,((hp.get 3 rfl).less hle12)⟩,trivial⟩ fun hS=>?_)
   refine W1 3 (by kernel_rfl) rfl ?_
   refine Cl hE rfl rfl jM (bG p1 aJ (aH.mono bH hle12) hp x2 ex2) ⟨rfl,trivial⟩ fun v a w hR hE=>?_
   obtain⟨ρ13,U5,U6,G9,hle13,rfl,vZ,wB,uB,hp⟩:=hR
   have hp:=r4 hp
   refine aB (aF ⟨fun _=>⟨_,((hp.less hle13).less hle12)⟩,fun _=>⟨_,(((hp.get 2 rfl).less hle13).less hle12)⟩,fun _=>⟨_,(((hp.get 3 rfl).less hle13).less hle12)⟩,trivial⟩ fun hS=>?_)
   refine W1 6 (by kernel_rfl) rfl ?_
   refine aX (wk0 rfl) rfl hE hp rfl rfl rfl 1 rfl dD.size_ rfl (aQ ⟨(aH.one (aH.mono vX hle13)),(aH.one (aH.mono vY hle13)),(aH.one (aH.mono uA hle13)),trivial⟩) [U3,U4,G8] rfl ?_
   intro w hp
   have hp:=r4 hp
   refine aB (aF ⟨fun _=>⟨_,((hp.less hle13).less hle12)⟩,fun _=>⟨_,(((hp.get 2 rfl).less hle13).less hle12)⟩,fun _=>⟨_,(((hp.get 3 rfl).less hle13).less hle12)⟩,trivial⟩ fun hS=>?_)
   refine W1 7 (by kernel_rfl) rfl ?_
   refine aX (wk0 rfl) rfl hE hp rfl rfl rfl 0 rfl dD.size_ rfl (aQ ⟨(aH.one vZ),(aH.one wB),(aH.one uB),trivial⟩) [U5,U6,G9] rfl ?_
   intro w hp
   have hp:=r4 hp
   refine aB (aF ⟨fun _=>⟨_,((hp.less hle13).less hle12)⟩,fun _=>⟨_,(((hp.get 2 rfl).less hle13).less hle12)⟩,fun _=>⟨_,(((hp.get 3 rfl).less hle13).less hle12)⟩,trivial⟩ fun hS=>?_)
   exact bP (by kernel_rfl) ⟨ρ13,_,_,_,_,_,_,_,_,(PH.le.tr hle12 hle13),vZ,wB,uB,(aH.mono vX hle13),(aH.mono vY hle13),(aH.mono uA hle13),hE.cut ⟨rfl,rfl,rfl,trivial⟩,hp⟩
  refine dX rfl ?_
  refine dL (wk0 rfl) rfl rfl hE hp rfl [N0,N0,N0] (fun w=>by simp[Instr.alloc,go_sem]<;>rfl) ?_
  intro a w b19 hE hp
  have hp:=r3 hp
  refine aB (aF ⟨gp0 hp,gp 1 hp rfl,gp 2 hp rfl,trivial⟩ fun hS=>?_)
  refine gW [1,4] (by kernel_rfl) rfl ?_
  refine List.forall_mem_cons.2 ⟨?_,List.forall_mem_cons.2 ⟨?_,fun _ h=>absurd h (by simp)⟩⟩
  ·
   refine dX rfl ?_
   refine Cl hE rfl rfl jM (bG p0 aI bD hp x1 ex1) ⟨rfl,trivial⟩ fun v a w hR hE=>?_
   obtain⟨ρ14,zV,zW,yS,hle14,rfl,sF,sG,qN,hp⟩:=hR
   have hp:=r3 hp
   refine aB (aF ⟨fun _=>⟨_,(hp.less hle14)⟩,fun _=>⟨_,((hp.get 1 rfl).less hle14)⟩,fun _=>⟨_,((hp.get 2 rfl).less hle14)⟩,trivial⟩ fun hS=>?_)
   refine gW [3,4] (by kernel_rfl) rfl ?_
   refine List.forall_mem_cons.2 ⟨?_,List.forall_mem_cons.2 ⟨?_,fun _ h=>absurd h (by simp)⟩⟩
   ·
    refine dX rfl ?_
    refine Cl hE rfl rfl jM (bG p1 aJ (aH.mono bH hle14) hp x2 ex2) ⟨rfl,trivial⟩ fun v a w hR hE=>?_
    obtain⟨ρ15,xX,xY,wQ,hle15,rfl,pY,qA,nT,hp⟩:=hR
    have hp:=r3 hp
    refine aB (aF ⟨fun _=>⟨_,((hp.less hle15).less hle14)⟩,fun _=>⟨_,(((hp.get 1 rfl).less hle15).less hle14)⟩,fun _=>⟨_,(((hp.get 2 rfl).less hle15).less hle14)⟩,trivial⟩ fun hS=>?_)
    refine W1 4 (by kernel_rfl) rfl ?_
    refine dL (wk0 rfl) rfl rfl hE hp rfl [N0,N0,N0] (fun w=>by simp[Instr.alloc,go_sem]<;>rfl) ?_
    intro a w b20 hE hp
    have hp:=r4 hp
    refine aB (aF ⟨fun _=>⟨_,((hp.less hle15).less hle14)⟩,fun _=>⟨_,(((hp.get 2 rfl).less hle15).less hle14)⟩,fun _=>⟨_,(((hp.get 3 rfl).less hle15).less hle14)⟩,trivial⟩ fun hS=>?_)
    refine W1 6 (by kernel_rfl) rfl ?_
    refine aX (wk0 rfl) rfl hE hp rfl rfl rfl 0 rfl dD.size_ rfl (aQ ⟨(aH.one (aH.mono sF hle15)),(aH.one (aH.mono sG hle15)),(aH.one (aH.mono qN hle15)),trivial⟩) [zV,zW,yS] rfl ?_
    intro w hp
    have hp:=r4 hp
    refine aB (aF ⟨fun _=>⟨_,((hp.less hle15).less hle14)⟩,fun _=>⟨_,(((hp.get 2 rfl).less hle15).less hle14)⟩,fun _=>⟨_,(((hp.get 3 rfl).less hle15).less hle14)⟩,trivial⟩ fun hS=>?_)
    refine W1 7 (by kernel_rfl) rfl ?_
    refine aX (wk0 rfl) rfl hE hp rfl rfl rfl 1 rfl dD.size_ rfl (aQ ⟨(aH.one pY),(aH.one qA),(aH.one nT),trivial⟩) [xX,xY,wQ] rfl ?_
    intro w hp
    have hp:=r4 hp
    refine aB (aF ⟨fun _=>⟨_,((hp.less hle15).less hle14)⟩,fun _=>⟨_,(((hp.get 2 rfl).less hle15).less hle14)⟩,fun _=>⟨_,(((hp.get 3 rfl).less hle15).less hle14)⟩,trivial⟩ fun hS=>?_)
    exact bP (by kernel_rfl) ⟨ρ15,_,_,_,_,_,_,_,_,(PH.le.tr hle14 hle15),pY,qA,nT,(aH.mono sF hle15),(aH.mono sG hle15),(aH.mono qN hle15),hE.cut ⟨rfl,rfl,rfl,trivial⟩,((((hp.get 3 rfl).get 3 rfl).get 2 rfl).get 3 rfl)⟩
   refine dX rfl ?_
   refine dL (wk0 rfl) rfl rfl hE hp rfl [N0,N0,N0] (fun w=>by simp[Instr.alloc,go_sem]<;>rfl) ?_
   intro a w b21 hE hp
   have hp:=r4 hp
   refine aB (aF ⟨fun _=>⟨_,(hp.less hle14)⟩,fun _=>⟨_,((hp.get 2 rfl).less hle14)⟩,fun _=>⟨_,((hp.get 3 rfl).less hle14)⟩,trivial⟩ fun hS=>?_)
   refine W1 3 (by kernel_rfl) rfl ?_
   refine Cl hE rfl rfl jM (bG p1 aJ (aH.mono bH hle14) hp x2 ex2) ⟨rfl,trivial⟩ fun v a w hR hE=>?_
   obtain⟨ρ16,U7,U9,H5,hle16,rfl,wC,wE,uC,hp⟩:=hR
   have hp:=r4 hp
   refine aB (aF ⟨fun _=>⟨_,((hp.less hle16).less hle14)⟩,fun _=>⟨_,(((hp.get 2 rfl).less hle16).less hle14)⟩,fun _=>⟨_,(((hp.get 3 rfl).less hle16).less hle14)⟩,trivial⟩ fun hS=>?_)
   refine W1 6 (by kernel_rfl) rfl ?_
   refine aX (wk0 rfl) rfl hE hp rfl rfl rfl 0 rfl dD.size_ rfl (aQ ⟨(aH.one (aH.mono sF hle16)),(aH.one (aH.mono sG hle16)),(aH.one (aH.mono qN hle16)),trivial⟩) [zV,zW,yS] rfl ?_
   intro w hp
   have hp:=r4 hp
   refine aB (aF ⟨fun _=>⟨_,((hp.less hle16).less hle14)⟩,fun _=>⟨_,(((hp.get 2 rfl).less hle16).less hle14)⟩,fun _=>⟨_,(((hp.get 3 rfl).less hle16).less hle14)⟩,trivial⟩ fun hS=>?_)
   refine W1 7 (by kernel_rfl) rfl ?_
   refine aX (wk0 rfl) rfl hE hp rfl rfl rfl 1 rfl dD.size_ rfl (aQ ⟨(aH.one wC),(aH.one wE),(aH.one uC),trivial⟩) [U7,U9,H5] rfl ?_
   intro w hp
   have hp:=r4 hp
   refine aB (aF ⟨fun _=>⟨_,((hp.less hle16).less hle14)⟩,fun _=>⟨_,(((hp.get 2 rfl).less hle16).less hle14)⟩,fun _=>⟨_,(((hp.get 3 rfl).less hle16).less hle14)⟩,trivial⟩ fun hS=>?_)
   exact bP (by kernel_rfl) ⟨ρ16,_,_,_,_,_,_,_,_,(PH.le.tr hle14 hle16),wC,wE,uC,(aH.mono sF hle16),(aH.mono sG hle16),(aH.mono qN hle16),hE.cut ⟨rfl,rfl,rfl,trivial⟩,((((hp.get 3 rfl).get 3 rfl).get 2 rfl).get 3 rfl)⟩
  refine dX rfl ?_
  refine dL (wk0 rfl) rfl rfl hE hp rfl [N0,N0,N0] (fun w=>by simp[Instr.alloc,go_sem]<;>rfl) ?_
  intro a w b22 hE hp
  have hp:=r4 hp
  refine aB (aF ⟨gp0 hp,gp 2 hp rfl,gp 3 hp rfl,trivial⟩ fun hS=>?_)
  refine W1 1 (by kernel_rfl) rfl ?_
  refine Cl hE rfl rfl jM (bG p0 aI bD hp x1 ex1) ⟨rfl,trivial⟩ fun v a w hR hE=>?_
  obtain⟨ρ17,V3,V4,H6,hle17,rfl,wF,wG,uD,hp⟩:=hR
  have hp:=r4 hp
  refine aB (aF ⟨fun _=>⟨_,(hp.less hle17)⟩,fun _=>⟨_,((hp.get 2 rfl).less hle17)⟩,fun _=>⟨_,((hp.get 3 rfl).less hle17)⟩,trivial⟩ fun hS=>?_)
  refine W1 3 (by kernel_rfl) rfl ?_
  refine Cl hE rfl rfl jM (bG p1 aJ (aH.mono bH hle17) hp x2 ex2) ⟨rfl,trivial⟩ fun v a w hR hE=>?_
  obtain⟨ρ18,V5,V6,H7,hle18,rfl,wH,wI,uF,hp⟩:=hR
  have hp:=r4 hp
  refine aB (aF ⟨fun _=>⟨_,((hp.less hle18).less hle17)⟩,fun _=>⟨_,(((hp.get 2 rfl).less hle18).less hle17)⟩,fun _=>⟨_,(((hp.get 3 rfl).less hle18).less hle17)⟩,trivial⟩ fun hS=>?_)
  refine W1 6 (by kernel_rfl) rfl ?_
  refine aX (wk0 rfl) rfl hE hp rfl rfl rfl 0 rfl dD.size_ rfl (aQ ⟨(aH.one (aH.mono wF hle18)),(aH.one (aH.mono wG hle18)),(aH.one (aH.mono uD hle18)),trivial⟩) [V3,V4,H6] rfl ?_
  intro w hp
  have hp:=r4 hp
  refine aB (aF ⟨fun _=>⟨_,((hp.less hle18).less hle17)⟩,fun _=>⟨_,(((hp.get 2 rfl).less hle18).less hle17)⟩,fun _=>⟨_,(((hp.get 3 rfl).less hle18).less hle17)⟩,trivial⟩ fun hS=>?_)
  refine W1 7 (by kernel_rfl) rfl ?_
  refine aX (wk0 rfl) rfl hE hp rfl rfl rfl 1 rfl dD.size_ rfl (aQ ⟨(aH.one wH),(aH.one wI),(aH.one uF),trivial⟩) [V5,V6,H7] rfl ?_
  intro w hp
  have hp:=r4 hp
  refine aB (aF ⟨fun _=>⟨_,((hp.less hle18).less hle17)⟩,fun _=>⟨_,(((hp.get 2 rfl).less hle18).less hle17)⟩,fun _=>⟨_,(((hp.get 3 rfl).less hle18).less hle17)⟩,trivial⟩ fun hS=>?_)
  exact bP (by kernel_rfl) ⟨ρ18,_,_,_,_,_,_,_,_,(PH.le.tr hle17 hle18),wH,wI,uF,(aH.mono wF hle18),(aH.mono wG hle18),(aH.mono uD hle18),hE.cut ⟨rfl,rfl,rfl,trivial⟩,((((hp.get 3 rfl).get 3 rfl).get 2 rfl).get 3 rfl)⟩
 rintro a w ⟨ρy1,y4,y3,yv1,yv2,yv3,yv4,yv5,yv6,hley1,yh1,yh2,yh3,yh4,yh5,yh6,hE,hp⟩
 refine aG (aG ?_)
 refine aA (S hE 1 rfl fun a hE=>?_)
 refine V hE hp rfl (bT rfl hE rfl (aH.len (aH.mono hp2 hley1) dW)) fun a hE=>V hE hp rfl (xf hE kK rfl rfl) fun a hE=>V hE hp rfl (xl hE iT 1 rfl rfl rfl rfl) fun a hE=>V hE hp rfl (bT rfl hE rfl (aH.len yh4 jI)) fun a hE=>S hE 1 rfl fun a hE=>aB ?_
 refine dE hE rfl (fun hc1=>?_) (fun hc1=>?_)
 ·replace hm:=(it hc1).symm.trans hm
  refine aG (aA ?_)
  refine S hE 1 rfl fun a hE=>aB (bZ ?_)
  obtain rfl:=oj hm
  exact gJ hE rfl rfl ⟨_,rfl,rfl,((((((((hp.get 3 rfl).drop).get 2 rfl).drop).get 1 rfl).drop).drop).less hley1)⟩
 replace hm:=(ie hc1).symm.trans hm
 refine aZ (aG ?_)
 refine aA (V hE hp rfl (xf hE kK rfl rfl) fun a hE=>?_)
 refine V hE hp rfl (xl hE iT 0 rfl rfl rfl rfl) fun a hE=>V hE hp rfl (bT rfl hE rfl (aH.len yh1 jI)) fun a hE=>?_
 obtain⟨x3,ex3,hm⟩:=bnd hm
 refine aF4 (wk0 rfl) rfl rfl hE hp rfl (El:=4) (bytes:=1) (by kernel_rfl) (false:Bool) (by kernel_rfl) (by kernel_rfl) rfl rfl ex3 ?_
 intro v1 a w hE hp
 have hp:=r5 hp
 refine S hE 1 rfl fun a hE=>aB (aG ?_)
 refine aA (S hE 1 rfl fun a hE=>?_)
 refine aB (aG ?_)
 refine aA (S hE 1 rfl fun a hE=>?_)
 refine aB (aG ?_)
 refine aG (aA ?_)
 refine S hE 1 rfl fun a hE=>V hE hp rfl (bT rfl hE rfl (aH.len (aH.mono hp2 hley1) dW)) fun a hE=>S hE 1 rfl fun a hE=>aB ?_
 have hp:=hp.emp (aC.nil (α:=Opn) 46)
 have hp:=r6 hp
 obtain⟨b23,hc2,hm⟩:=bnd hm
 refine dH (fun a w=>∃s:((List Opn)×(List Bool)),b23= .brk s∧(∃(w14:Value) (w5:Value),Env 174 [(7,(Pv y3 0)),(8,(Pv y4 0)),(9,w5),(10,w14)] a∧Hp Z ρy1 (aC 46 w14 s.1::aC 4 w5 s.2::Pt y4 (.cells #[yv1,yv2,yv3] 75 (0,0))::Pt y3 (.cells #[yv4,yv5,yv6] 75 (0,0))::Pt b2 (.cells #[(Iv p1.kind),(.string p1.text),(Iv p1.at_),(Iv p1.fin),aJ] 24 (0,0))::Pt b1 (.cells #[(Iv p0.kind),(.string p0.text),(Iv p0.at_),(Iv p0.fin),aI] 24 (0,0))::L) w)) ?_ ?_
 ·refine dZ hc2 (fun s a w=>∃(w14:Value) (w5:Value),Env 174 [(7,(Pv y3 0)),(8,(Pv y4 0)),(9,w5),(10,w14),(11,(Iv s.1)),(32,vp2),(33,(Iv (p2.length:Int))),(34,(Iv s.2.1))] a∧Hp Z ρy1 (aC 46 w14 s.2.2.1::aC 4 w5 s.2.2.2::Pt y4 (.cells #[yv1,yv2,yv3] 75 (0,0))::Pt y3 (.cells #[yv4,yv5,yv6] 75 (0,0))::Pt b2 (.cells #[(Iv p1.kind),(.string p1.text),(Iv p1.at_),(Iv p1.fin),aJ] 24 (0,0))::Pt b1 (.cells #[(Iv p0.kind),(.string p0.text),(Iv p0.at_),(Iv p0.fin),aI] 24 (0,0))::L) w) ?_ ?_
  ·exact⟨_,_,hE.cut ⟨rfl,rfl,rfl,rfl,rfl,rfl,rfl,rfl,trivial⟩,hp⟩
  rintro⟨aP,aU,dR,fQ⟩ st a w ⟨w14,w5,hE,hp⟩ hl1
  dsimp only at hE hp hl1
  unfold rP at hl1
  refine aG (aA ?_)
  refine S hE 1 rfl fun a hE=>aB (aG ?_)
  refine dE hE rfl (fun hc3=>?_) (fun hc3=>?_)
  ·replace hl1:=(it hc3).symm.trans hl1
   refine aZ (aG ?_)
   obtain⟨j1,hj1,hl1⟩:=bnd hl1
   refine dH (fun a w=>∃s:(Int×(List Opn)×(List Bool)),j1= .brk s∧(∃(w14:Value) (w5:Value),Env 174 [(7,(Pv y3 0)),(8,(Pv y4 0)),(9,w5),(10,w14),(11,(Iv s.1)),(32,vp2),(33,(Iv (p2.length:Int))),(34,(Iv aU))] a∧Hp Z ρy1 (aC 46 w14 s.2.1::aC 4 w5 s.2.2::Pt y4 (.cells #[yv1,yv2,yv3] 75 (0,0))::Pt y3 (.cells #[yv4,yv5,yv6] 75 (0,0))::Pt b2 (.cells #[(Iv p1.kind),(.string p1.text),(Iv p1.at_),(Iv p1.fin),aJ] 24 (0,0))::Pt b1 (.cells #[(Iv p0.kind),(.string p0.text),(Iv p0.at_),(Iv p0.fin),aI] 24 (0,0))::L) w)) ?_ ?_
   ·
    refine aG (aA ?_)
    refine S hE 1 rfl fun a hE=>?_
    obtain⟨x4,ex4,hj1⟩:=bnd hj1
    obtain⟨b24,b24o,b24c,b24r,b24k,b24f⟩:=aH.at (aH.mono hp2 hley1) dW ex4
    obtain rfl:b24c=Enc.enc x4:=b24k
    have b24f:AtP ρy1 b24 b24o [(Iv x4.a),(Iv x4.b)]:=b24f
    refine V hE hp rfl (aN rfl hE rfl rfl b24r) fun a hE=>V hE hp rfl (aK rfl hE rfl (fun w hw=>aW (cs:=[(Iv x4.a),(Iv x4.b)]) fF (fun j u hj=>cell_of hw.le (b24f j u hj)))) fun a hE=>?_
    refine dL (wk0 rfl) rfl rfl hE hp rfl [(Iv 0),(Iv 0)] (fun w=>by simp[Instr.alloc,go_sem]<;>rfl) ?_
    intro a w b25 hE hp
    have hp:=r7 hp
    refine S hE 1 rfl fun a hE=>?_
    refine aX (wk0 rfl) rfl hE hp rfl rfl rfl 0 rfl fF.size_ rfl (aQ ⟨rfl,rfl,trivial⟩) [(Iv x4.a),(Iv x4.b)] rfl ?_
    intro w hp
    have hp:=r7 hp
    refine aB ?_
    have hE:=hE.cut (E':=[(7,(Pv y3 0)),(8,(Pv y4 0)),(9,w5),(10,w14),(11,(Iv aP)),(12,(Iv aU)),(13,(Pv b25 0)),(32,vp2),(33,(Iv (p2.length:Int))),(34,(Iv aU))]) ⟨rfl,rfl,rfl,rfl,rfl,rfl,rfl,rfl,rfl,rfl,trivial⟩
    refine aG (aG ?_)
    refine aA (S hE 1 rfl fun a hE=>?_)
    refine V hE hp rfl (xf hE kK rfl rfl) fun a hE=>V hE hp rfl (xl hE iT 4 rfl rfl rfl rfl) fun a hE=>V hE hp rfl (bT rfl hE rfl (aH.len yh4 jI)) fun a hE=>S hE 1 rfl fun a hE=>V hE hp rfl (xf hE fA rfl rfl) fun a hE=>V hE hp rfl (xl hE aT 0 rfl rfl rfl rfl) fun a hE=>S hE 1 rfl fun a hE=>V hE hp rfl (v:=(.bool (!((decide (aU<(x1.nodes.length:Int)))==(decide (0≤x4.a)))))) (ex_bneq bty4 rfl hE rfl rfl) fun a hE=>S hE 1 rfl fun a hE=>?_
    refine iL [_,_,_,_,_,_,_,_,_,_] (fun a w=>Env 174 [(58,(.bool ((!((decide (aU<(x1.nodes.length:Int)))==(decide (0≤x4.a))))||((decide (0≤x4.a))&&(!decide (x4.a=aU)))))),(7,(Pv y3 0)),(8,(Pv y4 0)),(9,w5),(10,w14),(11,(Iv aP)),(13,(Pv b25 0)),(32,vp2),(33,(Iv (p2.length:Int))),(34,(Iv aU))] a∧Hp Z ρy1 (Pt b25 (.cells #[(Iv x4.a),(Iv x4.b)] 46 (0,0))::aC 46 w14 dR::aC 4 w5 fQ::Pt y4 (.cells #[yv1,yv2,yv3] 75 (0,0))::Pt y3 (.cells #[yv4,yv5,yv6] 75 (0,0))::Pt b2 (.cells #[(Iv p1.kind),(.string p1.text),(Iv p1.at_),(Iv p1.fin),aJ] 24 (0,0))::Pt b1 (.cells #[(Iv p0.kind),(.string p0.text),(Iv p0.at_),(Iv p0.fin),aI] 24 (0,0))::L) w) ?_ ?_
    ·rcases Bool.eq_false_or_eq_true (!((decide (aU<(x1.nodes.length:Int)))==(decide (0≤x4.a)))) with hc4|hc4
     ·
      refine Gk hE hc4 rfl fun a hE=>Gk hE hc4 rfl fun a hE=>Gk hE hc4 rfl fun a hE=>Gk hE hc4 rfl fun a hE=>?_
      refine sK (wk3 hE rfl rfl rfl) rfl rfl hE ?_
      intro a hE
      refine sK (wk3 hE rfl rfl rfl) rfl rfl hE ?_
      intro a hE
      refine sK (wk3 hE rfl rfl rfl) rfl rfl hE ?_
      intro a hE
      refine sK (wk3 hE rfl rfl rfl) rfl rfl hE ?_
      intro a hE
      refine Gk hE hc4 rfl fun a hE=>pk1 hE hc4 rfl rfl rfl rfl fun a hE=>?_
      have hE:=hE.eqv (v':=(.bool ((!((decide (aU<(x1.nodes.length:Int)))==(decide (0≤x4.a))))||((decide (0≤x4.a))&&(!decide (x4.a=aU)))))) (by rw[hc4];rfl)
      exact aB ⟨hE.cut ⟨rfl,rfl,rfl,rfl,rfl,rfl,rfl,rfl,rfl,rfl,trivial⟩,hp⟩
     refine G hE hp hc4 rfl (xf hE fA rfl rfl) fun a hE=>G hE hp hc4 rfl (xl hE aT 0 rfl rfl rfl rfl) fun a hE=>Gs hE hc4 rfl rfl fun a hE=>Gs hE hc4 rfl rfl fun a hE=>?_
     refine iL [_,_,_,_,_] (fun a w=>Env 174 [(57,(.bool ((decide (0≤x4.a))&&(!decide (x4.a=aU))))),(7,(Pv y3 0)),(8,(Pv y4 0)),(9,w5),(10,w14),(11,(Iv aP)),(13,(Pv b25 0)),(32,vp2),(33,(Iv (p2.length:Int))),(34,(Iv aU)),(48,(.bool (!((decide (aU<(x1.nodes.length:Int)))==(decide (0≤x4.a)))))),(49,(Pv b25 0)),(50,(Iv x4.a)),(51,(.bool (decide (0≤x4.a)))),(52,(.bool (decide (0≤x4.a))))] a∧Hp Z ρy1 (Pt b25 (.cells #[(Iv x4.a),(Iv x4.b)] 46 (0,0))::aC 46 w14 dR::aC 4 w5 fQ::Pt y4 (.cells #[yv1,yv2,yv3] 75 (0,0))::Pt y3 (.cells #[yv4,yv5,yv6] 75 (0,0))::Pt b2 (.cells #[(Iv p1.kind),(.string p1.text),(Iv p1.at_),(Iv p1.fin),aJ] 24 (0,0))::Pt b1 (.cells #[(Iv p0.kind),(.string p0.text),(Iv p0.at_),(Iv p0.fin),aI] 24 (0,0))::L) w) ?_ ?_
     ·rcases Bool.eq_false_or_eq_true (decide (0≤x4.a)) with hc5|hc5
      ·
       refine G hE hp hc5 rfl (xf hE fA rfl rfl) fun a hE=>G hE hp hc5 rfl (xl hE aT 0 rfl rfl rfl rfl) fun a hE=>Gs hE hc5 rfl rfl fun a hE=>Gs hE hc5 rfl rfl fun a hE=>G hE hp hc4 rfl (iD rfl hE rfl hc5 rfl) fun a hE=>?_
       have hE:=hE.eqv (v':=(.bool ((decide (0≤x4.a))&&(!decide (x4.a=aU))))) (by rw[hc5];rfl)
       exact aB ⟨hE.cut ⟨rfl,rfl,rfl,rfl,rfl,rfl,rfl,rfl,rfl,rfl,rfl,rfl,rfl,rfl,rfl,trivial⟩,hp⟩
      refine Gk hE hc5 rfl fun a hE=>Gk hE hc5 rfl fun a hE=>Gk hE hc5 rfl fun a hE=>Gk hE hc5 rfl fun a hE=>G hE hp hc4 rfl (gQ rfl hE rfl hc5 rfl) fun a hE=>?_
      have hE:=hE.eqv (v':=(.bool ((decide (0≤x4.a))&&(!decide (x4.a=aU))))) (by rw[hc5];rfl)
      exact aB ⟨hE.cut ⟨rfl,rfl,rfl,rfl,rfl,rfl,rfl,rfl,rfl,rfl,rfl,rfl,rfl,rfl,rfl,trivial⟩,hp⟩
     rintro a w ⟨hE,hp⟩
     refine pk0 hE hc4 rfl rfl rfl rfl fun a hE=>?_
     have hE:=hE.eqv (v':=(.bool ((!((decide (aU<(x1.nodes.length:Int)))==(decide (0≤x4.a))))||((decide (0≤x4.a))&&(!decide (x4.a=aU)))))) (by rw[hc4];rfl)
     exact aB ⟨hE.cut ⟨rfl,rfl,rfl,rfl,rfl,rfl,rfl,rfl,rfl,rfl,trivial⟩,hp⟩
    rintro a w ⟨hE,hp⟩
    refine S hE 1 rfl fun a hE=>?_
    refine iL [_,_,_,_,_,_,_,_,_] (fun a w=>Env 174 [(68,(.bool (((!((decide (aU<(x1.nodes.length:Int)))==(decide (0≤x4.a))))||((decide (0≤x4.a))&&(!decide (x4.a=aU))))||((decide (x4.a<0))&&(!decide (x4.a=(-1))))))),(7,(Pv y3 0)),(8,(Pv y4 0)),(9,w5),(10,w14),(11,(Iv aP)),(13,(Pv b25 0)),(32,vp2),(33,(Iv (p2.length:Int))),(34,(Iv aU))] a∧Hp Z ρy1 (Pt b25 (.cells #[(Iv x4.a),(Iv x4.b)] 46 (0,0))::aC 46 w14 dR::aC 4 w5 fQ::Pt y4 (.cells #[yv1,yv2,yv3] 75 (0,0))::Pt y3 (.cells #[yv4,yv5,yv6] 75 (0,0))::Pt b2 (.cells #[(Iv p1.kind),(.string p1.text),(Iv p1.at_),(Iv p1.fin),aJ] 24 (0,0))::Pt b1 (.cells #[(Iv p0.kind),(.string p0.text),(Iv p0.at_),(Iv p0.fin),aI] 24 (0,0))::L) w) ?_ ?_
    ·rcases Bool.eq_false_or_eq_true ((!((decide (aU<(x1.nodes.length:Int)))==(decide (0≤x4.a))))||((decide (0≤x4.a))&&(!decide (x4.a=aU)))) with hc6|hc6
     ·
      refine Gk hE hc6 rfl fun a hE=>Gk hE hc6 rfl fun a hE=>Gk hE hc6 rfl fun a hE=>Gk hE hc6 rfl fun a hE=>?_
      refine sK (wk3 hE rfl rfl rfl) rfl rfl hE ?_
      intro a hE
      refine sK (wk3 hE rfl rfl rfl) rfl rfl hE ?_
      intro a hE
      refine sK (wk3 hE rfl rfl rfl) rfl rfl hE ?_
      intro a hE
      refine Gk hE hc6 rfl fun a hE=>pk1 hE hc6 rfl rfl rfl rfl fun a hE=>?_
      have hE:=hE.eqv (v':=(.bool (((!((decide (aU<(x1.nodes.length:Int)))==(decide (0≤x4.a))))||((decide (0≤x4.a))&&(!decide (x4.a=aU))))||((decide (x4.a<0))&&(!decide (x4.a=(-1))))))) (by rw[hc6];rfl)
      exact aB ⟨hE.cut ⟨rfl,rfl,rfl,rfl,rfl,rfl,rfl,rfl,rfl,rfl,trivial⟩,hp⟩
     refine G hE hp hc6 rfl (xf hE fA rfl rfl) fun a hE=>G hE hp hc6 rfl (xl hE aT 0 rfl rfl rfl rfl) fun a hE=>Gs hE hc6 rfl rfl fun a hE=>Gs hE hc6 rfl rfl fun a hE=>?_
     refine iL [_,_,_,_] (fun a w=>Env 174 [(67,(.bool ((decide (x4.a<0))&&(!decide (x4.a=(-1)))))),(7,(Pv y3 0)),(8,(Pv y4 0)),(9,w5),(10,w14),(11,(Iv aP)),(13,(Pv b25 0)),(32,vp2),(33,(Iv (p2.length:Int))),(34,(Iv aU)),(59,(.bool ((!((decide (aU<(x1.nodes.length:Int)))==(decide (0≤x4.a))))||((decide (0≤x4.a))&&(!decide (x4.a=aU)))))),(60,(Pv b25 0)),(61,(Iv x4.a)),(62,(.bool (decide (x4.a<0)))),(63,(.bool (decide (x4.a<0))))] a∧Hp Z ρy1 (Pt b25 (.cells #[(Iv x4.a),(Iv x4.b)] 46 (0,0))::aC 46 w14 dR::aC 4 w5 fQ::Pt y4 (.cells #[yv1,yv2,yv3] 75 (0,0))::Pt y3 (.cells #[yv4,yv5,yv6] 75 (0,0))::Pt b2 (.cells #[(Iv p1.kind),(.string p1.text),(Iv p1.at_),(Iv p1.fin),aJ] 24 (0,0))::Pt b1 (.cells #[(Iv p0.kind),(.string p0.text),(Iv p0.at_),(Iv p0.fin),aI] 24 (0,0))::L) w) ?_ ?_
     ·rcases Bool.eq_false_or_eq_true (decide (x4.a<0)) with hc7|hc7
      ·
       refine G hE hp hc7 rfl (xf hE fA rfl rfl) fun a hE=>G hE hp hc7 rfl (xl hE aT 0 rfl rfl rfl rfl) fun a hE=>Gs hE hc7 rfl rfl fun a hE=>G hE hp hc6 rfl (iD rfl hE rfl hc7 rfl) fun a hE=>?_
       have hE:=hE.eqv (v':=(.bool ((decide (x4.a<0))&&(!decide (x4.a=(-1)))))) (by rw[hc7];rfl)
       exact aB ⟨hE.cut ⟨rfl,rfl,rfl,rfl,rfl,rfl,rfl,rfl,rfl,rfl,rfl,rfl,rfl,rfl,rfl,trivial⟩,hp⟩
      refine Gk hE hc7 rfl fun a hE=>Gk hE hc7 rfl fun a hE=>Gk hE hc7 rfl fun a hE=>G hE hp hc6 rfl (gQ rfl hE rfl hc7 rfl) fun a hE=>?_
      have hE:=hE.eqv (v':=(.bool ((decide (x4.a<0))&&(!decide (x4.a=(-1)))))) (by rw[hc7];rfl)
      exact aB ⟨hE.cut ⟨rfl,rfl,rfl,rfl,rfl,rfl,rfl,rfl,rfl,rfl,rfl,rfl,rfl,rfl,rfl,trivial⟩,hp⟩
     rintro a w ⟨hE,hp⟩
     refine pk0 hE hc6 rfl rfl rfl rfl fun a hE=>?_
     have hE:=hE.eqv (v':=(.bool (((!((decide (aU<(x1.nodes.length:Int)))==(decide (0≤x4.a))))||((decide (0≤x4.a))&&(!decide (x4.a=aU))))||((decide (x4.a<0))&&(!decide (x4.a=(-1))))))) (by rw[hc6];rfl)
     exact aB ⟨hE.cut ⟨rfl,rfl,rfl,rfl,rfl,rfl,rfl,rfl,rfl,rfl,trivial⟩,hp⟩
    rintro a w ⟨hE,hp⟩
    refine S hE 1 rfl fun a hE=>?_
    refine iL [_,_,_,_] (fun a w=>Env 174 [(73,(.bool ((((!((decide (aU<(x1.nodes.length:Int)))==(decide (0≤x4.a))))||((decide (0≤x4.a))&&(!decide (x4.a=aU))))||((decide (x4.a<0))&&(!decide (x4.a=(-1)))))||(decide (x4.b<(-1)))))),(7,(Pv y3 0)),(8,(Pv y4 0)),(9,w5),(10,w14),(11,(Iv aP)),(13,(Pv b25 0)),(32,vp2),(33,(Iv (p2.length:Int))),(34,(Iv aU))] a∧Hp Z ρy1 (Pt b25 (.cells #[(Iv x4.a),(Iv x4.b)] 46 (0,0))::aC 46 w14 dR::aC 4 w5 fQ::Pt y4 (.cells #[yv1,yv2,yv3] 75 (0,0))::Pt y3 (.cells #[yv4,yv5,yv6] 75 (0,0))::Pt b2 (.cells #[(Iv p1.kind),(.string p1.text),(Iv p1.at_),(Iv p1.fin),aJ] 24 (0,0))::Pt b1 (.cells #[(Iv p0.kind),(.string p0.text),(Iv p0.at_),(Iv p0.fin),aI] 24 (0,0))::L) w) ?_ ?_
    ·rcases Bool.eq_false_or_eq_true (((!((decide (aU<(x1.nodes.length:Int)))==(decide (0≤x4.a))))||((decide (0≤x4.a))&&(!decide (x4.a=aU))))||((decide (x4.a<0))&&(!decide (x4.a=(-1))))) with hc8|hc8
     ·
      refine Gk hE hc8 rfl fun a hE=>Gk hE hc8 rfl fun a hE=>Gk hE hc8 rfl fun a hE=>pk1 hE hc8 rfl rfl rfl rfl fun a hE=>?_
      have hE:=hE.eqv (v':=(.bool ((((!((decide (aU<(x1.nodes.length:Int)))==(decide (0≤x4.a))))||((decide (0≤x4.a))&&(!decide (x4.a=aU))))||((decide (x4.a<0))&&(!decide (x4.a=(-1)))))||(decide (x4.b<(-1)))))) (by rw[hc8];rfl)
      exact aB ⟨hE.cut ⟨rfl,rfl,rfl,rfl,rfl,rfl,rfl,rfl,rfl,rfl,trivial⟩,hp⟩
     refine G hE hp hc8 rfl (xf hE dK rfl rfl) fun a hE=>G hE hp hc8 rfl (xl hE aT 0 rfl rfl rfl rfl) fun a hE=>Gs hE hc8 rfl rfl fun a hE=>pk0 hE hc8 rfl rfl rfl rfl fun a hE=>?_
     have hE:=hE.eqv (v':=(.bool ((((!((decide (aU<(x1.nodes.length:Int)))==(decide (0≤x4.a))))||((decide (0≤x4.a))&&(!decide (x4.a=aU))))||((decide (x4.a<0))&&(!decide (x4.a=(-1)))))||(decide (x4.b<(-1)))))) (by rw[hc8];rfl)
     exact aB ⟨hE.cut ⟨rfl,rfl,rfl,rfl,rfl,rfl,rfl,rfl,rfl,rfl,trivial⟩,hp⟩
    rintro a w ⟨hE,hp⟩
    refine S hE 1 rfl fun a hE=>?_
    refine iL [_,_,_,_,_,_] (fun a w=>Env 174 [(80,(.bool (((((!((decide (aU<(x1.nodes.length:Int)))==(decide (0≤x4.a))))||((decide (0≤x4.a))&&(!decide (x4.a=aU))))||((decide (x4.a<0))&&(!decide (x4.a=(-1)))))||(decide (x4.b<(-1))))||(decide ((fQ.length:Int)≤x4.b))))),(7,(Pv y3 0)),(8,(Pv y4 0)),(9,w5),(10,w14),(11,(Iv aP)),(13,(Pv b25 0)),(32,vp2),(33,(Iv (p2.length:Int))),(34,(Iv aU))] a∧Hp Z ρy1 (Pt b25 (.cells #[(Iv x4.a),(Iv x4.b)] 46 (0,0))::aC 46 w14 dR::aC 4 w5 fQ::Pt y4 (.cells #[yv1,yv2,yv3] 75 (0,0))::Pt y3 (.cells #[yv4,yv5,yv6] 75 (0,0))::Pt b2 (.cells #[(Iv p1.kind),(.string p1.text),(Iv p1.at_),(Iv p1.fin),aJ] 24 (0,0))::Pt b1 (.cells #[(Iv p0.kind),(.string p0.text),(Iv p0.at_),(Iv p0.fin),aI] 24 (0,0))::L) w) ?_ ?_
    ·rcases Bool.eq_false_or_eq_true ((((!((decide (aU<(x1.nodes.length:Int)))==(decide (0≤x4.a))))||((decide (0≤x4.a))&&(!decide (x4.a=aU))))||((decide (x4.a<0))&&(!decide (x4.a=(-1)))))||(decide (x4.b<(-1)))) with hc9|hc9
     ·
      refine Gk hE hc9 rfl fun a hE=>Gk hE hc9 rfl fun a hE=>Gk hE hc9 rfl fun a hE=>Gk hE hc9 rfl fun a hE=>Gk hE hc9 rfl fun a hE=>pk1 hE hc9 rfl rfl rfl rfl fun a hE=>?_
      have hE:=hE.eqv (v':=(.bool (((((!((decide (aU<(x1.nodes.length:Int)))==(decide (0≤x4.a))))||((decide (0≤x4.a))&&(!decide (x4.a=aU))))||((decide (x4.a<0))&&(!decide (x4.a=(-1)))))||(decide (x4.b<(-1))))||(decide ((fQ.length:Int)≤x4.b))))) (by rw[hc9];rfl)
      exact aB ⟨hE.cut ⟨rfl,rfl,rfl,rfl,rfl,rfl,rfl,rfl,rfl,rfl,trivial⟩,hp⟩
     refine G hE hp hc9 rfl (xf hE dK rfl rfl) fun a hE=>G hE hp hc9 rfl (xl hE aT 0 rfl rfl rfl rfl) fun a hE=>Gs hE hc9 rfl rfl fun a hE=>G hE hp hc9 rfl (bT rfl hE rfl (aC.len hp 2 rfl rH)) fun a hE=>Gs hE hc9 rfl rfl fun a hE=>pk0 hE hc9 rfl rfl rfl rfl fun a hE=>?_
     have hE:=hE.eqv (v':=(.bool (((((!((decide (aU<(x1.nodes.length:Int)))==(decide (0≤x4.a))))||((decide (0≤x4.a))&&(!decide (x4.a=aU))))||((decide (x4.a<0))&&(!decide (x4.a=(-1)))))||(decide (x4.b<(-1))))||(decide ((fQ.length:Int)≤x4.b))))) (by rw[hc9];rfl)
     exact aB ⟨hE.cut ⟨rfl,rfl,rfl,rfl,rfl,rfl,rfl,rfl,rfl,rfl,trivial⟩,hp⟩
    rintro a w ⟨hE,hp⟩
    refine S hE 1 rfl fun a hE=>?_
    refine iL [_,_,_,_,_,_,_,_,_,_] (fun a w=>Env 174 [(91,(.bool ((((((!((decide (aU<(x1.nodes.length:Int)))==(decide (0≤x4.a))))||((decide (0≤x4.a))&&(!decide (x4.a=aU))))||((decide (x4.a<0))&&(!decide (x4.a=(-1)))))||(decide (x4.b<(-1))))||(decide ((fQ.length:Int)≤x4.b)))||((decide (x4.a<0))&&(decide (x4.b≤aP)))))),(7,(Pv y3 0)),(8,(Pv y4 0)),(9,w5),(10,w14),(11,(Iv aP)),(13,(Pv b25 0)),(32,vp2),(33,(Iv (p2.length:Int))),(34,(Iv aU))] a∧Hp Z ρy1 (Pt b25 (.cells #[(Iv x4.a),(Iv x4.b)] 46 (0,0))::aC 46 w14 dR::aC 4 w5 fQ::Pt y4 (.cells #[yv1,yv2,yv3] 75 (0,0))::Pt y3 (.cells #[yv4,yv5,yv6] 75 (0,0))::Pt b2 (.cells #[(Iv p1.kind),(.string p1.text),(Iv p1.at_),(Iv p1.fin),aJ] 24 (0,0))::Pt b1 (.cells #[(Iv p0.kind),(.string p0.text),(Iv p0.at_),(Iv p0.fin),aI] 24 (0,0))::L) w) ?_ ?_
    ·rcases Bool.eq_false_or_eq_true (((((!((decide (aU<(x1.nodes.length:Int)))==(decide (0≤x4.a))))||((decide (0≤x4.a))&&(!decide (x4.a=aU))))||((decide (x4.a<0))&&(!decide (x4.a=(-1)))))||(decide (x4.b<(-1))))||(decide ((fQ.length:Int)≤x4.b))) with hc10|hc10
     ·
      refine Gk hE hc10 rfl fun a hE=>Gk hE hc10 rfl fun a hE=>Gk hE hc10 rfl fun a hE=>Gk hE hc10 rfl fun a hE=>?_
      refine sK (wk3 hE rfl rfl rfl) rfl rfl hE ?_
      intro a hE
      refine sK (wk3 hE rfl rfl rfl) rfl rfl hE ?_
      intro a hE
      refine sK (wk3 hE rfl rfl rfl) rfl rfl hE ?_
      intro a hE
      refine sK (wk3 hE rfl rfl rfl) rfl rfl hE ?_
      intro a hE
      refine Gk hE hc10 rfl fun a hE=>pk1 hE hc10 rfl rfl rfl rfl fun a hE=>?_
      have hE:=hE.eqv (v':=(.bool ((((((!((decide (aU<(x1.nodes.length:Int)))==(decide (0≤x4.a))))||((decide (0≤x4.a))&&(!decide (x4.a=aU))))||((decide (x4.a<0))&&(!decide (x4.a=(-1)))))||(decide (x4.b<(-1))))||(decide ((fQ.length:Int)≤x4.b)))||((decide (x4.a<0))&&(decide (x4.b≤aP)))))) (by rw[hc10];rfl)
      exact aB ⟨hE.cut ⟨rfl,rfl,rfl,rfl,rfl,rfl,rfl,rfl,rfl,rfl,trivial⟩,hp⟩
     refine G hE hp hc10 rfl (xf hE fA rfl rfl) fun a hE=>G hE hp hc10 rfl (xl hE aT 0 rfl rfl rfl rfl) fun a hE=>Gs hE hc10 rfl rfl fun a hE=>Gs hE hc10 rfl rfl fun a hE=>?_
     refine iL [_,_,_,_,_] (fun a w=>Env 174 [(90,(.bool ((decide (x4.a<0))&&(decide (x4.b≤aP))))),(7,(Pv y3 0)),(8,(Pv y4 0)),(9,w5),(10,w14),(11,(Iv aP)),(13,(Pv b25 0)),(32,vp2),(33,(Iv (p2.length:Int))),(34,(Iv aU)),(81,(.bool (((((!((decide (aU<(x1.nodes.length:Int)))==(decide (0≤x4.a))))||((decide (0≤x4.a))&&(!decide (x4.a=aU))))||((decide (x4.a<0))&&(!decide (x4.a=(-1)))))||(decide (x4.b<(-1))))||(decide ((fQ.length:Int)≤x4.b))))),(82,(Pv b25 0)),(83,(Iv x4.a)),(84,(.bool (decide (x4.a<0)))),(85,(.bool (decide (x4.a<0))))] a∧Hp Z ρy1 (Pt b25 (.cells #[(Iv x4.a),(Iv x4.b)] 46 (0,0))::aC 46 w14 dR::aC 4 w5 fQ::Pt y4 (.cells #[yv1,yv2,yv3] 75 (0,0))::Pt y3 (.cells #[yv4,yv5,yv6] 75 (0,0))::Pt b2 (.cells #[(Iv p1.kind),(.string p1.text),(Iv p1.at_),(Iv p1.fin),aJ] 24 (0,0))::Pt b1 (.cells #[(Iv p0.kind),(.string p0.text),(Iv p0.at_),(Iv p0.fin),aI] 24 (0,0))::L) w) ?_ ?_
     ·rcases Bool.eq_false_or_eq_true (decide (x4.a<0)) with hc11|hc11
      ·
       refine G hE hp hc11 rfl (xf hE dK rfl rfl) fun a hE=>G hE hp hc11 rfl (xl hE aT 0 rfl rfl rfl rfl) fun a hE=>Gs hE hc11 rfl rfl fun a hE=>Gs hE hc11 rfl rfl fun a hE=>G hE hp hc10 rfl (iD rfl hE rfl hc11 rfl) fun a hE=>?_
       have hE:=hE.eqv (v':=(.bool ((decide (x4.a<0))&&(decide (x4.b≤aP))))) (by rw[hc11];rfl)
       exact aB ⟨hE.cut ⟨rfl,rfl,rfl,rfl,rfl,rfl,rfl,rfl,rfl,rfl,rfl,rfl,rfl,rfl,rfl,trivial⟩,hp⟩
      refine Gk hE hc11 rfl fun a hE=>Gk hE hc11 rfl fun a hE=>Gk hE hc11 rfl fun a hE=>Gk hE hc11 rfl fun a hE=>G hE hp hc10 rfl (gQ rfl hE rfl hc11 rfl) fun a hE=>?_
      have hE:=hE.eqv (v':=(.bool ((decide (x4.a<0))&&(decide (x4.b≤aP))))) (by rw[hc11];rfl)
      exact aB ⟨hE.cut ⟨rfl,rfl,rfl,rfl,rfl,rfl,rfl,rfl,rfl,rfl,rfl,rfl,rfl,rfl,rfl,trivial⟩,hp⟩
     rintro a w ⟨hE,hp⟩
     refine pk0 hE hc10 rfl rfl rfl rfl fun a hE=>?_
     have hE:=hE.eqv (v':=(.bool ((((((!((decide (aU<(x1.nodes.length:Int)))==(decide (0≤x4.a))))||((decide (0≤x4.a))&&(!decide (x4.a=aU))))||((decide (x4.a<0))&&(!decide (x4.a=(-1)))))||(decide (x4.b<(-1))))||(decide ((fQ.length:Int)≤x4.b)))||((decide (x4.a<0))&&(decide (x4.b≤aP)))))) (by rw[hc10];rfl)
     exact aB ⟨hE.cut ⟨rfl,rfl,rfl,rfl,rfl,rfl,rfl,rfl,rfl,rfl,trivial⟩,hp⟩
    rintro a w ⟨hE,hp⟩
    refine aB ?_
    refine dE hE rfl (fun hc12=>?_) (fun hc12=>?_)
    ·replace hj1:=(it hc12).symm.trans hj1
     refine aG (aA ?_)
     refine S hE 1 rfl fun a hE=>aB (bZ ?_)
     obtain rfl:=oj hj1
     refine⟨_,(oj hl1).symm,fun hb=>?_⟩
     subst hb
     obtain rfl:=oj hm
     exact gJ hE rfl rfl ⟨_,rfl,rfl,((((((((((((((hp.get 6 rfl).drop).get 5 rfl).drop).get 4 rfl).drop).get 3 rfl).drop).get 2 rfl).drop).get 1 rfl).drop).drop).less hley1)⟩
    replace hj1:=(ie hc12).symm.trans hj1
    refine aZ (aG ?_)
    refine aG (aA ?_)
    refine V hE hp rfl (xf hE fA rfl rfl) fun a hE=>V hE hp rfl (xl hE aT 0 rfl rfl rfl rfl) fun a hE=>S hE 1 rfl fun a hE=>aB ?_
    obtain⟨j2,hj2,hj1⟩:=bnd hj1
    refine k_cut (fun a w=>Env 174 [(7,(Pv y3 0)),(8,(Pv y4 0)),(9,w5),(10,w14),(11,(Iv j2)),(13,(Pv b25 0)),(32,vp2),(33,(Iv (p2.length:Int))),(34,(Iv aU))] a∧Hp Z ρy1 (Pt b25 (.cells #[(Iv x4.a),(Iv x4.b)] 46 (0,0))::aC 46 w14 dR::aC 4 w5 fQ::Pt y4 (.cells #[yv1,yv2,yv3] 75 (0,0))::Pt y3 (.cells #[yv4,yv5,yv6] 75 (0,0))::Pt b2 (.cells #[(Iv p1.kind),(.string p1.text),(Iv p1.at_),(Iv p1.fin),aJ] 24 (0,0))::Pt b1 (.cells #[(Iv p0.kind),(.string p0.text),(Iv p0.at_),(Iv p0.fin),aI] 24 (0,0))::L) w) ?_ ?_
    ·
     refine dE hE rfl (fun hc13=>?_) (fun hc13=>?_)
     ·replace hj2:=(it hc13).symm.trans hj2
      refine aA (V hE hp rfl (xf hE dK rfl rfl) fun a hE=>?_)
      refine V hE hp rfl (xl hE aT 0 rfl rfl rfl rfl) fun a hE=>S hE 1 rfl fun a hE=>aB ?_
      obtain rfl:=oj hj2
      exact⟨hE.cut ⟨rfl,rfl,rfl,rfl,rfl,rfl,rfl,rfl,rfl,trivial⟩,hp⟩
     replace hj2:=(ie hc13).symm.trans hj2
     refine aZ ?_
     obtain rfl:=oj hj2
     exact⟨hE.cut ⟨rfl,rfl,rfl,rfl,rfl,rfl,rfl,rfl,rfl,trivial⟩,hp⟩
    rintro a w ⟨hE,hp⟩
    refine aG (aG ?_)
    refine aA (V hE hp rfl (xf hE dK rfl rfl) fun a hE=>?_)
    refine V hE hp rfl (xl hE aT 0 rfl rfl rfl rfl) fun a hE=>S hE 1 rfl fun a hE=>aB ?_
    refine dE hE rfl (fun hc14=>?_) (fun hc14=>?_)
    ·replace hj1:=(it hc14).symm.trans hj1
     refine dS ?_
     obtain rfl:=oj hj1
     exact⟨_,rfl,_,_,hE.cut ⟨rfl,rfl,rfl,rfl,rfl,rfl,rfl,rfl,trivial⟩,(hp.drop)⟩
    replace hj1:=(ie hc14).symm.trans hj1
    refine aZ (aG ?_)
    refine aG (aA ?_)
    refine S hE 1 rfl fun a hE=>V hE hp rfl (xf hE dK rfl rfl) fun a hE=>V hE hp rfl (xl hE aT 0 rfl rfl rfl rfl) fun a hE=>?_
    obtain⟨x5,ex5,hj1⟩:=bnd hj1
    obtain⟨b26,b26o,b26r,b26v,b26f⟩:=aC.at hp 2 rfl rH ex5
    refine V hE hp rfl (aN rfl hE rfl rfl b26r) fun a hE=>V hE hp rfl (aK rfl hE rfl (fun w hw=>aV vH (b26f 0 _ rfl _ _ w (hw.get 2 rfl)))) fun a hE=>aB ?_
    have hE:=hE.cut (E':=[(7,(Pv y3 0)),(8,(Pv y4 0)),(9,w5),(10,w14),(11,(Iv j2)),(13,(Pv b25 0)),(32,vp2),(33,(Iv (p2.length:Int))),(34,(Iv aU)),(104,(.bool x5))]) ⟨rfl,rfl,rfl,rfl,rfl,rfl,rfl,rfl,rfl,rfl,trivial⟩
    refine dE hE rfl (fun hc15=>?_) (fun hc15=>?_)
    ·replace hj1:=(it hc15).symm.trans hj1
     refine aG (aA ?_)
     refine S hE 1 rfl fun a hE=>aB (bZ ?_)
     obtain rfl:=oj hj1
     refine⟨_,(oj hl1).symm,fun hb=>?_⟩
     subst hb
     obtain rfl:=oj hm
     exact gJ hE rfl rfl ⟨_,rfl,rfl,((((((((((((((hp.get 6 rfl).drop).get 5 rfl).drop).get 4 rfl).drop).get 3 rfl).drop).get 2 rfl).drop).get 1 rfl).drop).drop).less hley1)⟩
    replace hj1:=(ie hc15).symm.trans hj1
    refine aZ (aG ?_)
    refine aA (S hE 1 rfl fun a hE=>?_)
    refine V hE hp rfl (xf hE dK rfl rfl) fun a hE=>V hE hp rfl (xl hE aT 0 rfl rfl rfl rfl) fun a hE=>?_
    obtain⟨x6,ex6,hj1⟩:=bnd hj1
    obtain⟨b27,b27o,b27r,b27v,b27f⟩:=aC.at hp 2 rfl rH ex6
    refine V hE hp rfl (aN rfl hE rfl rfl b27r) fun a hE=>?_
    refine zF (wk0 rfl) rfl hE hp rfl rfl rfl 2 rfl ex6 b27v 0 (e':=true) vH.size_ rfl rfl rfl ⟨rfl,rfl⟩ ?_
    intro w hp
    have hp:=r7 hp
    refine aB (aG ?_)
    refine aA (V hE hp rfl (xf hE fA rfl rfl) fun a hE=>?_)
    refine V hE hp rfl (xl hE aT 0 rfl rfl rfl rfl) fun a hE=>S hE 1 rfl fun a hE=>aB ?_
    refine dE hE rfl (fun hc16=>?_) (fun hc16=>?_)
    ·replace hj1:=(it hc16).symm.trans hj1
     refine aA (S hE 1 rfl fun a hE=>?_)
     refine V hE hp rfl (aK rfl hE rfl (fun w hw=>aW (cs:=[(Iv x4.a),(Iv x4.b)]) fF (Hp.cN 0 rfl 0 _ (aS rfl) w hw))) fun a hE=>?_
     refine fP (wk0 rfl) rfl rfl hE hp rfl [(0,(.agg #[(Iv x4.a),(Iv x4.b)]))] ⟨⟨rfl,rfl⟩,trivial⟩ [(Iv x4.a),(Iv x4.b)] 46 (fun w=>by simp[Instr.buildSlice,Instr.fill,Value.cells,go_sem]) ?_
     intro a w b28 hE hp
     have hp:=r8 hp
     obtain⟨x7,ex7,hj1⟩:=bnd hj1
     refine fU (wk0 rfl) rfl rfl hE hp rfl dW rfl rfl 2 rfl rfl (l2:=[x4]) rfl (fun j u hj=>by have:=Hp.cN 0 rfl 0 _ (aS rfl) w hp j u hj;simpa using this) ex7 ?_
     intro v2 a w hE hp
     have hp:=r8 hp
     refine S hE 1 rfl fun a hE=>aB ?_
     obtain rfl:=oj hj1
     exact⟨_,rfl,_,_,hE.cut ⟨rfl,rfl,rfl,rfl,rfl,rfl,rfl,rfl,trivial⟩,(((hp.get 1 rfl).drop).drop)⟩
    replace hj1:=(ie hc16).symm.trans hj1
    refine aZ ?_
    obtain rfl:=oj hj1
    exact⟨_,rfl,_,_,hE.cut ⟨rfl,rfl,rfl,rfl,rfl,rfl,rfl,rfl,trivial⟩,(hp.drop)⟩
   rintro a w ⟨j1s,rfl,w14,w5,hE,hp⟩
   dsimp only at hl1
   refine aA ?_
   obtain⟨x8,ex8,hl1⟩:=bnd hl1
   refine V hE hp rfl (bF rfl hE rfl rfl (aO ex8)) fun a hE=>S hE 1 rfl fun a hE=>aB ?_
   have hE:=hE.cut (E':=[(7,(Pv y3 0)),(8,(Pv y4 0)),(9,w5),(10,w14),(11,(Iv j1s.1)),(32,vp2),(33,(Iv (p2.length:Int))),(34,(Iv x8))]) ⟨rfl,rfl,rfl,rfl,rfl,rfl,rfl,rfl,trivial⟩
   exact⟨_,(oj hl1).symm,_,_,hE.cut ⟨rfl,rfl,rfl,rfl,rfl,rfl,rfl,rfl,trivial⟩,hp⟩
  replace hl1:=(ie hc3).symm.trans hl1
  refine dS ?_
  refine⟨_,(oj hl1).symm,fun hbb=>?_⟩
  exact⟨_,hbb.symm,_,_,hE.cut ⟨rfl,rfl,rfl,rfl,trivial⟩,hp⟩
 rintro a w ⟨b23s,rfl,w14,w5,hE,hp⟩
 dsimp only at hm
 refine aG (aG ?_)
 refine aA (S hE 1 rfl fun a hE=>?_)
 refine V hE hp rfl (bT rfl hE rfl (aC.len hp 0 rfl dW)) fun a hE=>S hE 1 rfl fun a hE=>aB ?_
 obtain⟨b29,hc17,hm⟩:=bnd hm
 refine dH (fun a w=>∃s:Unit,b29= .brk s∧(Env 174 [(9,w5)] a∧Hp Z ρy1 (aC 46 w14 b23s.1::aC 4 w5 b23s.2::Pt y4 (.cells #[yv1,yv2,yv3] 75 (0,0))::Pt y3 (.cells #[yv4,yv5,yv6] 75 (0,0))::Pt b2 (.cells #[(Iv p1.kind),(.string p1.text),(Iv p1.at_),(Iv p1.fin),aJ] 24 (0,0))::Pt b1 (.cells #[(Iv p0.kind),(.string p0.text),(Iv p0.at_),(Iv p0.fin),aI] 24 (0,0))::L) w)) ?_ ?_
 ·refine dZ hc17 (fun s a w=>Env 174 [(7,(Pv y3 0)),(8,(Pv y4 0)),(9,w5),(10,w14),(117,w14),(118,(Iv (b23s.1.length:Int))),(119,(Iv s))] a∧Hp Z ρy1 (aC 46 w14 b23s.1::aC 4 w5 b23s.2::Pt y4 (.cells #[yv1,yv2,yv3] 75 (0,0))::Pt y3 (.cells #[yv4,yv5,yv6] 75 (0,0))::Pt b2 (.cells #[(Iv p1.kind),(.string p1.text),(Iv p1.at_),(Iv p1.fin),aJ] 24 (0,0))::Pt b1 (.cells #[(Iv p0.kind),(.string p0.text),(Iv p0.at_),(Iv p0.fin),aI] 24 (0,0))::L) w) ?_ ?_
  ·exact⟨hE.cut ⟨rfl,rfl,rfl,rfl,rfl,rfl,rfl,trivial⟩,hp⟩
  rintro bJ st a w ⟨hE,hp⟩ hl2
  unfold nC at hl2
  refine aG (aA ?_)
  refine S hE 1 rfl fun a hE=>aB (aG ?_)
  refine dE hE rfl (fun hc18=>?_) (fun hc18=>?_)
  ·replace hl2:=(it hc18).symm.trans hl2
   refine aZ (aG ?_)
   refine dM (aG ?_)
   refine aA (S hE 1 rfl fun a hE=>?_)
   obtain⟨x9,ex9,hl2⟩:=bnd hl2
   obtain⟨b30,b30o,b30r,b30v,b30f⟩:=aC.at hp 0 rfl dW ex9
   refine V hE hp rfl (aN rfl hE rfl rfl b30r) fun a hE=>V hE hp rfl (aK rfl hE rfl (fun w hw=>aW (cs:=[(Iv x9.a),(Iv x9.b)]) fF (fun j u hj=>b30f j u hj _ _ w (hw.get 0 rfl)))) fun a hE=>?_
   refine dL (wk0 rfl) rfl rfl hE hp rfl [(Iv 0),(Iv 0)] (fun w=>by simp[Instr.alloc,go_sem]<;>rfl) ?_
   intro a w b31 hE hp
   have hp:=r7 hp
   refine S hE 1 rfl fun a hE=>?_
   refine aX (wk0 rfl) rfl hE hp rfl rfl rfl 0 rfl fF.size_ rfl (aQ ⟨rfl,rfl,trivial⟩) [(Iv x9.a),(Iv x9.b)] rfl ?_
   intro w hp
   have hp:=r7 hp
   refine aB (aG ?_)
   refine aA (S hE 2 rfl fun a hE=>?_)
   obtain⟨x10,ex10,hl2⟩:=bnd hl2
   obtain⟨v3,v3r,v3f⟩:=aC.viewF hp 1 rfl dW none (some (.i64,bJ)) rfl rfl ex10
   refine V hE hp rfl (v:=v3) (pM rfl hE rfl none (some (.i64,bJ)) (by exact trivial) (by exact rfl) v3r) fun a hE=>V hE hp rfl (bT rfl hE rfl (ViewF.len v3f hp 1 rfl dW)) fun a hE=>S hE 1 rfl fun a hE=>aB ?_
   have hE:=hE.cut (E':=[(7,(Pv y3 0)),(8,(Pv y4 0)),(9,w5),(10,w14),(15,(Pv b31 0)),(117,w14),(118,(Iv (b23s.1.length:Int))),(119,(Iv bJ)),(126,v3),(127,(Iv (x10.length:Int))),(128,(Iv 0))]) ⟨rfl,rfl,rfl,rfl,rfl,rfl,rfl,rfl,rfl,rfl,rfl,trivial⟩
   obtain⟨b32,hc19,hl2⟩:=bnd hl2
   refine dH (fun a w=>∃s:Unit,b32= .brk s∧(Env 174 [(7,(Pv y3 0)),(8,(Pv y4 0)),(9,w5),(10,w14),(117,w14),(118,(Iv (b23s.1.length:Int))),(119,(Iv bJ))] a∧Hp Z ρy1 (Pt b31 (.cells #[(Iv x9.a),(Iv x9.b)] 46 (0,0))::aC 46 w14 b23s.1::aC 4 w5 b23s.2::Pt y4 (.cells #[yv1,yv2,yv3] 75 (0,0))::Pt y3 (.cells #[yv4,yv5,yv6] 75 (0,0))::Pt b2 (.cells #[(Iv p1.kind),(.string p1.text),(Iv p1.at_),(Iv p1.fin),aJ] 24 (0,0))::Pt b1 (.cells #[(Iv p0.kind),(.string p0.text),(Iv p0.at_),(Iv p0.fin),aI] 24 (0,0))::L) w)) ?_ ?_
   ·refine dZ hc19 (fun s a w=>Env 174 [(7,(Pv y3 0)),(8,(Pv y4 0)),(9,w5),(10,w14),(15,(Pv b31 0)),(117,w14),(118,(Iv (b23s.1.length:Int))),(119,(Iv bJ)),(126,v3),(127,(Iv (x10.length:Int))),(128,(Iv s))] a∧Hp Z ρy1 (Pt b31 (.cells #[(Iv x9.a),(Iv x9.b)] 46 (0,0))::aC 46 w14 b23s.1::aC 4 w5 b23s.2::Pt y4 (.cells #[yv1,yv2,yv3] 75 (0,0))::Pt y3 (.cells #[yv4,yv5,yv6] 75 (0,0))::Pt b2 (.cells #[(Iv p1.kind),(.string p1.text),(Iv p1.at_),(Iv p1.fin),aJ] 24 (0,0))::Pt b1 (.cells #[(Iv p0.kind),(.string p0.text),(Iv p0.at_),(Iv p0.fin),aI] 24 (0,0))::L) w) ?_ ?_
    ·exact⟨hE.cut ⟨rfl,rfl,rfl,rfl,rfl,rfl,rfl,rfl,rfl,rfl,rfl,trivial⟩,hp⟩
    rintro eQ st a w ⟨hE,hp⟩ hl3
    unfold rQ at hl3
    refine aG (aA ?_)
    refine S hE 1 rfl fun a hE=>aB (aG ?_)
    refine dE hE rfl (fun hc20=>?_) (fun hc20=>?_)
    ·replace hl3:=(it hc20).symm.trans hl3
     refine aZ (aG ?_)
     refine dM (aG ?_)
     refine aA ?_
     obtain⟨x11,ex11,hl3⟩:=bnd hl3
     obtain⟨b33,b33o,b33r,b33f⟩:=ViewF.at v3f hp 1 rfl dW ex11
     refine V hE hp rfl (aN rfl hE rfl rfl b33r) fun a hE=>V hE hp rfl (aK rfl hE rfl (fun w hw=>aW (cs:=[(Iv x11.a),(Iv x11.b)]) fF (fun j u hj=>b33f j u hj _ _ w (hw.get 1 rfl)))) fun a hE=>?_
     refine dL (wk0 rfl) rfl rfl hE hp rfl [(Iv 0),(Iv 0)] (fun w=>by simp[Instr.alloc,go_sem]<;>rfl) ?_
     intro a w b34 hE hp
     have hp:=r8 hp
     refine aX (wk0 rfl) rfl hE hp rfl rfl rfl 0 rfl fF.size_ rfl (aQ ⟨rfl,rfl,trivial⟩) [(Iv x11.a),(Iv x11.b)] rfl ?_
     intro w hp
     have hp:=r8 hp
     refine aB (aG ?_)
     refine jR (by kernel_rfl) (by kernel_rfl) hp ?_
     refine Vq hE rfl (xf hE dK rfl rfl) fun a hE=>Vq hE rfl (xl hE aT 0 rfl rfl rfl rfl) fun a hE=>Vq hE rfl (xf hE dK rfl rfl) fun a hE=>Vq hE rfl (xl hE aT 1 rfl rfl rfl rfl) fun a hE=>Sq hE 2 rfl fun a hE=>?_
     obtain⟨m1,hg1,hl3⟩:=bnd hl3
     refine Q9 [_,_,_,_,_,_,_,_] (fun a=>Env 174 [(145,(.bool m1)),(7,(Pv y3 0)),(8,(Pv y4 0)),(9,w5),(10,w14),(15,(Pv b31 0)),(17,(Pv b34 0)),(117,w14),(118,(Iv (b23s.1.length:Int))),(119,(Iv bJ)),(126,v3),(127,(Iv (x10.length:Int))),(128,(Iv eQ))] a) ?_ ?_
     ·rcases Bool.eq_false_or_eq_true (decide (x9.b<x11.b)) with hc21|hc21
      ·
       replace hg1:=(it hc21).symm.trans hg1
       refine Gq hE hc21 rfl (aK rfl hE rfl (fun w hw=>aW (cs:=[yv1,yv2,yv3]) dD (Hp.cN 4 rfl 0 _ (aS rfl) w hw))) fun a hE=>Gq hE hc21 rfl (xf hE dK rfl rfl) fun a hE=>Gq hE hc21 rfl (xl hE aT 1 rfl rfl rfl rfl) fun a hE=>Gq hE hc21 rfl (xf hE dK rfl rfl) fun a hE=>Gq hE hc21 rfl (xl hE aT 0 rfl rfl rfl rfl) fun a hE=>?_
       obtain⟨x12,ex12,hg1⟩:=bnd hg1
       refine Y7 (wk1 hE rfl rfl rfl hc21) rfl rfl hE rfl [(.agg #[yv1,yv2,yv3]),(Iv x9.b),(Iv x11.b)] ⟨rfl,rfl,rfl,trivial⟩ ent45 (v:=(.bool x12)) (fun w hw=>Calls.mono (kJ x2 yv1 yh1 yv2 yh2 yv3 yh3 x9.b x11.b hw x12 ex12) fun e w' ⟨v,he,hv,hh⟩=>⟨by rw[he,hv],hh⟩) ?_
       intro a hE
       refine Gq hE hc21 rfl (ex_not rfl hE rfl) fun a hE=>Vq hE rfl (v:=(.bool (!x12))) (iD rfl hE rfl hc21 rfl) fun a hE=>?_
       obtain rfl:=oj hg1
       exact iM (hE.cut ⟨rfl,rfl,rfl,rfl,rfl,rfl,rfl,rfl,rfl,rfl,rfl,rfl,rfl,trivial⟩)
      replace hg1:=(ie hc21).symm.trans hg1
      refine Gkq hE hc21 rfl fun a hE=>Gkq hE hc21 rfl fun a hE=>Gkq hE hc21 rfl fun a hE=>Gkq hE hc21 rfl fun a hE=>Gkq hE hc21 rfl fun a hE=>Gkq hE hc21 rfl fun a hE=>Gkq hE hc21 rfl fun a hE=>?_
      refine Vq hE rfl (v:=(.bool false)) (gQ rfl hE rfl hc21 rfl) fun a hE=>?_
      obtain rfl:=oj hg1
      exact iM (hE.cut ⟨rfl,rfl,rfl,rfl,rfl,rfl,rfl,rfl,rfl,rfl,rfl,rfl,rfl,trivial⟩)
     intro a hE
     refine Sq hE 1 rfl fun a hE=>?_
     obtain⟨m2,hg2,hl3⟩:=bnd hl3
     refine Q9 [_,_,_,_,_,_,_,_,_,_,_,_,_,_] (fun a=>Env 174 [(160,(.bool m2)),(7,(Pv y3 0)),(8,(Pv y4 0)),(9,w5),(10,w14),(15,(Pv b31 0)),(17,(Pv b34 0)),(117,w14),(118,(Iv (b23s.1.length:Int))),(119,(Iv bJ)),(126,v3),(127,(Iv (x10.length:Int))),(128,(Iv eQ))] a) ?_ ?_
     ·rcases Bool.eq_false_or_eq_true m1 with hc22|hc22
      ·
       replace hg2:=(it hc22).symm.trans hg2
       refine Gkq hE hc22 rfl fun a hE=>Gkq hE hc22 rfl fun a hE=>Gkq hE hc22 rfl fun a hE=>Gkq hE hc22 rfl fun a hE=>Gkq hE hc22 rfl fun a hE=>Gkq hE hc22 rfl fun a hE=>Gkq hE hc22 rfl fun a hE=>Gkq hE hc22 rfl fun a hE=>Gkq hE hc22 rfl fun a hE=>Gkq hE hc22 rfl fun a hE=>Gkq hE hc22 rfl fun a hE=>Gkq hE hc22 rfl fun a hE=>Gkq hE hc22 rfl fun a hE=>?_
       refine Vq hE rfl (v:=(.bool true)) (iD rfl hE rfl hc22 rfl) fun a hE=>?_
       obtain rfl:=oj hg2
       exact iM (hE.cut ⟨rfl,rfl,rfl,rfl,rfl,rfl,rfl,rfl,rfl,rfl,rfl,rfl,rfl,trivial⟩)
      replace hg2:=(ie hc22).symm.trans hg2
      refine Gq hE hc22 rfl (aK rfl hE rfl (fun w hw=>aW (cs:=[yv4,yv5,yv6]) dD (Hp.cN 5 rfl 0 _ (aS rfl) w hw))) fun a hE=>Gq hE hc22 rfl (xf hE fA rfl rfl) fun a hE=>Gq hE hc22 rfl (xl hE aT 0 rfl rfl rfl rfl) fun a hE=>Gq hE hc22 rfl (xf hE fA rfl rfl) fun a hE=>Gq hE hc22 rfl (xl hE aT 1 rfl rfl rfl rfl) fun a hE=>?_
      obtain⟨x13,ex13,hg2⟩:=bnd hg2
      refine Y7 (wk1 hE rfl rfl rfl hc22) rfl rfl hE rfl [(.agg #[yv4,yv5,yv6]),(Iv x11.a),(Iv x9.a)] ⟨rfl,rfl,rfl,trivial⟩ ent45 (v:=(.bool x13)) (fun w hw=>Calls.mono (kJ x1 yv4 yh4 yv5 yh5 yv6 yh6 x11.a x9.a hw x13 ex13) fun e w' ⟨v,he,hv,hh⟩=>⟨by rw[he,hv],hh⟩) ?_
      intro a hE
      refine Gq hE hc22 rfl (aK rfl hE rfl (fun w hw=>aW (cs:=[yv1,yv2,yv3]) dD (Hp.cN 4 rfl 0 _ (aS rfl) w hw))) fun a hE=>Gq hE hc22 rfl (xf hE dK rfl rfl) fun a hE=>Gq hE hc22 rfl (xl hE aT 0 rfl rfl rfl rfl) fun a hE=>Gq hE hc22 rfl (xf hE dK rfl rfl) fun a hE=>Gq hE hc22 rfl (xl hE aT 1 rfl rfl rfl rfl) fun a hE=>?_
      obtain⟨x14,ex14,hg2⟩:=bnd hg2
      refine Y7 (wk1 hE rfl rfl rfl hc22) rfl rfl hE rfl [(.agg #[yv1,yv2,yv3]),(Iv x11.b),(Iv x9.b)] ⟨rfl,rfl,rfl,trivial⟩ ent45 (v:=(.bool x14)) (fun w hw=>Calls.mono (kJ x2 yv1 yh1 yv2 yh2 yv3 yh3 x11.b x9.b hw x14 ex14) fun e w' ⟨v,he,hv,hh⟩=>⟨by rw[he,hv],hh⟩) ?_
      intro a hE
      refine Gq hE hc22 rfl (v:=(.bool (!(x13==x14)))) (ex_bneq bty4 rfl hE rfl rfl) fun a hE=>Vq hE rfl (v:=(.bool (!(x13==x14)))) (gQ rfl hE rfl hc22 rfl) fun a hE=>?_
      obtain rfl:=oj hg2
      exact iM (hE.cut ⟨rfl,rfl,rfl,rfl,rfl,rfl,rfl,rfl,rfl,rfl,rfl,rfl,rfl,trivial⟩)
     intro a hE
     refine Sq hE 1 rfl fun a hE=>?_
     obtain⟨m3,hg3,hl3⟩:=bnd hl3
     refine Q9 [_,_,_,_,_,_,_] (fun a=>Env 174 [(168,(.bool m3)),(7,(Pv y3 0)),(8,(Pv y4 0)),(9,w5),(10,w14),(15,(Pv b31 0)),(117,w14),(118,(Iv (b23s.1.length:Int))),(119,(Iv bJ)),(126,v3),(127,(Iv (x10.length:Int))),(128,(Iv eQ))] a) ?_ ?_
     ·rcases Bool.eq_false_or_eq_true m2 with hc23|hc23
      ·
       replace hg3:=(it hc23).symm.trans hg3
       refine Gkq hE hc23 rfl fun a hE=>Gkq hE hc23 rfl fun a hE=>Gkq hE hc23 rfl fun a hE=>Gkq hE hc23 rfl fun a hE=>Gkq hE hc23 rfl fun a hE=>Gkq hE hc23 rfl fun a hE=>?_
       refine Vq hE rfl (v:=(.bool true)) (iD rfl hE rfl hc23 rfl) fun a hE=>?_
       obtain rfl:=oj hg3
       exact iM (hE.cut ⟨rfl,rfl,rfl,rfl,rfl,rfl,rfl,rfl,rfl,rfl,rfl,rfl,trivial⟩)
      replace hg3:=(ie hc23).symm.trans hg3
      refine Gq hE hc23 rfl (aK rfl hE rfl (fun w hw=>aW (cs:=[yv1,yv2,yv3]) dD (Hp.cN 4 rfl 0 _ (aS rfl) w hw))) fun a hE=>Gq hE hc23 rfl (xf hE dK rfl rfl) fun a hE=>Gq hE hc23 rfl (xl hE aT 1 rfl rfl rfl rfl) fun a hE=>Gq hE hc23 rfl (xf hE dK rfl rfl) fun a hE=>Gq hE hc23 rfl (xl hE aT 0 rfl rfl rfl rfl) fun a hE=>?_
      obtain⟨x15,ex15,hg3⟩:=bnd hg3
      refine Y7 (wk1 hE rfl rfl rfl hc23) rfl rfl hE rfl [(.agg #[yv1,yv2,yv3]),(Iv x9.b),(Iv x11.b)] ⟨rfl,rfl,rfl,trivial⟩ ent45 (v:=(.bool x15)) (fun w hw=>Calls.mono (kJ x2 yv1 yh1 yv2 yh2 yv3 yh3 x9.b x11.b hw x15 ex15) fun e w' ⟨v,he,hv,hh⟩=>⟨by rw[he,hv],hh⟩) ?_
      intro a hE
      refine Vq hE rfl (v:=(.bool x15)) (gQ rfl hE rfl hc23 rfl) fun a hE=>?_
      obtain rfl:=oj hg3
      exact iM (hE.cut ⟨rfl,rfl,rfl,rfl,rfl,rfl,rfl,rfl,rfl,rfl,rfl,rfl,trivial⟩)
     intro a hE
     refine iM fun w hp=>?_
     have hp:=r8 hp
     refine dE hE rfl (fun hc24=>?_) (fun hc24=>?_)
     ·replace hl3:=(it hc24).symm.trans hl3
      refine aG (aA ?_)
      refine S hE 1 rfl fun a hE=>aB (bZ ?_)
      refine⟨_,(oj hl3).symm,fun hb=>?_⟩
      subst hb
      refine⟨_,(oj hl2).symm,fun hb=>?_⟩
      subst hb
      obtain rfl:=oj hm
      exact gJ hE rfl rfl ⟨_,rfl,rfl,((((((((((((((((hp.get 7 rfl).drop).get 6 rfl).drop).get 5 rfl).drop).get 4 rfl).drop).get 3 rfl).drop).get 2 rfl).drop).get 1 rfl).drop).drop).less hley1)⟩
     replace hl3:=(ie hc24).symm.trans hl3
     refine aZ (aA ?_)
     obtain⟨x16,ex16,hl3⟩:=bnd hl3
     refine V hE hp rfl (bF rfl hE rfl rfl (aO ex16)) fun a hE=>S hE 1 rfl fun a hE=>aB ?_
     exact⟨_,(oj hl3).symm,hE.cut ⟨rfl,rfl,rfl,rfl,rfl,rfl,rfl,rfl,rfl,rfl,rfl,trivial⟩,(hp.drop)⟩
    replace hl3:=(ie hc20).symm.trans hl3
    refine dS ?_
    refine⟨_,(oj hl3).symm,fun hbb=>?_⟩
    exact⟨_,hbb.symm,hE.cut ⟨rfl,rfl,rfl,rfl,rfl,rfl,rfl,trivial⟩,hp⟩
   rintro a w ⟨b32s,rfl,hE,hp⟩
   dsimp only at hl2
   refine aA ?_
   obtain⟨x17,ex17,hl2⟩:=bnd hl2
   refine V hE hp rfl (bF rfl hE rfl rfl (aO ex17)) fun a hE=>S hE 1 rfl fun a hE=>aB ?_
   exact⟨_,(oj hl2).symm,hE.cut ⟨rfl,rfl,rfl,rfl,rfl,rfl,rfl,trivial⟩,(hp.drop)⟩
  replace hl2:=(ie hc18).symm.trans hl2
  refine dS ?_
  refine⟨_,(oj hl2).symm,fun hbb=>?_⟩
  exact⟨_,hbb.symm,hE.cut ⟨rfl,trivial⟩,hp⟩
 rintro a w ⟨b29s,rfl,hE,hp⟩
 dsimp only at hm
 refine aG (aA ?_)
 refine S hE 1 rfl fun a hE=>?_
 obtain⟨k1,k1a,k1d,k1h⟩:=(hp.get 1 rfl).lend
 obtain⟨x18,ex18,hm⟩:=bnd hm
 refine Cl hE rfl rfl ent46 (I5 b23s.2 w5 (aC.ro k1d k1a) false k1h x18 ex18) ⟨rfl,rfl,trivial⟩ fun v a w hR hE=>?_
 obtain⟨rfl,hp⟩:=hR
 have hp:=Hp.back k1a k1d hp
 have hp:=r6 hp
 refine S hE 2 rfl fun a hE=>aB (bZ ?_)
 obtain rfl:=oj hm
 exact gJ hE rfl rfl ⟨_,rfl,rfl,((((((((((((hp.get 5 rfl).drop).get 4 rfl).drop).get 3 rfl).drop).get 2 rfl).drop).get 1 rfl).drop).drop).less hley1)⟩
theorem aI6 {Z:World} {ρ:PH} {L:List bK} {w:World} (p0:Node) (aI:Value) (bD:aH ρ aI p0.kids) (p1:Node) (aJ:Value) (bH:aH ρ aJ p1.kids) (p2:(List Opn)) (vp2:Value) (hp2:aH ρ vp2 p2) (hp:Hp Z ρ (L) w) (r:(Int×Int)) (hm:wY p0 p1 p2=some r):
  Calls Tryz.prog 15 #[(.agg #[(Iv p0.kind),(.string p0.text),(Iv p0.at_),(Iv p0.fin),aI]),(.agg #[(Iv p1.kind),(.string p1.text),(Iv p1.at_),(Iv p1.fin),aJ]),vp2] w (Ret fun v w'=>v= .tuple #[(Iv r.1),(Iv r.2)]∧Hp Z ρ (L) w'):=by
 refine enter (N:=56) Tryz.func15 rfl rfl [(0,(.agg #[(Iv p0.kind),(.string p0.text),(Iv p0.at_),(Iv p0.fin),aI])),(1,(.agg #[(Iv p1.kind),(.string p1.text),(Iv p1.at_),(Iv p1.fin),aJ])),(2,vp2)] rfl (bC ⟨rfl,rfl,rfl,trivial⟩) fun a hE=>?_
 unfold wY at hm
 refine aG (aA ?_)
 refine iI (wk0 rfl) rfl rfl hE hp rfl (v:=(.agg #[(Iv p0.kind),(.string p0.text),(Iv p0.at_),(Iv p0.fin),aI])) rfl ?_
 intro a w b1 hE hp
 have hp:=r1 hp
 refine iI (wk0 rfl) rfl rfl hE hp rfl (v:=(.agg #[(Iv p1.kind),(.string p1.text),(Iv p1.at_),(Iv p1.fin),aJ])) rfl ?_
 intro a w b2 hE hp
 have hp:=r2 hp
 refine S hE 2 rfl fun a hE=>aB (aG ?_)
 refine aG (aA ?_)
 refine V hE hp rfl (aK rfl hE rfl (fun w hw=>aW (cs:=[(Iv p0.kind),(.string p0.text),(Iv p0.at_),(Iv p0.fin),aI]) bY (Hp.cN 1 rfl 0 _ (aS rfl) w hw))) fun a hE=>V hE hp rfl (aK rfl hE rfl (fun w hw=>aW (cs:=[(Iv p1.kind),(.string p1.text),(Iv p1.at_),(Iv p1.fin),aJ]) bY (Hp.cN 0 rfl 0 _ (aS rfl) w hw))) fun a hE=>S hE 1 rfl fun a hE=>?_
 obtain⟨x1,ex1,hm⟩:=bnd hm
 refine Cl hE rfl rfl ent17 (A8 p0 aI bD p1 aJ bH p2 vp2 hp2 hp x1 ex1) ⟨rfl,rfl,rfl,trivial⟩ fun v a w hR hE=>?_
 obtain⟨rfl,hp⟩:=hR
 have hp:=r2 hp
 refine S hE 1 rfl fun a hE=>aB ?_
 refine dE hE rfl (fun hc1=>?_) (fun hc1=>?_)
 ·replace hm:=(it hc1).symm.trans hm
  refine aG (aA ?_)
  refine S hE 2 rfl fun a hE=>aB (bZ ?_)
  obtain rfl:=oj hm
  exact yU hE rfl rfl rfl ⟨_,rfl,rfl,(((hp.get 1 rfl).drop).drop)⟩
 replace hm:=(ie hc1).symm.trans hm
 refine aZ (aG ?_)
 obtain⟨x2,ex2,hm⟩:=bnd hm
 obtain⟨x3,ex3,hm⟩:=bnd hm
 have hp:=hp.drew
 refine fG ([([],At0 Z ρ),([],At1 Z ρ (Pt b2 (.cells #[(Iv p1.kind),(.string p1.text),(Iv p1.at_),(Iv p1.fin),aJ] 24 (0,0)))),([],At1 Z ρ (Pt b1 (.cells #[(Iv p0.kind),(.string p0.text),(Iv p0.at_),(Iv p0.fin),aI] 24 (0,0))))]:Facts) (fun a w=>∃ρy1:PH,∃y4:Nat,∃y3:Nat,∃yv1:Value,∃yv2:Value,∃yv3:Value,∃yv4:Value,∃yv5:Value,∃yv6:Value,ρ.le ρy1∧aH ρy1 yv1 x3.nodes∧aH ρy1 yv2 x3.sizes∧aH ρy1 yv3 x3.parent∧aH ρy1 yv4 x2.nodes∧aH ρy1 yv5 x2.sizes∧aH ρy1 yv6 x2.parent∧Env 56 [(2,vp2),(8,(Pv y3 0)),(9,(Pv y4 0)),(10,(Iv 0))] a∧Hp Z ρy1 (Pt y4 (.cells #[yv1,yv2,yv3] 75 (0,0))::Pt y3 (.cells #[yv4,yv5,yv6] 75 (0,0))::Pt b2 (.cells #[(Iv p1.kind),(.string p1.text),(Iv p1.at_),(Iv p1.fin),aJ] 24 (0,0))::Pt b1 (.cells #[(Iv p0.kind),(.string p0.text),(Iv p0.at_),(Iv p0.fin),aI] 24 (0,0))::L) w) (by kernel_rfl) ⟨fun _=>⟨_,hp⟩,fun _=>⟨_,(hp.get 0 rfl)⟩,fun _=>⟨_,(hp.get 1 rfl)⟩,trivial⟩ (fun hS=>?_) ?_
 ·
  generalize w.drew=w at hS hp⊢
  refine T 0 2 hE hS rfl rfl rfl (by kernel_rfl) (fun _=>aK rfl hE rfl (fun w hw=>aW (cs:=[(Iv p0.kind),(.string p0.text),(Iv p0.at_),(Iv p0.fin),aI]) bY (Hp.cN 0 rfl 0 _ (aS rfl) w hw))) fun a hE hS=>T 2 1 hE hS rfl rfl rfl (by kernel_rfl) (fun _=>aK rfl hE rfl (fun w hw=>aW (cs:=[(Iv p1.kind),(.string p1.text),(Iv p1.at_),(Iv p1.fin),aJ]) bY (Hp.cN 0 rfl 0 _ (aS rfl) w hw))) fun a hE hS=>?_
  refine gW [1,4,5] (by kernel_rfl) rfl ?_
  refine List.forall_mem_cons.2 ⟨?_,List.forall_mem_cons.2 ⟨?_,List.forall_mem_cons.2 ⟨?_,fun _ h=>absurd h (by simp)⟩⟩⟩
  ·
   refine dX rfl ?_
   refine Cl hE rfl rfl jM (bG p0 aI bD hp x2 ex2) ⟨rfl,trivial⟩ fun v a w hR hE=>?_
   obtain⟨ρ3,nP,nR,lH,hle3,rfl,gB,gG,fD,hp⟩:=hR
   have hp:=r2 hp
   refine aB (aF ⟨fun _=>⟨_,(hp.less hle3)⟩,fun _=>⟨_,((hp.get 0 rfl).less hle3)⟩,fun _=>⟨_,((hp.get 1 rfl).less hle3)⟩,trivial⟩ fun hS=>?_)
   refine gW [3,4,5] (by kernel_rfl) rfl ?_
   refine List.forall_mem_cons.2 ⟨?_,List.forall_mem_cons.2 ⟨?_,List.forall_mem_cons.2 ⟨?_,fun _ h=>absurd h (by simp)⟩⟩⟩
   ·
    refine dX rfl ?_
    refine Cl hE rfl rfl jM (bG p1 aJ (aH.mono bH hle3) hp x3 ex3) ⟨rfl,trivial⟩ fun v a w hR hE=>?_
    obtain⟨ρ4,tN,tV,qV,hle4,rfl,oL,oM,lX,hp⟩:=hR
    have hp:=r2 hp
    refine aB (aF ⟨fun _=>⟨_,((hp.less hle4).less hle3)⟩,fun _=>⟨_,(((hp.get 0 rfl).less hle4).less hle3)⟩,fun _=>⟨_,(((hp.get 1 rfl).less hle4).less hle3)⟩,trivial⟩ fun hS=>?_)
    refine gW [4,5] (by kernel_rfl) rfl ?_
    refine List.forall_mem_cons.2 ⟨?_,List.forall_mem_cons.2 ⟨?_,fun _ h=>absurd h (by simp)⟩⟩
    ·
     refine dX rfl ?_
     refine dL (wk0 rfl) rfl rfl hE hp rfl [N0,N0,N0] (fun w=>by simp[Instr.alloc,go_sem]<;>rfl) ?_
     intro a w b5 hE hp
     have hp:=r3 hp
     refine aB (aF ⟨fun _=>⟨_,((hp.less hle4).less hle3)⟩,fun _=>⟨_,(((hp.get 1 rfl).less hle4).less hle3)⟩,fun _=>⟨_,(((hp.get 2 rfl).less hle4).less hle3)⟩,trivial⟩ fun hS=>?_)
     refine W1 5 (by kernel_rfl) rfl ?_
     refine dL (wk0 rfl) rfl rfl hE hp rfl [N0,N0,N0] (fun w=>by simp[Instr.alloc,go_sem]<;>rfl) ?_
     intro a w b6 hE hp
     have hp:=r4 hp
     refine aB (aF ⟨fun _=>⟨_,((hp.less hle4).less hle3)⟩,fun _=>⟨_,(((hp.get 2 rfl).less hle4).less hle3)⟩,fun _=>⟨_,(((hp.get 3 rfl).less hle4).less hle3)⟩,trivial⟩ fun hS=>?_)
     refine W1 6 (by kernel_rfl) rfl ?_
     refine aX (wk0 rfl) rfl hE hp rfl rfl rfl 1 rfl dD.size_ rfl (aQ ⟨(aH.one (aH.mono gB hle4)),(aH.one (aH.mono gG hle4)),(aH.one (aH.mono fD hle4)),trivial⟩) [nP,nR,lH] rfl ?_
     intro w hp
     have hp:=r4 hp
     refine aB (aF ⟨fun _=>⟨_,((hp.less hle4).less hle3)⟩,fun _=>⟨_,(((hp.get 2 rfl).less hle4).less hle3)⟩,fun _=>⟨_,(((hp.get 3 rfl).less hle4).less hle3)⟩,trivial⟩ fun hS=>?_)
     refine W1 7 (by kernel_rfl) rfl ?_
     refine aX (wk0 rfl) rfl hE hp rfl rfl rfl 0 rfl dD.size_ rfl (aQ ⟨(aH.one oL),(aH.one oM),(aH.one lX),trivial⟩) [tN,tV,qV] rfl ?_
     intro w hp
     have hp:=r4 hp
     refine aB (aF ⟨fun _=>⟨_,((hp.less hle4).less hle3)⟩,fun _=>⟨_,(((hp.get 2 rfl).less hle4).less hle3)⟩,fun _=>⟨_,(((hp.get 3 rfl).less hle4).less hle3)⟩,trivial⟩ fun hS=>?_)
     refine Ts [8] hE hS rfl rfl (by kernel_rfl) fun a hE hS=>?_
     exact bP (by kernel_rfl) ⟨ρ4,_,_,_,_,_,_,_,_,(PH.le.tr hle3 hle4),oL,oM,lX,(aH.mono gB hle4),(aH.mono gG hle4),(aH.mono fD hle4),hE.cut ⟨rfl,rfl,rfl,rfl,trivial⟩,hp⟩
    refine dX rfl ?_
    refine dL (wk0 rfl) rfl rfl hE hp rfl [N0,N0,N0] (fun w=>by simp[Instr.alloc,go_sem]<;>rfl) ?_
    intro a w b7 hE hp
    have hp:=r3 hp
    refine aB (aF ⟨fun _=>⟨_,((hp.less hle4).less hle3)⟩,fun _=>⟨_,(((hp.get 1 rfl).less hle4).less hle3)⟩,fun _=>⟨_,(((hp.get 2 rfl).less hle4).less hle3)⟩,trivial⟩ fun hS=>?_)
    refine W1 4 (by kernel_rfl) rfl ?_
    refine dL (wk0 rfl) rfl rfl hE hp rfl [N0,N0,N0] (fun w=>by simp[Instr.alloc,go_sem]<;>rfl) ?_
    intro a w b8 hE hp
    have hp:=r4 hp
    refine aB (aF ⟨fun _=>⟨_,((hp.less hle4).less hle3)⟩,fun _=>⟨_,(((hp.get 2 rfl).less hle4).less hle3)⟩,fun _=>⟨_,(((hp.get 3 rfl).less hle4).less hle3)⟩,trivial⟩ fun hS=>?_)
    refine W1 6 (by kernel_rfl) rfl ?_
    refine aX (wk0 rfl) rfl hE hp rfl rfl rfl 0 rfl dD.size_ rfl (aQ ⟨(aH.one (aH.mono gB hle4)),(aH.one (aH.mono gG hle4)),(aH.one (aH.mono fD hle4)),trivial⟩) [nP,nR,lH] rfl ?_
    intro w hp
    have hp:=r4 hp
    refine aB (aF ⟨fun _=>⟨_,((hp.less hle4).less hle3)⟩,fun _=>⟨_,(((hp.get 2 rfl).less hle4).less hle3)⟩,fun _=>⟨_,(((hp.get 3 rfl).less hle4).less hle3)⟩,trivial⟩ fun hS=>?_)
    refine W1 7 (by kernel_rfl) rfl ?_
    refine aX (wk0 rfl) rfl hE hp rfl rfl rfl 1 rfl dD.size_ rfl (aQ ⟨(aH.one oL),(aH.one oM),(aH.one lX),trivial⟩) [tN,tV,qV] rfl ?_
    intro w hp
    have hp:=r4 hp
    refine aB (aF ⟨fun _=>⟨_,((hp.less hle4).less hle3)⟩,fun _=>⟨_,(((hp.get 2 rfl).less hle4).less hle3)⟩,fun _=>⟨_,(((hp.get 3 rfl).less hle4).less hle3)⟩,trivial⟩ fun hS=>?_)
    refine Ts [8] hE hS rfl rfl (by kernel_rfl) fun a hE hS=>?_
    exact bP (by kernel_rfl) ⟨ρ4,_,_,_,_,_,_,_,_,(PH.le.tr hle3 hle4),oL,oM,lX,(aH.mono gB hle4),(aH.mono gG hle4),(aH.mono fD hle4),hE.cut ⟨rfl,rfl,rfl,rfl,trivial⟩,((((hp.get 3 rfl).get 3 rfl).get 2 rfl).get 3 rfl)⟩
   ·
    refine dX rfl ?_
    refine dL (wk0 rfl) rfl rfl hE hp rfl [N0,N0,N0] (fun w=>by simp[Instr.alloc,go_sem]<;>rfl) ?_
    intro a w b9 hE hp
    have hp:=r3 hp
    refine aB (aF ⟨fun _=>⟨_,(hp.less hle3)⟩,fun _=>⟨_,((hp.get 1 rfl).less hle3)⟩,fun _=>⟨_,((hp.get 2 rfl).less hle3)⟩,trivial⟩ fun hS=>?_)
    refine gW [3,5] (by kernel_rfl) rfl ?_
    refine List.forall_mem_cons.2 ⟨?_,List.forall_mem_cons.2 ⟨?_,fun _ h=>absurd h (by simp)⟩⟩
    ·
     refine dX rfl ?_
     refine Cl hE rfl rfl jM (bG p1 aJ (aH.mono bH hle3) hp x3 ex3) ⟨rfl,trivial⟩ fun v a w hR hE=>?_
     obtain⟨ρ5,xB,xC,uS,hle5,rfl,sV,sW,qR,hp⟩:=hR
     have hp:=r3 hp
     refine aB (aF ⟨fun _=>⟨_,((hp.less hle5).less hle3)⟩,fun _=>⟨_,(((hp.get 1 rfl).less hle5).less hle3)⟩,fun _=>⟨_,(((hp.get 2 rfl).less hle5).less hle3)⟩,trivial⟩ fun hS=>?_)
     refine W1 5 (by kernel_rfl) rfl ?_
     refine dL (wk0 rfl) rfl rfl hE hp rfl [N0,N0,N0] (fun w=>by simp[Instr.alloc,go_sem]<;>rfl) ?_
     intro a w b10 hE hp
     have hp:=r4 hp
     refine aB (aF ⟨fun _=>⟨_,((hp.less hle5).less hle3)⟩,fun _=>⟨_,(((hp.get 2 rfl).less hle5).less hle3)⟩,fun _=>⟨_,(((hp.get 3 rfl).less hle5).less hle3)⟩,trivial⟩ fun hS=>?_)
     refine W1 6 (by kernel_rfl) rfl ?_
     refine aX (wk0 rfl) rfl hE hp rfl rfl rfl 1 rfl dD.size_ rfl (aQ ⟨(aH.one (aH.mono gB hle5)),(aH.one (aH.mono gG hle5)),(aH.one (aH.mono fD hle5)),trivial⟩) [nP,nR,lH] rfl ?_
     intro w hp
     have hp:=r4 hp
     refine aB (aF ⟨fun _=>⟨_,((hp.less hle5).less hle3)⟩,fun _=>⟨_,(((hp.get 2 rfl).less hle5).less hle3)⟩,fun _=>⟨_,(((hp.get 3 rfl).less hle5).less hle3)⟩,trivial⟩ fun hS=>?_)
     refine W1 7 (by kernel_rfl) rfl ?_
     refine aX (wk0 rfl) rfl hE hp rfl rfl rfl 0 rfl dD.size_ rfl (aQ ⟨(aH.one sV),(aH.one sW),(aH.one qR),trivial⟩) [xB,xC,uS] rfl ?_
     intro w hp
     have hp:=r4 hp
     refine aB (aF ⟨fun _=>⟨_,((hp.less hle5).less hle3)⟩,fun _=>⟨_,(((hp.get 2 rfl).less hle5).less hle3)⟩,fun _=>⟨_,(((hp.get 3 rfl).less hle5).less hle3)⟩,trivial⟩ fun hS=>?_)
     refine Ts [8] hE hS rfl rfl (by kernel_rfl) fun a hE hS=>?_
     exact bP (by kernel_rfl) ⟨ρ5,_,_,_,_,_,_,_,_,(PH.le.tr hle3 hle5),sV,sW,qR,(aH.mono gB hle5),(aH.mono gG hle5),(aH.mono fD hle5),hE.cut ⟨rfl,rfl,rfl,rfl,trivial⟩,hp⟩
    refine dX rfl ?_
    refine dL (wk0 rfl) rfl rfl hE hp rfl [N0,N0,N0] (fun w=>by simp[Instr.alloc,go_sem]<;>rfl) ?_
    intro a w b11 hE hp
    have hp:=r4 hp
    refine aB (aF ⟨fun _=>⟨_,(hp.less hle3)⟩,fun _=>⟨_,((hp.get 2 rfl).less hle3)⟩,fun _=>⟨_,((hp.get 3 rfl).less hle3)⟩,trivial⟩ fun hS=>?_)
    refine W1 3 (by kernel_rfl) rfl ?_
    refine Cl hE rfl rfl jM (bG p1 aJ (aH.mono bH hle3) hp x3 ex3) ⟨rfl,trivial⟩ fun v a w hR hE=>?_
    obtain⟨ρ6,aB5,aB6,V8,hle6,rfl,yE,yF,wJ,hp⟩:=hR
    have hp:=r4 hp
    refine aB (aF ⟨fun _=>⟨_,((hp.less hle6).less hle3)⟩,fun _=>⟨_,(((hp.get 2 rfl).less hle6).less hle3)⟩,fun _=>⟨_,(((hp.get 3 rfl).less hle6).less hle3)⟩,trivial⟩ fun hS=>?_)
    refine W1 6 (by kernel_rfl) rfl ?_
    refine aX (wk0 rfl) rfl hE hp rfl rfl rfl 1 rfl dD.size_ rfl (aQ ⟨(aH.one (aH.mono gB hle6)),(aH.one (aH.mono gG hle6)),(aH.one (aH.mono fD hle6)),trivial⟩) [nP,nR,lH] rfl ?_
    intro w hp
    have hp:=r4 hp
    refine aB (aF ⟨fun _=>⟨_,((hp.less hle6).less hle3)⟩,fun _=>⟨_,(((hp.get 2 rfl).less hle6).less hle3)⟩,fun _=>⟨_,(((hp.get 3 rfl).less hle6).less hle3)⟩,trivial⟩ fun hS=>?_)
    refine W1 7 (by kernel_rfl) rfl ?_
    refine aX (wk0 rfl) rfl hE hp rfl rfl rfl 0 rfl dD.size_ rfl (aQ ⟨(aH.one yE),(aH.one yF),(aH.one wJ),trivial⟩) [aB5,aB6,V8] rfl ?_
    intro w hp
    have hp:=r4 hp
    refine aB (aF ⟨fun _=>⟨_,((hp.less hle6).less hle3)⟩,fun _=>⟨_,(((hp.get 2 rfl).less hle6).less hle3)⟩,fun _=>⟨_,(((hp.get 3 rfl).less hle6).less hle3)⟩,trivial⟩ fun hS=>?_)
    refine Ts [8] hE hS rfl rfl (by kernel_rfl) fun a hE hS=>?_
    exact bP (by kernel_rfl) ⟨ρ6,_,_,_,_,_,_,_,_,(PH.le.tr hle3 hle6),yE,yF,wJ,(aH.mono gB hle6),(aH.mono gG hle6),(aH.mono fD hle6),hE.cut ⟨rfl,rfl,rfl,rfl,trivial⟩,hp⟩
   refine dX rfl ?_
   refine dL (wk0 rfl) rfl rfl hE hp rfl [N0,N0,N0] (fun w=>by simp[Instr.alloc,go_sem]<;>rfl) ?_
   intro a w b12 hE hp
   have hp:=r3 hp
   refine aB (aF ⟨fun _=>⟨_,(hp.less hle3)⟩,fun _=>⟨_,((hp.get 1 rfl).less hle3)⟩,fun _=>⟨_,((hp.get 2 rfl).less hle3)⟩,trivial⟩ fun hS=>?_)
   refine gW [3,4] (by kernel_rfl) rfl ?_
   refine List.forall_mem_cons.2 ⟨?_,List.forall_mem_cons.2 ⟨?_,fun _ h=>absurd h (by simp)⟩⟩
   ·
    refine dX rfl ?_
    refine Cl hE rfl rfl jM (bG p1 aJ (aH.mono bH hle3) hp x3 ex3) ⟨rfl,trivial⟩ fun v a w hR hE=>?_
    obtain⟨ρ7,aB7,aB8,V9,hle7,rfl,yG,yH,wK,hp⟩:=hR
    have hp:=r3 hp
    refine aB (aF ⟨fun _=>⟨_,((hp.less hle7).less hle3)⟩,fun _=>⟨_,(((hp.get 1 rfl).less hle7).less hle3)⟩,fun _=>⟨_,(((hp.get 2 rfl).less hle7).less hle3)⟩,trivial⟩ fun hS=>?_)
    refine W1 4 (by kernel_rfl) rfl ?_
    refine dL (wk0 rfl) rfl rfl hE hp rfl [N0,N0,N0] (fun w=>by simp[Instr.alloc,go_sem]<;>rfl) ?_
    intro a w b13 hE hp
    have hp:=r4 hp
    refine aB (aF ⟨fun _=>⟨_,((hp.less hle7).less hle3)⟩,fun _=>⟨_,(((hp.get 2 rfl).less hle7).less hle3)⟩,fun _=>⟨_,(((hp.get 3 rfl).less hle7).less hle3)⟩,trivial⟩ fun hS=>?_)
    refine W1 6 (by kernel_rfl) rfl ?_
    refine aX (wk0 rfl) rfl hE hp rfl rfl rfl 0 rfl dD.size_ rfl (aQ ⟨(aH.one (aH.mono gB hle7)),(aH.one (aH.mono gG hle7)),(aH.one (aH.mono fD hle7)),trivial⟩) [nP,nR,lH] rfl ?_
    intro w hp
    have hp:=r4 hp
    refine aB (aF ⟨fun _=>⟨_,((hp.less hle7).less hle3)⟩,fun _=>⟨_,(((hp.get 2 rfl).less hle7).less hle3)⟩,fun _=>⟨_,(((hp.get 3 rfl).less hle7).less hle3)⟩,trivial⟩ fun hS=>?_)
    refine W1 7 (by kernel_rfl) rfl ?_
    refine aX (wk0 rfl) rfl hE hp rfl rfl rfl 1 rfl dD.size_ rfl (aQ ⟨(aH.one yG),(aH.one yH),(aH.one wK),trivial⟩) [aB7,aB8,V9] rfl ?_
    intro w hp
    have hp:=r4 hp
    refine aB (aF ⟨fun _=>⟨_,((hp.less hle7).less hle3)⟩,fun _=>⟨_,(((hp.get 2 rfl).less hle7).less hle3)⟩,fun _=>⟨_,(((hp.get 3 rfl).less hle7).less hle3)⟩,trivial⟩ fun hS=>?_)
    refine Ts [8] hE hS rfl rfl (by kernel_rfl) fun a hE hS=>?_
    exact bP (by kernel_rfl) ⟨ρ7,_,_,_,_,_,_,_,_,(PH.le.tr hle3 hle7),yG,yH,wK,(aH.mono gB hle7),(aH.mono gG hle7),(aH.mono fD hle7),hE.cut ⟨rfl,rfl,rfl,rfl,trivial⟩,((((hp.get 3 rfl).get 3 rfl).get 2 rfl).get 3 rfl)⟩
   refine dX rfl ?_
   refine dL (wk0 rfl) rfl rfl hE hp rfl [N0,N0,N0] (fun w=>by simp[Instr.alloc,go_sem]<;>rfl) ?_
   intro a w b14 hE hp
   have hp:=r4 hp
   refine aB (aF ⟨fun _=>⟨_,(hp.less hle3)⟩,fun _=>⟨_,((hp.get 2 rfl).less hle3)⟩,fun _=>⟨_,((hp.get 3 rfl).less hle3)⟩,trivial⟩ fun hS=>?_)
   refine W1 3 (by kernel_rfl) rfl ?_
   refine Cl hE rfl rfl jM (bG p1 aJ (aH.mono bH hle3) hp x3 ex3) ⟨rfl,trivial⟩ fun v a w hR hE=>?_
   obtain⟨ρ8,O4,O5,zZ,hle8,rfl,uZ,vC,sH,hp⟩:=hR
   have hp:=r4 hp
   refine aB (aF ⟨fun _=>⟨_,((hp.less hle8).less hle3)⟩,fun _=>⟨_,(((hp.get 2 rfl).less hle8).less hle3)⟩,fun _=>⟨_,(((hp.get 3 rfl).less hle8).less hle3)⟩,trivial⟩ fun hS=>?_)
   refine W1 6 (by kernel_rfl) rfl ?_
   refine aX (wk0 rfl) rfl hE hp rfl rfl rfl 0 rfl dD.size_ rfl (aQ ⟨(aH.one (aH.mono gB hle8)),(aH.one (aH.mono gG hle8)),(aH.one (aH.mono fD hle8)),trivial⟩) [nP,nR,lH] rfl ?_
   intro w hp
   have hp:=r4 hp
   refine aB (aF ⟨fun _=>⟨_,((hp.less hle8).less hle3)⟩,fun _=>⟨_,(((hp.get 2 rfl).less hle8).less hle3)⟩,fun _=>⟨_,(((hp.get 3 rfl).less hle8).less hle3)⟩,trivial⟩ fun hS=>?_)
   refine W1 7 (by kernel_rfl) rfl ?_
   refine aX (wk0 rfl) rfl hE hp rfl rfl rfl 1 rfl dD.size_ rfl (aQ ⟨(aH.one uZ),(aH.one vC),(aH.one sH),trivial⟩) [O4,O5,zZ] rfl ?_
   intro w hp
   have hp:=r4 hp
   refine aB (aF ⟨fun _=>⟨_,((hp.less hle8).less hle3)⟩,fun _=>⟨_,(((hp.get 2 rfl).less hle8).less hle3)⟩,fun _=>⟨_,(((hp.get 3 rfl).less hle8).less hle3)⟩,trivial⟩ fun hS=>?_)
   refine Ts [8] hE hS rfl rfl (by kernel_rfl) fun a hE hS=>?_
   exact bP (by kernel_rfl) ⟨ρ8,_,_,_,_,_,_,_,_,(PH.le.tr hle3 hle8),uZ,vC,sH,(aH.mono gB hle8),(aH.mono gG hle8),(aH.mono fD hle8),hE.cut ⟨rfl,rfl,rfl,rfl,trivial⟩,((((hp.get 3 rfl).get 3 rfl).get 2 rfl).get 3 rfl)⟩
  ·
   refine dX rfl ?_
   refine dL (wk0 rfl) rfl rfl hE hp rfl [N0,N0,N0] (fun w=>by simp[Instr.alloc,go_sem]<;>rfl) ?_
   intro a w b15 hE hp
   have hp:=r3 hp
   refine aB (aF ⟨gp0 hp,gp 1 hp rfl,gp 2 hp rfl,trivial⟩ fun hS=>?_)
   refine gW [1,5] (by kernel_rfl) rfl ?_
   refine List.forall_mem_cons.2 ⟨?_,List.forall_mem_cons.2 ⟨?_,fun _ h=>absurd h (by simp)⟩⟩
   ·
    refine dX rfl ?_
    refine Cl hE rfl rfl jM (bG p0 aI bD hp x2 ex2) ⟨rfl,trivial⟩ fun v a w hR hE=>?_
    obtain⟨ρ9,xU,xW,wP,hle9,rfl,pW,pX,nS,hp⟩:=hR
    have hp:=r3 hp
    refine aB (aF ⟨fun _=>⟨_,(hp.less hle9)⟩,fun _=>⟨_,((hp.get 1 rfl).less hle9)⟩,fun _=>⟨_,((hp.get 2 rfl).less hle9)⟩,trivial⟩ fun hS=>?_)
    refine gW [3,5] (by kernel_rfl) rfl ?_
    refine List.forall_mem_cons.2 ⟨?_,List.forall_mem_cons.2 ⟨?_,fun _ h=>absurd h (by simp)⟩⟩
    ·
     refine dX rfl ?_
     refine Cl hE rfl rfl jM (bG p1 aJ (aH.mono bH hle9) hp x3 ex3) ⟨rfl,trivial⟩ fun v a w hR hE=>?_
     obtain⟨ρ10,U1,U2,G7,hle10,rfl,vV,vW,tZ,hp⟩:=hR
     have hp:=r3 hp
     refine aB (aF ⟨fun _=>⟨_,((hp.less hle10).less hle9)⟩,fun _=>⟨_,(((hp.get 1 rfl).less hle10).less hle9)⟩,fun _=>⟨_,(((hp.get 2 rfl).less hle10).less hle9)⟩,trivial⟩ fun hS=>?_)
     refine W1 5 (by kernel_rfl) rfl ?_
     refine dL (wk0 rfl) rfl rfl hE hp rfl [N0,N0,N0] (fun w=>by simp[Instr.alloc,go_sem]<;>rfl) ?_
     intro a w b16 hE hp
     have hp:=r4 hp
     refine aB (aF ⟨fun _=>⟨_,((hp.less hle10).less hle9)⟩,fun _=>⟨_,(((hp.get 2 rfl).less hle10).less hle9)⟩,fun _=>⟨_,(((hp.get 3 rfl).less hle10).less hle9)⟩,trivial⟩ fun hS=>?_)
     refine W1 6 (by kernel_rfl) rfl ?_
     refine aX (wk0 rfl) rfl hE hp rfl rfl rfl 1 rfl dD.size_ rfl (aQ ⟨(aH.one (aH.mono pW hle10)),(aH.one (aH.mono pX hle10)),(aH.one (aH.mono nS hle10)),trivial⟩) [xU,xW,wP] rfl ?_
     intro w hp
     have hp:=r4 hp
     refine aB (aF ⟨fun _=>⟨_,((hp.less hle10).less hle9)⟩,fun _=>⟨_,(((hp.get 2 rfl).less hle10).less hle9)⟩,fun _=>⟨_,(((hp.get 3 rfl).less hle10).less hle9)⟩,trivial⟩ fun hS=>?_)
     refine W1 7 (by kernel_rfl) rfl ?_
     refine aX (wk0 rfl) rfl hE hp rfl rfl rfl 0 rfl dD.size_ rfl (aQ ⟨(aH.one vV),(aH.one vW),(aH.one tZ),trivial⟩) [U1,U2,G7] rfl ?_
     intro w hp
     have hp:=r4 hp
     refine aB (aF ⟨fun _=>⟨_,((hp.less hle10).less hle9)⟩,fun _=>⟨_,(((hp.get 2 rfl).less hle10).less hle9)⟩,fun _=>⟨_,(((hp.get 3 rfl).less hle10).less hle9)⟩,trivial⟩ fun hS=>?_)
     refine Ts [8] hE hS rfl rfl (by kernel_rfl) fun a hE hS=>?_
     exact bP (by kernel_rfl) ⟨ρ10,_,_,_,_,_,_,_,_,(PH.le.tr hle9 hle10),vV,vW,tZ,(aH.mono pW hle10),(aH.mono pX hle10),(aH.mono nS hle10),hE.cut ⟨rfl,rfl,rfl,rfl,trivial⟩,hp⟩
    refine dX rfl ?_
    refine dL (wk0 rfl) rfl rfl hE hp rfl [N0,N0,N0] (fun w=>by simp[Instr.alloc,go_sem]<;>rfl) ?_
    intro a w b17 hE hp
    have hp:=r4 hp
    refine aB (aF ⟨fun _=>⟨_,(hp.less hle9)⟩,fun _=>⟨_,((hp.get 2 rfl).less hle9)⟩,fun _=>⟨_,((hp.get 3 rfl).less hle9)⟩,trivial⟩ fun hS=>?_)
    refine W1 3 (by kernel_rfl) rfl ?_
    refine Cl hE rfl rfl jM (bG p1 aJ (aH.mono bH hle9) hp x3 ex3) ⟨rfl,trivial⟩ fun v a w hR hE=>?_
    obtain⟨ρ11,U3,U4,G8,hle11,rfl,vX,vY,uA,hp⟩:=hR
    have hp:=r4 hp
    refine aB (aF ⟨fun _=>⟨_,((hp.less hle11).less hle9)⟩,fun _=>⟨_,(((hp.get 2 rfl).less hle11).less hle9)⟩,fun _=>⟨_,(((hp.get 3 rfl).less hle11).less hle9)⟩,trivial⟩ fun hS=>?_)
    refine W1 6 (by kernel_rfl) rfl ?_
    refine aX (wk0 rfl) rfl hE hp rfl rfl rfl 1 rfl dD.size_ rfl (aQ ⟨(aH.one (aH.mono pW hle11)),(aH.one (aH.mono pX hle11)),(aH.one (aH.mono nS hle11)),trivial⟩) [xU,xW,wP] rfl ?_
    intro w hp
    have hp:=r4 hp
    refine aB (aF ⟨fun _=>⟨_,((hp.less hle11).less hle9)⟩,fun _=>⟨_,(((hp.get 2 rfl).less hle11).less hle9)⟩,fun _=>⟨_,(((hp.get 3 rfl).less hle11).less hle9)⟩,trivial⟩ fun hS=>?_)
    refine W1 7 (by kernel_rfl) rfl ?_
    refine aX (wk0 rfl) rfl hE hp rfl rfl rfl 0 rfl dD.size_ rfl (aQ ⟨(aH.one vX),(aH.one vY),(aH.one uA),trivial⟩) [U3,U4,G8] rfl ?_
    intro w hp
    have hp:=r4 hp
    refine aB (aF ⟨fun _=>⟨_,((hp.less hle11).less hle9)⟩,fun _=>⟨_,(((hp.get 2 rfl).less hle11).less hle9)⟩,fun _=>⟨_,(((hp.get 3 rfl).less hle11).less hle9)⟩,trivial⟩ fun hS=>?_)
    refine Ts [8] hE hS rfl rfl (by kernel_rfl) fun a hE hS=>?_
    exact bP (by kernel_rfl) ⟨ρ11,_,_,_,_,_,_,_,_,(PH.le.tr hle9 hle11),vX,vY,uA,(aH.mono pW hle11),(aH.mono pX hle11),(aH.mono nS hle11),hE.cut ⟨rfl,rfl,rfl,rfl,trivial⟩,hp⟩
   refine dX rfl ?_
   refine dL (wk0 rfl) rfl rfl hE hp rfl [N0,N0,N0] (fun w=>by simp[Instr.alloc,go_sem]<;>rfl) ?_
   intro a w b18 hE hp
   have hp:=r4 hp
   refine aB (aF ⟨gp0 hp,gp 2 hp rfl,gp 3 hp rfl,trivial⟩ fun hS=>?_)
   refine W1 1 (by kernel_rfl) rfl ?_
   refine Cl hE rfl rfl jM (bG p0 aI bD hp x2 ex2) ⟨rfl,trivial⟩ fun v a w hR hE=>?_
   obtain⟨ρ12,U5,U6,G9,hle12,rfl,vZ,wB,uB,hp⟩:=hR
   have hp:=r4 hp
   refine aB (aF ⟨fun _=>⟨_,(hp.less hle12)⟩,fun _=>⟨_,((hp.get 2 rfl).less hle12)⟩,fun _=>⟨_,((hp.get 3 rfl).less hle12)⟩,trivial⟩ fun hS=>?_)
   refine W1 3 (by kernel_rfl) rfl ?_
   refine Cl hE rfl rfl jM (bG p1 aJ (aH.mono bH hle12) hp x3 ex3) ⟨rfl,trivial⟩ fun v a w hR hE=>?_
   obtain⟨ρ13,zV,zW,yS,hle13,rfl,sF,sG,qN,hp⟩:=hR
   have hp:=r4 hp
   refine aB (aF ⟨fun _=>⟨_,((hp.less hle13).less hle12)⟩,fun _=>⟨_,(((hp.get 2 rfl).less hle13).less hle12)⟩,fun _=>⟨_,(((hp.get 3 rfl).less hle13).less hle12)⟩,trivial⟩ fun hS=>?_)
   refine W1 6 (by kernel_rfl) rfl ?_
   refine aX (wk0 rfl) rfl hE hp rfl rfl rfl 1 rfl dD.size_ rfl (aQ ⟨(aH.one (aH.mono vZ hle13)),(aH.one (aH.mono wB hle13)),(aH.one (aH.mono uB hle13)),trivial⟩) [U5,U6,G9] rfl ?_
   intro w hp
   have hp:=r4 hp
   refine aB (aF ⟨fun _=>⟨_,((hp.less hle13).less hle12)⟩,fun _=>⟨_,(((hp.get 2 rfl).less hle13).less hle12)⟩,fun _=>⟨_,(((hp.get 3 rfl).less hle13).less hle12)⟩,trivial⟩ fun hS=>?_)
   refine W1 7 (by kernel_rfl) rfl ?_
   refine aX (wk0 rfl) rfl hE hp rfl rfl rfl 0 rfl dD.size_ rfl (aQ ⟨(aH.one sF),(aH.one sG),(aH.one qN),trivial⟩) [zV,zW,yS] rfl ?_
   intro w hp
   have hp:=r4 hp
   refine aB (aF ⟨fun _=>⟨_,((hp.less hle13).less hle12)⟩,fun _=>⟨_,(((hp.get 2 rfl).less hle13).less hle12)⟩,fun _=>⟨_,(((hp.get 3 rfl).less hle13).less hle12)⟩,trivial⟩ fun hS=>?_)
   refine Ts [8] hE hS rfl rfl (by kernel_rfl) fun a hE hS=>?_
   exact bP (by kernel_rfl) ⟨ρ13,_,_,_,_,_,_,_,_,(PH.le.tr hle12 hle13),sF,sG,qN,(aH.mono vZ hle13),(aH.mono wB hle13),(aH.mono uB hle13),hE.cut ⟨rfl,rfl,rfl,rfl,trivial⟩,hp⟩
  refine dX rfl ?_
  refine dL (wk0 rfl) rfl rfl hE hp rfl [N0,N0,N0] (fun w=>by simp[Instr.alloc,go_sem]<;>rfl) ?_
  intro a w b19 hE hp
  have hp:=r3 hp
  refine aB (aF ⟨gp0 hp,gp 1 hp rfl,gp 2 hp rfl,trivial⟩ fun hS=>?_)
  refine gW [1,4] (by kernel_rfl) rfl ?_
  refine List.forall_mem_cons.2 ⟨?_,List.forall_mem_cons.2 ⟨?_,fun _ h=>absurd h (by simp)⟩⟩
  ·
   refine dX rfl ?_
   refine Cl hE rfl rfl jM (bG p0 aI bD hp x2 ex2) ⟨rfl,trivial⟩ fun v a w hR hE=>?_
   obtain⟨ρ14,xX,xY,wQ,hle14,rfl,pY,qA,nT,hp⟩:=hR
   have hp:=r3 hp
   refine aB (aF ⟨fun _=>⟨_,(hp.less hle14)⟩,fun _=>⟨_,((hp.get 1 rfl).less hle14)⟩,fun _=>⟨_,((hp.get 2 rfl).less hle14)⟩,trivial⟩ fun hS=>?_)
   refine gW [3,4] (by kernel_rfl) rfl ?_
   refine List.forall_mem_cons.2 ⟨?_,List.forall_mem_cons.2 ⟨?_,fun _ h=>absurd h (by simp)⟩⟩
   ·
    refine dX rfl ?_
    refine Cl hE rfl rfl jM (bG p1 aJ (aH.mono bH hle14) hp x3 ex3) ⟨rfl,trivial⟩ fun v a w hR hE=>?_
    obtain⟨ρ15,U7,U9,H5,hle15,rfl,wC,wE,uC,hp⟩:=hR
    have hp:=r3 hp
    refine aB (aF ⟨fun _=>⟨_,((hp.less hle15).less hle14)⟩,fun _=>⟨_,(((hp.get 1 rfl).less hle15).less hle14)⟩,fun _=>⟨_,(((hp.get 2 rfl).less hle15).less hle14)⟩,trivial⟩ fun hS=>?_)
    refine W1 4 (by kernel_rfl) rfl ?_
    refine dL (wk0 rfl) rfl rfl hE hp rfl [N0,N0,N0] (fun w=>by simp[Instr.alloc,go_sem]<;>rfl) ?_
    intro a w b20 hE hp
    have hp:=r4 hp
    refine aB (aF ⟨fun _=>⟨_,((hp.less hle15).less hle14)⟩,fun _=>⟨_,(((hp.get 2 rfl).less hle15).less hle14)⟩,fun _=>⟨_,(((hp.get 3 rfl).less hle15).less hle14)⟩,trivial⟩ fun hS=>?_)
    refine W1 6 (by kernel_rfl) rfl ?_
    refine aX (wk0 rfl) rfl hE hp rfl rfl rfl 0 rfl dD.size_ rfl (aQ ⟨(aH.one (aH.mono pY hle15)),(aH.one (aH.mono qA hle15)),(aH.one (aH.mono nT hle15)),trivial⟩) [xX,xY,wQ] rfl ?_
    intro w hp
    have hp:=r4 hp
    refine aB (aF ⟨fun _=>⟨_,((hp.less hle15).less hle14)⟩,fun _=>⟨_,(((hp.get 2 rfl).less hle15).less hle14)⟩,fun _=>⟨_,(((hp.get 3 rfl).less hle15).less hle14)⟩,trivial⟩ fun hS=>?_)
    refine W1 7 (by kernel_rfl) rfl ?_
    refine aX (wk0 rfl) rfl hE hp rfl rfl rfl 1 rfl dD.size_ rfl (aQ ⟨(aH.one wC),(aH.one wE),(aH.one uC),trivial⟩) [U7,U9,H5] rfl ?_
    intro w hp
    have hp:=r4 hp
    refine aB (aF ⟨fun _=>⟨_,((hp.less hle15).less hle14)⟩,fun _=>⟨_,(((hp.get 2 rfl).less hle15).less hle14)⟩,fun _=>⟨_,(((hp.get 3 rfl).less hle15).less hle14)⟩,trivial⟩ fun hS=>?_)
    refine Ts [8] hE hS rfl rfl (by kernel_rfl) fun a hE hS=>?_
    exact bP (by kernel_rfl) ⟨ρ15,_,_,_,_,_,_,_,_,(PH.le.tr hle14 hle15),wC,wE,uC,(aH.mono pY hle15),(aH.mono qA hle15),(aH.mono nT hle15),hE.cut ⟨rfl,rfl,rfl,rfl,trivial⟩,((((hp.get 3 rfl).get 3 rfl).get 2 rfl).get 3 rfl)⟩
   refine dX rfl ?_
   refine dL (wk0 rfl) rfl rfl hE hp rfl [N0,N0,N0] (fun w=>by simp[Instr.alloc,go_sem]<;>rfl) ?_
   intro a w b21 hE hp
   have hp:=r4 hp
   refine aB (aF ⟨fun _=>⟨_,(hp.less hle14)⟩,fun _=>⟨_,((hp.get 2 rfl).less hle14)⟩,fun _=>⟨_,((hp.get 3 rfl).less hle14)⟩,trivial⟩ fun hS=>?_)
   refine W1 3 (by kernel_rfl) rfl ?_
   refine Cl hE rfl rfl jM (bG p1 aJ (aH.mono bH hle14) hp x3 ex3) ⟨rfl,trivial⟩ fun v a w hR hE=>?_
   obtain⟨ρ16,V3,V4,H6,hle16,rfl,wF,wG,uD,hp⟩:=hR
   have hp:=r4 hp
   refine aB (aF ⟨fun _=>⟨_,((hp.less hle16).less hle14)⟩,fun _=>⟨_,(((hp.get 2 rfl).less hle16).less hle14)⟩,fun _=>⟨_,(((hp.get 3 rfl).less hle16).less hle14)⟩,trivial⟩ fun hS=>?_)
   refine W1 6 (by kernel_rfl) rfl ?_
   refine aX (wk0 rfl) rfl hE hp rfl rfl rfl 0 rfl dD.size_ rfl (aQ ⟨(aH.one (aH.mono pY hle16)),(aH.one (aH.mono qA hle16)),(aH.one (aH.mono nT hle16)),trivial⟩) [xX,xY,wQ] rfl ?_
   intro w hp
   have hp:=r4 hp
   refine aB (aF ⟨fun _=>⟨_,((hp.less hle16).less hle14)⟩,fun _=>⟨_,(((hp.get 2 rfl).less hle16).less hle14)⟩,fun _=>⟨_,(((hp.get 3 rfl).less hle16).less hle14)⟩,trivial⟩ fun hS=>?_)
   refine W1 7 (by kernel_rfl) rfl ?_
   refine aX (wk0 rfl) rfl hE hp rfl rfl rfl 1 rfl dD.size_ rfl (aQ ⟨(aH.one wF),(aH.one wG),(aH.one uD),trivial⟩) [V3,V4,H6] rfl ?_
   intro w hp
   have hp:=r4 hp
   refine aB (aF ⟨fun _=>⟨_,((hp.less hle16).less hle14)⟩,fun _=>⟨_,(((hp.get 2 rfl).less hle16).less hle14)⟩,fun _=>⟨_,(((hp.get 3 rfl).less hle16).less hle14)⟩,trivial⟩ fun hS=>?_)
   refine Ts [8] hE hS rfl rfl (by kernel_rfl) fun a hE hS=>?_
   exact bP (by kernel_rfl) ⟨ρ16,_,_,_,_,_,_,_,_,(PH.le.tr hle14 hle16),wF,wG,uD,(aH.mono pY hle16),(aH.mono qA hle16),(aH.mono nT hle16),hE.cut ⟨rfl,rfl,rfl,rfl,trivial⟩,((((hp.get 3 rfl).get 3 rfl).get 2 rfl).get 3 rfl)⟩
  refine dX rfl ?_
  refine dL (wk0 rfl) rfl rfl hE hp rfl [N0,N0,N0] (fun w=>by simp[Instr.alloc,go_sem]<;>rfl) ?_
  intro a w b22 hE hp
  have hp:=r4 hp
  refine aB (aF ⟨gp0 hp,gp 2 hp rfl,gp 3 hp rfl,trivial⟩ fun hS=>?_)
  refine W1 1 (by kernel_rfl) rfl ?_
  refine Cl hE rfl rfl jM (bG p0 aI bD hp x2 ex2) ⟨rfl,trivial⟩ fun v a w hR hE=>?_
  obtain⟨ρ17,V5,V6,H7,hle17,rfl,wH,wI,uF,hp⟩:=hR
  have hp:=r4 hp
  refine aB (aF ⟨fun _=>⟨_,(hp.less hle17)⟩,fun _=>⟨_,((hp.get 2 rfl).less hle17)⟩,fun _=>⟨_,((hp.get 3 rfl).less hle17)⟩,trivial⟩ fun hS=>?_)
  refine W1 3 (by kernel_rfl) rfl ?_
  refine Cl hE rfl rfl jM (bG p1 aJ (aH.mono bH hle17) hp x3 ex3) ⟨rfl,trivial⟩ fun v a w hR hE=>?_
  obtain⟨ρ18,aI3,aI4,aF6,hle18,rfl,P8,P9,E8,hp⟩:=hR
  have hp:=r4 hp
  refine aB (aF ⟨fun _=>⟨_,((hp.less hle18).less hle17)⟩,fun _=>⟨_,(((hp.get 2 rfl).less hle18).less hle17)⟩,fun _=>⟨_,(((hp.get 3 rfl).less hle18).less hle17)⟩,trivial⟩ fun hS=>?_)
  refine W1 6 (by kernel_rfl) rfl ?_
  refine aX (wk0 rfl) rfl hE hp rfl rfl rfl 0 rfl dD.size_ rfl (aQ ⟨(aH.one (aH.mono wH hle18)),(aH.one (aH.mono wI hle18)),(aH.one (aH.mono uF hle18)),trivial⟩) [V5,V6,H7] rfl ?_
  intro w hp
  have hp:=r4 hp
  refine aB (aF ⟨fun _=>⟨_,((hp.less hle18).less hle17)⟩,fun _=>⟨_,(((hp.get 2 rfl).less hle18).less hle17)⟩,fun _=>⟨_,(((hp.get 3 rfl).less hle18).less hle17)⟩,trivial⟩ fun hS=>?_)
  refine W1 7 (by kernel_rfl) rfl ?_
  refine aX (wk0 rfl) rfl hE hp rfl rfl rfl 1 rfl dD.size_ rfl (aQ ⟨(aH.one P8),(aH.one P9),(aH.one E8),trivial⟩) [aI3,aI4,aF6] rfl ?_
  intro w hp
  have hp:=r4 hp
  refine aB (aF ⟨fun _=>⟨_,((hp.less hle18).less hle17)⟩,fun _=>⟨_,(((hp.get 2 rfl).less hle18).less hle17)⟩,fun _=>⟨_,(((hp.get 3 rfl).less hle18).less hle17)⟩,trivial⟩ fun hS=>?_)
  refine Ts [8] hE hS rfl rfl (by kernel_rfl) fun a hE hS=>?_
  exact bP (by kernel_rfl) ⟨ρ18,_,_,_,_,_,_,_,_,(PH.le.tr hle17 hle18),P8,P9,E8,(aH.mono wH hle18),(aH.mono wI hle18),(aH.mono uF hle18),hE.cut ⟨rfl,rfl,rfl,rfl,trivial⟩,((((hp.get 3 rfl).get 3 rfl).get 2 rfl).get 3 rfl)⟩
 rintro a w ⟨ρy1,y4,y3,yv1,yv2,yv3,yv4,yv5,yv6,hley1,yh1,yh2,yh3,yh4,yh5,yh6,hE,hp⟩
 refine aG (aG ?_)
 refine aA (S hE 1 rfl fun a hE=>?_)
 refine V hE hp rfl (bT rfl hE rfl (aH.len (aH.mono hp2 hley1) dW)) fun a hE=>S hE 1 rfl fun a hE=>aB ?_
 obtain⟨b23,hc2,hm⟩:=bnd hm
 refine dH (fun a w=>Env 56 [(10,(Iv b23))] a∧Hp Z ρy1 (Pt y4 (.cells #[yv1,yv2,yv3] 75 (0,0))::Pt y3 (.cells #[yv4,yv5,yv6] 75 (0,0))::Pt b2 (.cells #[(Iv p1.kind),(.string p1.text),(Iv p1.at_),(Iv p1.fin),aJ] 24 (0,0))::Pt b1 (.cells #[(Iv p0.kind),(.string p0.text),(Iv p0.at_),(Iv p0.fin),aI] 24 (0,0))::L) w) ?_ ?_
 ·refine dZ hc2 (fun s a w=>Env 56 [(8,(Pv y3 0)),(9,(Pv y4 0)),(10,(Iv s.1)),(22,vp2),(23,(Iv (p2.length:Int))),(24,(Iv s.2))] a∧Hp Z ρy1 (Pt y4 (.cells #[yv1,yv2,yv3] 75 (0,0))::Pt y3 (.cells #[yv4,yv5,yv6] 75 (0,0))::Pt b2 (.cells #[(Iv p1.kind),(.string p1.text),(Iv p1.at_),(Iv p1.fin),aJ] 24 (0,0))::Pt b1 (.cells #[(Iv p0.kind),(.string p0.text),(Iv p0.at_),(Iv p0.fin),aI] 24 (0,0))::L) w) ?_ ?_
  ·exact⟨hE.cut ⟨rfl,rfl,rfl,rfl,rfl,rfl,trivial⟩,hp⟩
  rintro⟨aP,aU⟩ st a w ⟨hE,hp⟩ hl1
  dsimp only at hE hp hl1
  unfold sZ at hl1
  refine aG (aA ?_)
  refine S hE 1 rfl fun a hE=>aB (aG ?_)
  refine dE hE rfl (fun hc3=>?_) (fun hc3=>?_)
  ·replace hl1:=(it hc3).symm.trans hl1
   refine aZ (aG ?_)
   refine dM (aG ?_)
   refine aA ?_
   obtain⟨x4,ex4,hl1⟩:=bnd hl1
   obtain⟨b24,b24o,b24c,b24r,b24k,b24f⟩:=aH.at (aH.mono hp2 hley1) dW ex4
   obtain rfl:b24c=Enc.enc x4:=b24k
   have b24f:AtP ρy1 b24 b24o [(Iv x4.a),(Iv x4.b)]:=b24f
   refine V hE hp rfl (aN rfl hE rfl rfl b24r) fun a hE=>V hE hp rfl (aK rfl hE rfl (fun w hw=>aW (cs:=[(Iv x4.a),(Iv x4.b)]) fF (fun j u hj=>cell_of hw.le (b24f j u hj)))) fun a hE=>?_
   refine dL (wk0 rfl) rfl rfl hE hp rfl [(Iv 0),(Iv 0)] (fun w=>by simp[Instr.alloc,go_sem]<;>rfl) ?_
   intro a w b25 hE hp
   have hp:=r5 hp
   refine aX (wk0 rfl) rfl hE hp rfl rfl rfl 0 rfl fF.size_ rfl (aQ ⟨rfl,rfl,trivial⟩) [(Iv x4.a),(Iv x4.b)] rfl ?_
   intro w hp
   have hp:=r5 hp
   refine aB (aG ?_)
   refine jR (by kernel_rfl) (by kernel_rfl) hp ?_
   refine Vq hE rfl (xf hE fA rfl rfl) fun a hE=>Vq hE rfl (xl hE aT 0 rfl rfl rfl rfl) fun a hE=>Sq hE 2 rfl fun a hE=>?_
   refine Q9 [_,_,_,_] (fun a=>Env 56 [(35,(.bool ((decide (x4.a<0))||(decide (x4.b<0))))),(8,(Pv y3 0)),(9,(Pv y4 0)),(10,(Iv aP)),(12,(Pv b25 0)),(22,vp2),(23,(Iv (p2.length:Int))),(24,(Iv aU))] a) ?_ ?_
   ·rcases Bool.eq_false_or_eq_true (decide (x4.a<0)) with hc4|hc4
    ·
     refine Gkq hE hc4 rfl fun a hE=>Gkq hE hc4 rfl fun a hE=>Gkq hE hc4 rfl fun a hE=>?_
     refine Vq hE rfl (v:=(.bool true)) (iD rfl hE rfl hc4 rfl) fun a hE=>?_
     have hE:=hE.eqv (v':=(.bool ((decide (x4.a<0))||(decide (x4.b<0))))) (by rw[hc4];rfl)
     exact iM (hE.cut ⟨rfl,rfl,rfl,rfl,rfl,rfl,rfl,rfl,trivial⟩)
    refine Gq hE hc4 rfl (xf hE dK rfl rfl) fun a hE=>Gq hE hc4 rfl (xl hE aT 0 rfl rfl rfl rfl) fun a hE=>Gq hE hc4 rfl (P7 rfl hE rfl rfl) fun a hE=>Vq hE rfl (v:=(.bool (decide (x4.b<0)))) (gQ rfl hE rfl hc4 rfl) fun a hE=>?_
    have hE:=hE.eqv (v':=(.bool ((decide (x4.a<0))||(decide (x4.b<0))))) (by rw[hc4];rfl)
    exact iM (hE.cut ⟨rfl,rfl,rfl,rfl,rfl,rfl,rfl,rfl,trivial⟩)
   intro a hE
   refine Sq hE 1 rfl fun a hE=>?_
   obtain⟨m1,hg1,hl1⟩:=bnd hl1
   refine Q9 [_,_,_,_,_,_,_,_,_,_,_,_,_,_,_] (fun a=>Env 56 [(51,(.bool m1)),(8,(Pv y3 0)),(9,(Pv y4 0)),(10,(Iv aP)),(22,vp2),(23,(Iv (p2.length:Int))),(24,(Iv aU))] a) ?_ ?_
   ·rcases Bool.eq_false_or_eq_true ((decide (x4.a<0))||(decide (x4.b<0))) with hc5|hc5
    ·
     replace hg1:=(it hc5).symm.trans hg1
     refine Gkq hE hc5 rfl fun a hE=>Gkq hE hc5 rfl fun a hE=>Gkq hE hc5 rfl fun a hE=>Gkq hE hc5 rfl fun a hE=>Gkq hE hc5 rfl fun a hE=>Gkq hE hc5 rfl fun a hE=>Gkq hE hc5 rfl fun a hE=>Gkq hE hc5 rfl fun a hE=>Gkq hE hc5 rfl fun a hE=>Gkq hE hc5 rfl fun a hE=>Gkq hE hc5 rfl fun a hE=>Gkq hE hc5 rfl fun a hE=>Gkq hE hc5 rfl fun a hE=>Gkq hE hc5 rfl fun a hE=>?_
     refine Vq hE rfl (v:=(.bool true)) (iD rfl hE rfl hc5 rfl) fun a hE=>?_
     obtain rfl:=oj hg1
     exact iM (hE.cut ⟨rfl,rfl,rfl,rfl,rfl,rfl,rfl,trivial⟩)
    replace hg1:=(ie hc5).symm.trans hg1
    refine Gq hE hc5 rfl (xf hE kK rfl rfl) fun a hE=>Gq hE hc5 rfl (xl hE iT 2 rfl rfl rfl rfl) fun a hE=>Gq hE hc5 rfl (xf hE fA rfl rfl) fun a hE=>Gq hE hc5 rfl (xl hE aT 0 rfl rfl rfl rfl) fun a hE=>?_
    obtain⟨x5,ex5,hg1⟩:=bnd hg1
    obtain⟨b26,b26o,b26c,b26r,b26k,b26f⟩:=aH.at yh4 jI ex5
    obtain⟨aG9,rfl,hb26_kids⟩:=NodeAt.opens b26k
    have b26f:AtP ρy1 b26 b26o [(Iv x5.kind),(.string x5.text),(Iv x5.at_),(Iv x5.fin),aG9]:=b26f
    refine Gq hE hc5 rfl (aN rfl hE rfl rfl b26r) fun a hE=>Gq hE hc5 rfl (aK rfl hE rfl (fun w hw=>aW (cs:=[(Iv x5.kind),(.string x5.text),(Iv x5.at_),(Iv x5.fin),aG9]) bY (fun j u hj=>cell_of hw.le (b26f j u hj)))) fun a hE=>Gq hE hc5 rfl (xf hE kK rfl rfl) fun a hE=>Gq hE hc5 rfl (xl hE iT 1 rfl rfl rfl rfl) fun a hE=>Gq hE hc5 rfl (xf hE dK rfl rfl) fun a hE=>Gq hE hc5 rfl (xl hE aT 0 rfl rfl rfl rfl) fun a hE=>?_
    obtain⟨x6,ex6,hg1⟩:=bnd hg1
    obtain⟨b27,b27o,b27c,b27r,b27k,b27f⟩:=aH.at yh1 jI ex6
    obtain⟨aH0,rfl,hb27_kids⟩:=NodeAt.opens b27k
    have b27f:AtP ρy1 b27 b27o [(Iv x6.kind),(.string x6.text),(Iv x6.at_),(Iv x6.fin),aH0]:=b27f
    refine Gq hE hc5 rfl (aN rfl hE rfl rfl b27r) fun a hE=>Gq hE hc5 rfl (aK rfl hE rfl (fun w hw=>aW (cs:=[(Iv x6.kind),(.string x6.text),(Iv x6.at_),(Iv x6.fin),aH0]) bY (fun j u hj=>cell_of hw.le (b27f j u hj)))) fun a hE=>?_
    obtain⟨x7,ex7,hg1⟩:=bnd hg1
    refine Y7 (wk1 hE rfl rfl rfl hc5) rfl rfl hE rfl [(.agg #[(Iv x5.kind),(.string x5.text),(Iv x5.at_),(Iv x5.fin),aG9]),(.agg #[(Iv x6.kind),(.string x6.text),(Iv x6.at_),(Iv x6.fin),aH0])] ⟨rfl,rfl,trivial⟩ ent41 (v:=(.bool x7)) (fun w hw=>Calls.mono (yX x5 aG9 hb26_kids x6 aH0 hb27_kids hw x7 ex7) fun e w' ⟨v,he,hv,hh⟩=>⟨by rw[he,hv],hh⟩) ?_
    intro a hE
    refine Gq hE hc5 rfl (ex_not rfl hE rfl) fun a hE=>Vq hE rfl (v:=(.bool (!x7))) (gQ rfl hE rfl hc5 rfl) fun a hE=>?_
    obtain rfl:=oj hg1
    exact iM (hE.cut ⟨rfl,rfl,rfl,rfl,rfl,rfl,rfl,trivial⟩)
   intro a hE
   refine iM fun w hp=>?_
   have hp:=r5 hp
   refine dE hE rfl (fun hc6=>?_) (fun hc6=>?_)
   ·replace hl1:=(it hc6).symm.trans hl1
    refine aA (S hE 1 rfl fun a hE=>?_)
    obtain⟨x8,ex8,hl1⟩:=bnd hl1
    refine V hE hp rfl (bF rfl hE rfl rfl (aO ex8)) fun a hE=>S hE 1 rfl fun a hE=>aB (aA ?_)
    obtain⟨x9,ex9,hl1⟩:=bnd hl1
    refine V hE hp rfl (bF rfl hE rfl rfl (aO ex9)) fun a hE=>S hE 1 rfl fun a hE=>aB ?_
    exact⟨_,(oj hl1).symm,hE.cut ⟨rfl,rfl,rfl,rfl,rfl,rfl,trivial⟩,(hp.drop)⟩
   replace hl1:=(ie hc6).symm.trans hl1
   refine aZ (aA ?_)
   obtain⟨x10,ex10,hl1⟩:=bnd hl1
   refine V hE hp rfl (bF rfl hE rfl rfl (aO ex10)) fun a hE=>S hE 1 rfl fun a hE=>aB ?_
   exact⟨_,(oj hl1).symm,hE.cut ⟨rfl,rfl,rfl,rfl,rfl,rfl,trivial⟩,(hp.drop)⟩
  replace hl1:=(ie hc3).symm.trans hl1
  refine dS ?_
  refine⟨_,(oj hl1).symm,fun hbb=>?_⟩
  subst hbb
  exact⟨hE.cut ⟨rfl,trivial⟩,hp⟩
 rintro a w ⟨hE,hp⟩
 refine aG (aA ?_)
 refine S hE 3 rfl fun a hE=>aB (bZ ?_)
 obtain rfl:=oj hm
 exact yU hE rfl rfl rfl ⟨_,rfl,rfl,((((((((hp.get 3 rfl).drop).get 2 rfl).drop).get 1 rfl).drop).drop).less hley1)⟩
end Go.Proofs.YtopnldfjcciieaaGreat

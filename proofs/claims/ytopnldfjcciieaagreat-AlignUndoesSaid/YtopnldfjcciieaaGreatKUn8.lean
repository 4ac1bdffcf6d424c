/- The code goes as its model: slices.Index[[]bool,bool], slices.Contains[[]bool,bool], assessor/align.Valid, assessor/align.Cost. (Printed by wip/sp/gen.py.) -/
import Derived.Test.YtopnldfjcciieaaGreatKUnT
import Derived.Test.YtopnldfjcciieaaGreatKUn3
import Derived.Test.YtopnldfjcciieaaGreatKUn5
import Derived.Test.YtopnldfjcciieaaGreatKUn7
set_option linter.unusedVariables false
set_option linter.unusedSimpArgs false
set_option maxRecDepth 100000
set_option maxHeartbeats 4000000
namespace Go.Proofs.YtopnldfjcciieaaGreat
open Go.RowKit
theorem P7 {Z:World} {ρ:PH} {L:List bI} {w:World} (p0:(List Bool)) (vp0:Value) (hp0:aH ρ vp0 p0) (p1:Bool) (hp:Hp Z ρ (L) w) (r:Int) (hm:qC p0 p1=some r):
  Calls Tryz.prog 66 #[vp0,(.bool p1)] w (Ret fun v w'=>v=(Iv r)∧Hp Z ρ (L) w'):=by
 refine enter (N:=19) Tryz.func66 rfl rfl [(0,vp0),(1,(.bool p1))] rfl (aY ⟨rfl,rfl,trivial⟩) fun a hE=>?_
 unfold qC at hm
 refine aF (aA ?_)
 refine S hE 1 rfl fun a hE=>aB (aF ?_)
 refine aF (aA ?_)
 refine S hE 1 rfl fun a hE=>V hE hp rfl (dB rfl hE rfl (aH.len hp0 zT)) fun a hE=>S hE 1 rfl fun a hE=>aB ?_
 obtain⟨b1,hc1,hm⟩:=bnd hm
 refine dJ (fun a w=>∃s:Unit,b1= .brk s∧(Env 19 [] a∧Hp Z ρ (L) w)) ?_ ?_
 ·refine dY hc1 (fun s a w=>Env 19 [(0,vp0),(1,(.bool p1)),(7,(Iv (p0.length:Int))),(8,(Iv s))] a∧Hp Z ρ (L) w) ?_ ?_
  ·exact⟨hE.cut ⟨rfl,rfl,rfl,rfl,trivial⟩,hp⟩
  rintro aQ st a w ⟨hE,hp⟩ hl1
  unfold sH at hl1
  refine aF (aA ?_)
  refine S hE 1 rfl fun a hE=>aB (aF ?_)
  refine dI hE rfl (fun hc2=>?_) (fun hc2=>?_)
  ·replace hl1:=(it hc2).symm.trans hl1
   refine bC (aF ?_)
   refine dN (aF ?_)
   refine aA (S hE 2 rfl fun a hE=>?_)
   refine aB (aF ?_)
   refine aA (S hE 3 rfl fun a hE=>?_)
   obtain⟨x1,ex1,hl1⟩:=bnd hl1
   obtain⟨b2,b2o,b2c,b2r,b2k,b2f⟩:=aH.at hp0 zT ex1
   obtain rfl:b2c=Enc.enc x1:=b2k
   have b2f:AtP ρ b2 b2o [(.bool x1)]:=b2f
   refine V hE hp rfl (aO rfl hE rfl rfl b2r) fun a hE=>V hE hp rfl (aJ rfl hE rfl (fun w hw=>bG aC2 (b2f.c 0 rfl w hw))) fun a hE=>V hE hp rfl (v:=(.bool (p1==x1))) (ex_beql bty4 rfl hE rfl rfl) fun a hE=>aB ?_
   have hE:=hE.cut (E':=[(0,vp0),(1,(.bool p1)),(5,(Iv aQ)),(7,(Iv (p0.length:Int))),(8,(Iv aQ)),(16,(.bool (p1==x1)))]) ⟨rfl,rfl,rfl,rfl,rfl,rfl,trivial⟩
   refine dI hE rfl (fun hc3=>?_) (fun hc3=>?_)
   ·replace hl1:=(it hc3).symm.trans hl1
    refine aF (aA ?_)
    refine S hE 2 rfl fun a hE=>aB (dD ?_)
    refine⟨_,(oj hl1).symm,fun hb=>?_⟩
    subst hb
    obtain rfl:=oj hm
    exact gK hE rfl rfl ⟨_,rfl,rfl,hp⟩
   replace hl1:=(ie hc3).symm.trans hl1
   refine bC (aA ?_)
   obtain⟨x2,ex2,hl1⟩:=bnd hl1
   refine V hE hp rfl (bF rfl hE rfl rfl (aK ex2)) fun a hE=>S hE 1 rfl fun a hE=>aB ?_
   exact⟨_,(oj hl1).symm,hE.cut ⟨rfl,rfl,rfl,rfl,trivial⟩,hp⟩
  replace hl1:=(ie hc2).symm.trans hl1
  refine dU ?_
  refine⟨_,(oj hl1).symm,fun hbb=>?_⟩
  exact⟨_,hbb.symm,hE.cut trivial,hp⟩
 rintro a w ⟨b1s,rfl,hE,hp⟩
 dsimp only at hm
 refine aF (aA ?_)
 refine S hE 1 rfl fun a hE=>aB (dD ?_)
 obtain rfl:=oj hm
 exact gK hE rfl rfl ⟨_,rfl,rfl,hp⟩
theorem zO {Z:World} {ρ:PH} {L:List bI} {w:World} (p0:(List Bool)) (vp0:Value) (hp0:aH ρ vp0 p0) (p1:Bool) (hp:Hp Z ρ (L) w) (r:Bool) (hm:oO p0 p1=some r):
  Calls Tryz.prog 46 #[vp0,(.bool p1)] w (Ret fun v w'=>v=(.bool r)∧Hp Z ρ (L) w'):=by
 refine enter (N:=9) Tryz.func46 rfl rfl [(0,vp0),(1,(.bool p1))] rfl (aY ⟨rfl,rfl,trivial⟩) fun a hE=>?_
 unfold oO at hm
 refine aF (aA ?_)
 refine S hE 1 rfl fun a hE=>aB (aF ?_)
 refine aA (S hE 2 rfl fun a hE=>?_)
 obtain⟨x1,ex1,hm⟩:=bnd hm
 refine Cl hE rfl rfl ent66 (P7 p0 vp0 hp0 p1 hp x1 ex1) ⟨rfl,rfl,trivial⟩ fun v a w hR hE=>?_
 obtain⟨rfl,hp⟩:=hR
 have hp:=r0 hp
 refine S hE 2 rfl fun a hE=>aB (dD ?_)
 obtain rfl:=oj hm
 exact gK hE rfl rfl ⟨_,rfl,rfl,hp⟩
theorem S9 {Z:World} {ρ:PH} {L:List bI} {w:World} (p0:Node) (aI:Value) (aZ:aH ρ aI p0.kids) (p1:Node) (aP:Value) (bU:aH ρ aP p1.kids) (p2:(List Opn)) (vp2:Value) (hp2:aH ρ vp2 p2) (hp:Hp Z ρ (L) w) (r:Bool) (hm:vV p0 p1 p2=some r):
  Calls Tryz.prog 17 #[(.agg #[(Iv p0.kind),(.string p0.text),(Iv p0.at_),(Iv p0.fin),aI]),(.agg #[(Iv p1.kind),(.string p1.text),(Iv p1.at_),(Iv p1.fin),aP]),vp2] w (Ret fun v w'=>v=(.bool r)∧Hp Z ρ (L) w'):=by
 refine enter (N:=174) Tryz.func17 rfl rfl [(0,(.agg #[(Iv p0.kind),(.string p0.text),(Iv p0.at_),(Iv p0.fin),aI])),(1,(.agg #[(Iv p1.kind),(.string p1.text),(Iv p1.at_),(Iv p1.fin),aP])),(2,vp2)] rfl (aY ⟨rfl,rfl,rfl,trivial⟩) fun a hE=>?_
 unfold vV at hm
 refine aF (aA ?_)
 refine iV (wk0 rfl) rfl rfl hE hp rfl (v:=(.agg #[(Iv p0.kind),(.string p0.text),(Iv p0.at_),(Iv p0.fin),aI])) rfl ?_
 intro a w b1 hE hp
 have hp:=r1 hp
 refine iV (wk0 rfl) rfl rfl hE hp rfl (v:=(.agg #[(Iv p1.kind),(.string p1.text),(Iv p1.at_),(Iv p1.fin),aP])) rfl ?_
 intro a w b2 hE hp
 have hp:=r2 hp
 refine S hE 1 rfl fun a hE=>aB (aF ?_)
 obtain⟨x1,ex1,hm⟩:=bnd hm
 obtain⟨x2,ex2,hm⟩:=bnd hm
 have hp:=hp.drew
 refine fO ([([],At0 Z ρ),([],At1 Z ρ (Pt b2 (.cells #[(Iv p1.kind),(.string p1.text),(Iv p1.at_),(Iv p1.fin),aP] 24 (0,0)))),([],At1 Z ρ (Pt b1 (.cells #[(Iv p0.kind),(.string p0.text),(Iv p0.at_),(Iv p0.fin),aI] 24 (0,0))))]:Facts) (fun a w=>∃ρy1:PH,∃y4:Nat,∃y3:Nat,∃yv1:Value,∃yv2:Value,∃yv3:Value,∃yv4:Value,∃yv5:Value,∃yv6:Value,ρ.le ρy1∧aH ρy1 yv1 x2.nodes∧aH ρy1 yv2 x2.sizes∧aH ρy1 yv3 x2.parent∧aH ρy1 yv4 x1.nodes∧aH ρy1 yv5 x1.sizes∧aH ρy1 yv6 x1.parent∧Env 174 [(2,vp2),(7,(Pv y3 0)),(8,(Pv y4 0))] a∧Hp Z ρy1 (Pt y4 (.cells #[yv1,yv2,yv3] 75 (0,0))::Pt y3 (.cells #[yv4,yv5,yv6] 75 (0,0))::Pt b2 (.cells #[(Iv p1.kind),(.string p1.text),(Iv p1.at_),(Iv p1.fin),aP] 24 (0,0))::Pt b1 (.cells #[(Iv p0.kind),(.string p0.text),(Iv p0.at_),(Iv p0.fin),aI] 24 (0,0))::L) w) (by kernel_rfl) ⟨fun _=>⟨_,hp⟩,fun _=>⟨_,(hp.get 0 rfl)⟩,fun _=>⟨_,(hp.get 1 rfl)⟩,trivial⟩ (fun hS=>?_) ?_
 ·
  generalize w.drew=w at hS hp⊢
  refine T 0 2 hE hS rfl rfl rfl (by kernel_rfl) (fun _=>aJ rfl hE rfl (fun w hw=>aW (cs:=[(Iv p0.kind),(.string p0.text),(Iv p0.at_),(Iv p0.fin),aI]) bV (Hp.cN 0 rfl 0 _ (aS rfl) w hw))) fun a hE hS=>T 2 1 hE hS rfl rfl rfl (by kernel_rfl) (fun _=>aJ rfl hE rfl (fun w hw=>aW (cs:=[(Iv p1.kind),(.string p1.text),(Iv p1.at_),(Iv p1.fin),aP]) bV (Hp.cN 0 rfl 0 _ (aS rfl) w hw))) fun a hE hS=>?_
  refine fQ [1,4,5] (by kernel_rfl) rfl ?_
  refine List.forall_mem_cons.2 ⟨?_,List.forall_mem_cons.2 ⟨?_,List.forall_mem_cons.2 ⟨?_,fun _ h=>absurd h (by simp)⟩⟩⟩
  ·
   refine dQ rfl ?_
   refine Cl hE rfl rfl jA (bD p0 aI aZ hp x1 ex1) ⟨rfl,trivial⟩ fun v a w hR hE=>?_
   obtain⟨ρ3,F8,F9,yK,hle3,rfl,qF,qG,oM,hp⟩:=hR
   have hp:=r2 hp
   refine aB (aC ⟨fun _=>⟨_,(hp.less hle3)⟩,fun _=>⟨_,((hp.get 0 rfl).less hle3)⟩,fun _=>⟨_,((hp.get 1 rfl).less hle3)⟩,trivial⟩ fun hS=>?_)
   refine fQ [3,4,5] (by kernel_rfl) rfl ?_
   refine List.forall_mem_cons.2 ⟨?_,List.forall_mem_cons.2 ⟨?_,List.forall_mem_cons.2 ⟨?_,fun _ h=>absurd h (by simp)⟩⟩⟩
   ·
    refine dQ rfl ?_
    refine Cl hE rfl rfl jA (bD p1 aP (aH.mono bU hle3) hp x2 ex2) ⟨rfl,trivial⟩ fun v a w hR hE=>?_
    obtain⟨ρ4,lZ,mD,kL,hle4,rfl,fG,fH,dZ,hp⟩:=hR
    have hp:=r2 hp
    refine aB (aC ⟨fun _=>⟨_,((hp.less hle4).less hle3)⟩,fun _=>⟨_,(((hp.get 0 rfl).less hle4).less hle3)⟩,fun _=>⟨_,(((hp.get 1 rfl).less hle4).less hle3)⟩,trivial⟩ fun hS=>?_)
    refine fQ [4,5] (by kernel_rfl) rfl ?_
    refine List.forall_mem_cons.2 ⟨?_,List.forall_mem_cons.2 ⟨?_,fun _ h=>absurd h (by simp)⟩⟩
    ·
     refine dQ rfl ?_
     refine dH (wk0 rfl) rfl rfl hE hp rfl [N0,N0,N0] (fun w=>by simp[Instr.alloc,go_sem]<;>rfl) ?_
     intro a w b5 hE hp
     have hp:=r3 hp
     refine aB (aC ⟨fun _=>⟨_,((hp.less hle4).less hle3)⟩,fun _=>⟨_,(((hp.get 1 rfl).less hle4).less hle3)⟩,fun _=>⟨_,(((hp.get 2 rfl).less hle4).less hle3)⟩,trivial⟩ fun hS=>?_)
     refine W1 5 (by kernel_rfl) rfl ?_
     refine dH (wk0 rfl) rfl rfl hE hp rfl [N0,N0,N0] (fun w=>by simp[Instr.alloc,go_sem]<;>rfl) ?_
     intro a w b6 hE hp
     have hp:=r4 hp
     refine aB (aC ⟨fun _=>⟨_,((hp.less hle4).less hle3)⟩,fun _=>⟨_,(((hp.get 2 rfl).less hle4).less hle3)⟩,fun _=>⟨_,(((hp.get 3 rfl).less hle4).less hle3)⟩,trivial⟩ fun hS=>?_)
     refine W1 6 (by kernel_rfl) rfl ?_
     refine aU (wk0 rfl) rfl hE hp rfl rfl rfl 1 rfl dA.size_ rfl (aN ⟨(aH.one (aH.mono qF hle4)),(aH.one (aH.mono qG hle4)),(aH.one (aH.mono oM hle4)),trivial⟩) [F8,F9,yK] rfl ?_
     intro w hp
     have hp:=r4 hp
     refine aB (aC ⟨fun _=>⟨_,((hp.less hle4).less hle3)⟩,fun _=>⟨_,(((hp.get 2 rfl).less hle4).less hle3)⟩,fun _=>⟨_,(((hp.get 3 rfl).less hle4).less hle3)⟩,trivial⟩ fun hS=>?_)
     refine W1 7 (by kernel_rfl) rfl ?_
     refine aU (wk0 rfl) rfl hE hp rfl rfl rfl 0 rfl dA.size_ rfl (aN ⟨(aH.one fG),(aH.one fH),(aH.one dZ),trivial⟩) [lZ,mD,kL] rfl ?_
     intro w hp
     have hp:=r4 hp
     refine aB (aC ⟨fun _=>⟨_,((hp.less hle4).less hle3)⟩,fun _=>⟨_,(((hp.get 2 rfl).less hle4).less hle3)⟩,fun _=>⟨_,(((hp.get 3 rfl).less hle4).less hle3)⟩,trivial⟩ fun hS=>?_)
     exact bP (by kernel_rfl) ⟨ρ4,_,_,_,_,_,_,_,_,(PH.le.tr hle3 hle4),fG,fH,dZ,(aH.mono qF hle4),(aH.mono qG hle4),(aH.mono oM hle4),hE.cut ⟨rfl,rfl,rfl,trivial⟩,hp⟩
    refine dQ rfl ?_
    refine dH (wk0 rfl) rfl rfl hE hp rfl [N0,N0,N0] (fun w=>by simp[Instr.alloc,go_sem]<;>rfl) ?_
    intro a w b7 hE hp
    have hp:=r3 hp
    refine aB (aC ⟨fun _=>⟨_,((hp.less hle4).less hle3)⟩,fun _=>⟨_,(((hp.get 1 rfl).less hle4).less hle3)⟩,fun _=>⟨_,(((hp.get 2 rfl).less hle4).less hle3)⟩,trivial⟩ fun hS=>?_)
    refine W1 4 (by kernel_rfl) rfl ?_
    refine dH (wk0 rfl) rfl rfl hE hp rfl [N0,N0,N0] (fun w=>by simp[Instr.alloc,go_sem]<;>rfl) ?_
    intro a w b8 hE hp
    have hp:=r4 hp
    refine aB (aC ⟨fun _=>⟨_,((hp.less hle4).less hle3)⟩,fun _=>⟨_,(((hp.get 2 rfl).less hle4).less hle3)⟩,fun _=>⟨_,(((hp.get 3 rfl).less hle4).less hle3)⟩,trivial⟩ fun hS=>?_)
    refine W1 6 (by kernel_rfl) rfl ?_
    refine aU (wk0 rfl) rfl hE hp rfl rfl rfl 0 rfl dA.size_ rfl (aN ⟨(aH.one (aH.mono qF hle4)),(aH.one (aH.mono qG hle4)),(aH.one (aH.mono oM hle4)),trivial⟩) [F8,F9,yK] rfl ?_
    intro w hp
    have hp:=r4 hp
    refine aB (aC ⟨fun _=>⟨_,((hp.less hle4).less hle3)⟩,fun _=>⟨_,(((hp.get 2 rfl).less hle4).less hle3)⟩,fun _=>⟨_,(((hp.get 3 rfl).less hle4).less hle3)⟩,trivial⟩ fun hS=>?_)
    refine W1 7 (by kernel_rfl) rfl ?_
    refine aU (wk0 rfl) rfl hE hp rfl rfl rfl 1 rfl dA.size_ rfl (aN ⟨(aH.one fG),(aH.one fH),(aH.one dZ),trivial⟩) [lZ,mD,kL] rfl ?_
    intro w hp
    have hp:=r4 hp
    refine aB (aC ⟨fun _=>⟨_,((hp.less hle4).less hle3)⟩,fun _=>⟨_,(((hp.get 2 rfl).less hle4).less hle3)⟩,fun _=>⟨_,(((hp.get 3 rfl).less hle4).less hle3)⟩,trivial⟩ fun hS=>?_)
    exact bP (by kernel_rfl) ⟨ρ4,_,_,_,_,_,_,_,_,(PH.le.tr hle3 hle4),fG,fH,dZ,(aH.mono qF hle4),(aH.mono qG hle4),(aH.mono oM hle4),hE.cut ⟨rfl,rfl,rfl,trivial⟩,((((hp.get 3 rfl).get 3 rfl).get 2 rfl).get 3 rfl)⟩
   ·
    refine dQ rfl ?_
    refine dH (wk0 rfl) rfl rfl hE hp rfl [N0,N0,N0] (fun w=>by simp[Instr.alloc,go_sem]<;>rfl) ?_
    intro a w b9 hE hp
    have hp:=r3 hp
    refine aB (aC ⟨fun _=>⟨_,(hp.less hle3)⟩,fun _=>⟨_,((hp.get 1 rfl).less hle3)⟩,fun _=>⟨_,((hp.get 2 rfl).less hle3)⟩,trivial⟩ fun hS=>?_)
    refine fQ [3,5] (by kernel_rfl) rfl ?_
    refine List.forall_mem_cons.2 ⟨?_,List.forall_mem_cons.2 ⟨?_,fun _ h=>absurd h (by simp)⟩⟩
    ·
     refine dQ rfl ?_
     refine Cl hE rfl rfl jA (bD p1 aP (aH.mono bU hle3) hp x2 ex2) ⟨rfl,trivial⟩ fun v a w hR hE=>?_
     obtain⟨ρ5,rO,rP,pM,hle5,rfl,nD,nG,lC,hp⟩:=hR
     have hp:=r3 hp
     refine aB (aC ⟨fun _=>⟨_,((hp.less hle5).less hle3)⟩,fun _=>⟨_,(((hp.get 1 rfl).less hle5).less hle3)⟩,fun _=>⟨_,(((hp.get 2 rfl).less hle5).less hle3)⟩,trivial⟩ fun hS=>?_)
     refine W1 5 (by kernel_rfl) rfl ?_
     refine dH (wk0 rfl) rfl rfl hE hp rfl [N0,N0,N0] (fun w=>by simp[Instr.alloc,go_sem]<;>rfl) ?_
     intro a w b10 hE hp
     have hp:=r4 hp
     refine aB (aC ⟨fun _=>⟨_,((hp.less hle5).less hle3)⟩,fun _=>⟨_,(((hp.get 2 rfl).less hle5).less hle3)⟩,fun _=>⟨_,(((hp.get 3 rfl).less hle5).less hle3)⟩,trivial⟩ fun hS=>?_)
     refine W1 6 (by kernel_rfl) rfl ?_
     refine aU (wk0 rfl) rfl hE hp rfl rfl rfl 1 rfl dA.size_ rfl (aN ⟨(aH.one (aH.mono qF hle5)),(aH.one (aH.mono qG hle5)),(aH.one (aH.mono oM hle5)),trivial⟩) [F8,F9,yK] rfl ?_
     intro w hp
     have hp:=r4 hp
     refine aB (aC ⟨fun _=>⟨_,((hp.less hle5).less hle3)⟩,fun _=>⟨_,(((hp.get 2 rfl).less hle5).less hle3)⟩,fun _=>⟨_,(((hp.get 3 rfl).less hle5).less hle3)⟩,trivial⟩ fun hS=>?_)
     refine W1 7 (by kernel_rfl) rfl ?_
     refine aU (wk0 rfl) rfl hE hp rfl rfl rfl 0 rfl dA.size_ rfl (aN ⟨(aH.one nD),(aH.one nG),(aH.one lC),trivial⟩) [rO,rP,pM] rfl ?_
     intro w hp
     have hp:=r4 hp
     refine aB (aC ⟨fun _=>⟨_,((hp.less hle5).less hle3)⟩,fun _=>⟨_,(((hp.get 2 rfl).less hle5).less hle3)⟩,fun _=>⟨_,(((hp.get 3 rfl).less hle5).less hle3)⟩,trivial⟩ fun hS=>?_)
     exact bP (by kernel_rfl) ⟨ρ5,_,_,_,_,_,_,_,_,(PH.le.tr hle3 hle5),nD,nG,lC,(aH.mono qF hle5),(aH.mono qG hle5),(aH.mono oM hle5),hE.cut ⟨rfl,rfl,rfl,trivial⟩,hp⟩
    refine dQ rfl ?_
    refine dH (wk0 rfl) rfl rfl hE hp rfl [N0,N0,N0] (fun w=>by simp[Instr.alloc,go_sem]<;>rfl) ?_
    intro a w b11 hE hp
    have hp:=r4 hp
    refine aB (aC ⟨fun _=>⟨_,(hp.less hle3)⟩,fun _=>⟨_,((hp.get 2 rfl).less hle3)⟩,fun _=>⟨_,((hp.get 3 rfl).less hle3)⟩,trivial⟩ fun hS=>?_)
    refine W1 3 (by kernel_rfl) rfl ?_
    refine Cl hE rfl rfl jA (bD p1 aP (aH.mono bU hle3) hp x2 ex2) ⟨rfl,trivial⟩ fun v a w hR hE=>?_
    obtain⟨ρ6,vI,vJ,sS,hle6,rfl,rD,rE,pJ,hp⟩:=hR
    have hp:=r4 hp
    refine aB (aC ⟨fun _=>⟨_,((hp.less hle6).less hle3)⟩,fun _=>⟨_,(((hp.get 2 rfl).less hle6).less hle3)⟩,fun _=>⟨_,(((hp.get 3 rfl).less hle6).less hle3)⟩,trivial⟩ fun hS=>?_)
    refine W1 6 (by kernel_rfl) rfl ?_
    refine aU (wk0 rfl) rfl hE hp rfl rfl rfl 1 rfl dA.size_ rfl (aN ⟨(aH.one (aH.mono qF hle6)),(aH.one (aH.mono qG hle6)),(aH.one (aH.mono oM hle6)),trivial⟩) [F8,F9,yK] rfl ?_
    intro w hp
    have hp:=r4 hp
    refine aB (aC ⟨fun _=>⟨_,((hp.less hle6).less hle3)⟩,fun _=>⟨_,(((hp.get 2 rfl).less hle6).less hle3)⟩,fun _=>⟨_,(((hp.get 3 rfl).less hle6).less hle3)⟩,trivial⟩ fun hS=>?_)
    refine W1 7 (by kernel_rfl) rfl ?_
    refine aU (wk0 rfl) rfl hE hp rfl rfl rfl 0 rfl dA.size_ rfl (aN ⟨(aH.one rD),(aH.one rE),(aH.one pJ),trivial⟩) [vI,vJ,sS] rfl ?_
    intro w hp
    have hp:=r4 hp
    refine aB (aC ⟨fun _=>⟨_,((hp.less hle6).less hle3)⟩,fun _=>⟨_,(((hp.get 2 rfl).less hle6).less hle3)⟩,fun _=>⟨_,(((hp.get 3 rfl).less hle6).less hle3)⟩,trivial⟩ fun hS=>?_)
    exact bP (by kernel_rfl) ⟨ρ6,_,_,_,_,_,_,_,_,(PH.le.tr hle3 hle6),rD,rE,pJ,(aH.mono qF hle6),(aH.mono qG hle6),(aH.mono oM hle6),hE.cut ⟨rfl,rfl,rfl,trivial⟩,hp⟩
   refine dQ rfl ?_
   refine dH (wk0 rfl) rfl rfl hE hp rfl [N0,N0,N0] (fun w=>by simp[Instr.alloc,go_sem]<;>rfl) ?_
   intro a w b12 hE hp
   have hp:=r3 hp
   refine aB (aC ⟨fun _=>⟨_,(hp.less hle3)⟩,fun _=>⟨_,((hp.get 1 rfl).less hle3)⟩,fun _=>⟨_,((hp.get 2 rfl).less hle3)⟩,trivial⟩ fun hS=>?_)
   refine fQ [3,4] (by kernel_rfl) rfl ?_
   refine List.forall_mem_cons.2 ⟨?_,List.forall_mem_cons.2 ⟨?_,fun _ h=>absurd h (by simp)⟩⟩
   ·
    refine dQ rfl ?_
    refine Cl hE rfl rfl jA (bD p1 aP (aH.mono bU hle3) hp x2 ex2) ⟨rfl,trivial⟩ fun v a w hR hE=>?_
    obtain⟨ρ7,X9,Y0,O4,hle7,rfl,wL,wM,uU,hp⟩:=hR
    have hp:=r3 hp
    refine aB (aC ⟨fun _=>⟨_,((hp.less hle7).less hle3)⟩,fun _=>⟨_,(((hp.get 1 rfl).less hle7).less hle3)⟩,fun _=>⟨_,(((hp.get 2 rfl).less hle7).less hle3)⟩,trivial⟩ fun hS=>?_)
    refine W1 4 (by kernel_rfl) rfl ?_
    refine dH (wk0 rfl) rfl rfl hE hp rfl [N0,N0,N0] (fun w=>by simp[Instr.alloc,go_sem]<;>rfl) ?_
    intro a w b13 hE hp
    have hp:=r4 hp
    refine aB (aC ⟨fun _=>⟨_,((hp.less hle7).less hle3)⟩,fun _=>⟨_,(((hp.get 2 rfl).less hle7).less hle3)⟩,fun _=>⟨_,(((hp.get 3 rfl).less hle7).less hle3)⟩,trivial⟩ fun hS=>?_)
    refine W1 6 (by kernel_rfl) rfl ?_
    refine aU (wk0 rfl) rfl hE hp rfl rfl rfl 0 rfl dA.size_ rfl (aN ⟨(aH.one (aH.mono qF hle7)),(aH.one (aH.mono qG hle7)),(aH.one (aH.mono oM hle7)),trivial⟩) [F8,F9,yK] rfl ?_
    intro w hp
    have hp:=r4 hp
    refine aB (aC ⟨fun _=>⟨_,((hp.less hle7).less hle3)⟩,fun _=>⟨_,(((hp.get 2 rfl).less hle7).less hle3)⟩,fun _=>⟨_,(((hp.get 3 rfl).less hle7).less hle3)⟩,trivial⟩ fun hS=>?_)
    refine W1 7 (by kernel_rfl) rfl ?_
    refine aU (wk0 rfl) rfl hE hp rfl rfl rfl 1 rfl dA.size_ rfl (aN ⟨(aH.one wL),(aH.one wM),(aH.one uU),trivial⟩) [X9,Y0,O4] rfl ?_
    intro w hp
    have hp:=r4 hp
    refine aB (aC ⟨fun _=>⟨_,((hp.less hle7).less hle3)⟩,fun _=>⟨_,(((hp.get 2 rfl).less hle7).less hle3)⟩,fun _=>⟨_,(((hp.get 3 rfl).less hle7).less hle3)⟩,trivial⟩ fun hS=>?_)
    exact bP (by kernel_rfl) ⟨ρ7,_,_,_,_,_,_,_,_,(PH.le.tr hle3 hle7),wL,wM,uU,(aH.mono qF hle7),(aH.mono qG hle7),(aH.mono oM hle7),hE.cut ⟨rfl,rfl,rfl,trivial⟩,((((hp.get 3 rfl).get 3 rfl).get 2 rfl).get 3 rfl)⟩
   refine dQ rfl ?_
   refine dH (wk0 rfl) rfl rfl hE hp rfl [N0,N0,N0] (fun w=>by simp[Instr.alloc,go_sem]<;>rfl) ?_
   intro a w b14 hE hp
   have hp:=r4 hp
   refine aB (aC ⟨fun _=>⟨_,(hp.less hle3)⟩,fun _=>⟨_,((hp.get 2 rfl).less hle3)⟩,fun _=>⟨_,((hp.get 3 rfl).less hle3)⟩,trivial⟩ fun hS=>?_)
   refine W1 3 (by kernel_rfl) rfl ?_
   refine Cl hE rfl rfl jA (bD p1 aP (aH.mono bU hle3) hp x2 ex2) ⟨rfl,trivial⟩ fun v a w hR hE=>?_
   obtain⟨ρ8,Y1,Y2,O5,hle8,rfl,wO,wP,uV,hp⟩:=hR
   have hp:=r4 hp
   refine aB (aC ⟨fun _=>⟨_,((hp.less hle8).less hle3)⟩,fun _=>⟨_,(((hp.get 2 rfl).less hle8).less hle3)⟩,fun _=>⟨_,(((hp.get 3 rfl).less hle8).less hle3)⟩,trivial⟩ fun hS=>?_)
   refine W1 6 (by kernel_rfl) rfl ?_
   refine aU (wk0 rfl) rfl hE hp rfl rfl rfl 0 rfl dA.size_ rfl (aN ⟨(aH.one (aH.mono qF hle8)),(aH.one (aH.mono qG hle8)),(aH.one (aH.mono oM hle8)),trivial⟩) [F8,F9,yK] rfl ?_
   intro w hp
   have hp:=r4 hp
   refine aB (aC ⟨fun _=>⟨_,((hp.less hle8).less hle3)⟩,fun _=>⟨_,(((hp.get 2 rfl).less hle8).less hle3)⟩,fun _=>⟨_,(((hp.get 3 rfl).less hle8).less hle3)⟩,trivial⟩ fun hS=>?_)
   refine W1 7 (by kernel_rfl) rfl ?_
   refine aU (wk0 rfl) rfl hE hp rfl rfl rfl 1 rfl dA.size_ rfl (aN ⟨(aH.one wO),(aH.one wP),(aH.one uV),trivial⟩) [Y1,Y2,O5] rfl ?_
   intro w hp
   have hp:=r4 hp
   refine aB (aC ⟨fun _=>⟨_,((hp.less hle8).less hle3)⟩,fun _=>⟨_,(((hp.get 2 rfl).less hle8).less hle3)⟩,fun _=>⟨_,(((hp.get 3 rfl).less hle8).less hle3)⟩,trivial⟩ fun hS=>?_)
   exact bP (by kernel_rfl) ⟨ρ8,_,_,_,_,_,_,_,_,(PH.le.tr hle3 hle8),wO,wP,uV,(aH.mono qF hle8),(aH.mono qG hle8),(aH.mono oM hle8),hE.cut ⟨rfl,rfl,rfl,trivial⟩,((((hp.get 3 rfl).get 3 rfl).get 2 rfl).get 3 rfl)⟩
  ·
   refine dQ rfl ?_
   refine dH (wk0 rfl) rfl rfl hE hp rfl [N0,N0,N0] (fun w=>by simp[Instr.alloc,go_sem]<;>rfl) ?_
   intro a w b15 hE hp
   have hp:=r3 hp
   refine aB (aC ⟨gp0 hp,gp 1 hp rfl,gp 2 hp rfl,trivial⟩ fun hS=>?_)
   refine fQ [1,5] (by kernel_rfl) rfl ?_
   refine List.forall_mem_cons.2 ⟨?_,List.forall_mem_cons.2 ⟨?_,fun _ h=>absurd h (by simp)⟩⟩
   ·
    refine dQ rfl ?_
    refine Cl hE rfl rfl jA (bD p0 aI aZ hp x1 ex1) ⟨rfl,trivial⟩ fun v a w hR hE=>?_
    obtain⟨ρ9,G5,G6,yL,hle9,rfl,tH,tJ,qU,hp⟩:=hR
    have hp:=r3 hp
    refine aB (aC ⟨fun _=>⟨_,(hp.less hle9)⟩,fun _=>⟨_,((hp.get 1 rfl).less hle9)⟩,fun _=>⟨_,((hp.get 2 rfl).less hle9)⟩,trivial⟩ fun hS=>?_)
    refine fQ [3,5] (by kernel_rfl) rfl ?_
    refine List.forall_mem_cons.2 ⟨?_,List.forall_mem_cons.2 ⟨?_,fun _ h=>absurd h (by simp)⟩⟩
    ·
     refine dQ rfl ?_
     refine Cl hE rfl rfl jA (bD p1 aP (aH.mono bU hle9) hp x2 ex2) ⟨rfl,trivial⟩ fun v a w hR hE=>?_
     obtain⟨ρ10,wE,wF,uX,hle10,rfl,oI,oJ,mF,hp⟩:=hR
     have hp:=r3 hp
     refine aB (aC ⟨fun _=>⟨_,((hp.less hle10).less hle9)⟩,fun _=>⟨_,(((hp.get 1 rfl).less hle10).less hle9)⟩,fun _=>⟨_,(((hp.get 2 rfl).less hle10).less hle9)⟩,trivial⟩ fun hS=>?_)
     refine W1 5 (by kernel_rfl) rfl ?_
     refine dH (wk0 rfl) rfl rfl hE hp rfl [N0,N0,N0] (fun w=>by simp[Instr.alloc,go_sem]<;>rfl) ?_
     intro a w b16 hE hp
     have hp:=r4 hp
     refine aB (aC ⟨fun _=>⟨_,((hp.less hle10).less hle9)⟩,fun _=>⟨_,(((hp.get 2 rfl).less hle10).less hle9)⟩,fun _=>⟨_,(((hp.get 3 rfl).less hle10).less hle9)⟩,trivial⟩ fun hS=>?_)
     refine W1 6 (by kernel_rfl) rfl ?_
     refine aU (wk0 rfl) rfl hE hp rfl rfl rfl 1 rfl dA.size_ rfl (aN ⟨(aH.one (aH.mono tH hle10)),(aH.one (aH.mono tJ hle10)),(aH.one (aH.mono qU hle10)),trivial⟩) [G5,G6,yL] rfl ?_
     intro w hp
     have hp:=r4 hp
     refine aB (aC ⟨fun _=>⟨_,((hp.less hle10).less hle9)⟩,fun _=>⟨_,(((hp.get 2 rfl).less hle10).less hle9)⟩,fun _=>⟨_,(((hp.get 3 rfl).less hle10).less hle9)⟩,trivial⟩ fun hS=>?_)
     refine W1 7 (by kernel_rfl) rfl ?_
     refine aU (wk0 rfl) rfl hE hp rfl rfl rfl 0 rfl dA.size_ rfl (aN ⟨(aH.one oI),(aH.one oJ),(aH.one mF),trivial⟩) [wE,wF,uX] rfl ?_
     intro w hp
     have hp:=r4 hp
     refine aB (aC ⟨fun _=>⟨_,((hp.less hle10).less hle9)⟩,fun _=>⟨_,(((hp.get 2 rfl).less hle10).less hle9)⟩,fun _=>⟨_,(((hp.get 3 rfl).less hle10).less hle9)⟩,trivial⟩ fun hS=>?_)
     exact bP (by kernel_rfl) ⟨ρ10,_,_,_,_,_,_,_,_,(PH.le.tr hle9 hle10),oI,oJ,mF,(aH.mono tH hle10),(aH.mono tJ hle10),(aH.mono qU hle10),hE.cut ⟨rfl,rfl,rfl,trivial⟩,hp⟩
    refine dQ rfl ?_
    refine dH (wk0 rfl) rfl rfl hE hp rfl [N0,N0,N0] (fun w=>by simp[Instr.alloc,go_sem]<;>rfl) ?_
    intro a w b17 hE hp
    have hp:=r4 hp
    refine aB (aC ⟨fun _=>⟨_,(hp.less hle9)⟩,fun _=>⟨_,((hp.get 2 rfl).less hle9)⟩,fun _=>⟨_,((hp.get 3 rfl).less hle9)⟩,trivial⟩ fun hS=>?_)
    refine W1 3 (by kernel_rfl) rfl ?_
    refine Cl hE rfl rfl jA (bD p1 aP (aH.mono bU hle9) hp x2 ex2) ⟨rfl,trivial⟩ fun v a w hR hE=>?_
    obtain⟨ρ11,J7,J8,zG,hle11,rfl,uG,uH,rV,hp⟩:=hR
    have hp:=r4 hp
    refine aB (aC ⟨fun _=>⟨_,((hp.less hle11).less hle9)⟩,fun _=>⟨_,(((hp.get 2 rfl).less hle11).less hle9)⟩,fun _=>⟨_,(((hp.get 3 rfl).less hle11).less hle9)⟩,trivial⟩ fun hS=>?_)
    refine W1 6 (by kernel_rfl) rfl ?_
    refine aU (wk0 rfl) rfl hE hp rfl rfl rfl 1 rfl dA.size_ rfl (aN ⟨(aH.one (aH.mono tH hle11)),(aH.one (aH.mono tJ hle11)),(aH.one (aH.mono qU hle11)),trivial⟩) [G5,G6,yL] rfl ?_
    intro w hp
    have hp:=r4 hp
    refine aB (aC ⟨fun _=>⟨_,((hp.less hle11).less hle9)⟩,fun _=>⟨_,(((hp.get 2 rfl).less hle11).less hle9)⟩,fun _=>⟨_,(((hp.get 3 rfl).less hle11).less hle9)⟩,trivial⟩ fun hS=>?_)
    refine W1 7 (by kernel_rfl) rfl ?_
    refine aU (wk0 rfl) rfl hE hp rfl rfl rfl 0 rfl dA.size_ rfl (aN ⟨(aH.one uG),(aH.one uH),(aH.one rV),trivial⟩) [J7,J8,zG] rfl ?_
    intro w hp
    have hp:=r4 hp
    refine aB (aC ⟨fun _=>⟨_,((hp.less hle11).less hle9)⟩,fun _=>⟨_,(((hp.get 2 rfl).less hle11).less hle9)⟩,fun _=>⟨_,(((hp.get 3 rfl).less hle11).less hle9)⟩,trivial⟩ fun hS=>?_)
    exact bP (by kernel_rfl) ⟨ρ11,_,_,_,_,_,_,_,_,(PH.le.tr hle9 hle11),uG,uH,rV,(aH.mono tH hle11),(aH.mono tJ hle11),(aH.mono qU hle11),hE.cut ⟨rfl,rfl,rfl,trivial⟩,hp⟩
   refine dQ rfl ?_
   refine dH (wk0 rfl) rfl rfl hE hp rfl [N0,N0,N0] (fun w=>by simp[Instr.alloc,go_sem]<;>rfl) ?_
   intro a w b18 hE hp
   have hp:=r4 hp
   refine aB (aC ⟨gp0 hp,gp 2 hp rfl,gp 3 hp rfl,trivial⟩ fun hS=>?_)
   refine W1 1 (by kernel_rfl) rfl ?_
   refine Cl hE rfl rfl jA (bD p0 aI aZ hp x1 ex1) ⟨rfl,trivial⟩ fun v a w hR hE=>?_
   obtain⟨ρ12,J9,L6,zH,hle12,rfl,uI,uJ,rW,hp⟩:=hR
   have hp:=r4 hp
   refine aB (aC ⟨fun _=>⟨_,(hp.less hle12)⟩,fun _=>⟨_,((hp.get 2 rfl).less hle12)⟩,fun _=>⟨_,((hp.get 3 rfl).less hle12)⟩,trivial⟩ fun hS=>?_)
   refine W1 3 (by kernel_rfl) rfl ?_
   refine Cl hE rfl rfl jA (bD p1 aP (aH.mono bU hle12) hp x2 ex2) ⟨rfl,trivial⟩ fun v a w hR hE=>?_
   obtain⟨ρ13,L8,L9,zI,hle13,rfl,uK,uM,rX,hp⟩:=hR
   have hp:=r4 hp
   refine aB (aC ⟨fun _=>⟨_,((hp.less hle13).less hle12)⟩,fun _=>⟨_,(((hp.get 2 rfl).less hle13).less hle12)⟩,fun _=>⟨_,(((hp.get 3 rfl).less hle13).less hle12)⟩,trivial⟩ fun hS=>?_)
   refine W1 6 (by kernel_rfl) rfl ?_
   refine aU (wk0 rfl) rfl hE hp rfl rfl rfl 1 rfl dA.size_ rfl (aN ⟨(aH.one (aH.mono uI hle13)),(aH.one (aH.mono uJ hle13)),(aH.one (aH.mono rW hle13)),trivial⟩) [J9,L6,zH] rfl ?_
   intro w hp
   have hp:=r4 hp
   refine aB (aC ⟨fun _=>⟨_,((hp.less hle13).less hle12)⟩,fun _=>⟨_,(((hp.get 2 rfl).less hle13).less hle12)⟩,fun _=>⟨_,(((hp.get 3 rfl).less hle13).less hle12)⟩,trivial⟩ fun hS=>?_)
   refine W1 7 (by kernel_rfl) rfl ?_
   refine aU (wk0 rfl) rfl hE hp rfl rfl rfl 0 rfl dA.size_ rfl (aN ⟨(aH.one uK),(aH.one uM),(aH.one rX),trivial⟩) [L8,L9,zI] rfl ?_
   intro w hp
   have hp:=r4 hp
   refine aB (aC ⟨fun _=>⟨_,((hp.less hle13).less hle12)⟩,fun _=>⟨_,(((hp.get 2 rfl).less hle13).less hle12)⟩,fun _=>⟨_,(((hp.get 3 rfl).less hle13).less hle12)⟩,trivial⟩ fun hS=>?_)
   exact bP (by kernel_rfl) ⟨ρ13,_,_,_,_,_,_,_,_,(PH.le.tr hle12 hle13),uK,uM,rX,(aH.mono uI hle13),(aH.mono uJ hle13),(aH.mono rW hle13),hE.cut ⟨rfl,rfl,rfl,trivial⟩,hp⟩
  refine dQ rfl ?_
  refine dH (wk0 rfl) rfl rfl hE hp rfl [N0,N0,N0] (fun w=>by simp[Instr.alloc,go_sem]<;>rfl) ?_
  intro a w b19 hE hp
  have hp:=r3 hp
  refine aB (aC ⟨gp0 hp,gp 1 hp rfl,gp 2 hp rfl,trivial⟩ fun hS=>?_)
  refine fQ [1,4] (by kernel_rfl) rfl ?_
  refine List.forall_mem_cons.2 ⟨?_,List.forall_mem_cons.2 ⟨?_,fun _ h=>absurd h (by simp)⟩⟩
  ·
   refine dQ rfl ?_
   refine Cl hE rfl rfl jA (bD p0 aI aZ hp x1 ex1) ⟨rfl,trivial⟩ fun v a w hR hE=>?_
   obtain⟨ρ14,yH,yI,xB,hle14,rfl,qQ,qR,pF,hp⟩:=hR
   have hp:=r3 hp
   refine aB (aC ⟨fun _=>⟨_,(hp.less hle14)⟩,fun _=>⟨_,((hp.get 1 rfl).less hle14)⟩,fun _=>⟨_,((hp.get 2 rfl).less hle14)⟩,trivial⟩ fun hS=>?_)
   refine fQ [3,4] (by kernel_rfl) rfl ?_
   refine List.forall_mem_cons.2 ⟨?_,List.forall_mem_cons.2 ⟨?_,fun _ h=>absurd h (by simp)⟩⟩
   ·
    refine dQ rfl ?_
    refine Cl hE rfl rfl jA (bD p1 aP (aH.mono bU hle14) hp x2 ex2) ⟨rfl,trivial⟩ fun v a w hR hE=>?_
    obtain⟨ρ15,wG,wH,uY,hle15,rfl,oK,oL,mG,hp⟩:=hR
    have hp:=r3 hp
    refine aB (aC ⟨fun _=>⟨_,((hp.less hle15).less hle14)⟩,fun _=>⟨_,(((hp.get 1 rfl).less hle15).less hle14)⟩,fun _=>⟨_,(((hp.get 2 rfl).less hle15).less hle14)⟩,trivial⟩ fun hS=>?_)
    refine W1 4 (by kernel_rfl) rfl ?_
    refine dH (wk0 rfl) rfl rfl hE hp rfl [N0,N0,N0] (fun w=>by simp[Instr.alloc,go_sem]<;>rfl) ?_
    intro a w b20 hE hp
    have hp:=r4 hp
    refine aB (aC ⟨fun _=>⟨_,((hp.less hle15).less hle14)⟩,fun _=>⟨_,(((hp.get 2 rfl).less hle15).less hle14)⟩,fun _=>⟨_,(((hp.get 3 rfl).less hle15).less hle14)⟩,trivial⟩ fun hS=>?_)
    refine W1 6 (by kernel_rfl) rfl ?_
    refine aU (wk0 rfl) rfl hE hp rfl rfl rfl 0 rfl dA.size_ rfl (aN ⟨(aH.one (aH.mono qQ hle15)),(aH.one (aH.mono qR hle15)),(aH.one (aH.mono pF hle15)),trivial⟩) [yH,yI,xB] rfl ?_
    intro w hp
    have hp:=r4 hp
    refine aB (aC ⟨fun _=>⟨_,((hp.less hle15).less hle14)⟩,fun _=>⟨_,(((hp.get 2 rfl).less hle15).less hle14)⟩,fun _=>⟨_,(((hp.get 3 rfl).less hle15).less hle14)⟩,trivial⟩ fun hS=>?_)
    refine W1 7 (by kernel_rfl) rfl ?_
    refine aU (wk0 rfl) rfl hE hp rfl rfl rfl 1 rfl dA.size_ rfl (aN ⟨(aH.one oK),(aH.one oL),(aH.one mG),trivial⟩) [wG,wH,uY] rfl ?_
    intro w hp
    have hp:=r4 hp
    refine aB (aC ⟨fun _=>⟨_,((hp.less hle15).less hle14)⟩,fun _=>⟨_,(((hp.get 2 rfl).less hle15).less hle14)⟩,fun _=>⟨_,(((hp.get 3 rfl).less hle15).less hle14)⟩,trivial⟩ fun hS=>?_)
    exact bP (by kernel_rfl) ⟨ρ15,_,_,_,_,_,_,_,_,(PH.le.tr hle14 hle15),oK,oL,mG,(aH.mono qQ hle15),(aH.mono qR hle15),(aH.mono pF hle15),hE.cut ⟨rfl,rfl,rfl,trivial⟩,((((hp.get 3 rfl).get 3 rfl).get 2 rfl).get 3 rfl)⟩
   refine dQ rfl ?_
   refine dH (wk0 rfl) rfl rfl hE hp rfl [N0,N0,N0] (fun w=>by simp[Instr.alloc,go_sem]<;>rfl) ?_
   intro a w b21 hE hp
   have hp:=r4 hp
   refine aB (aC ⟨fun _=>⟨_,(hp.less hle14)⟩,fun _=>⟨_,((hp.get 2 rfl).less hle14)⟩,fun _=>⟨_,((hp.get 3 rfl).less hle14)⟩,trivial⟩ fun hS=>?_)
   refine W1 3 (by kernel_rfl) rfl ?_
   refine Cl hE rfl rfl jA (bD p1 aP (aH.mono bU hle14) hp x2 ex2) ⟨rfl,trivial⟩ fun v a w hR hE=>?_
   obtain⟨ρ16,N7,N8,zJ,hle16,rfl,uN,uO,rY,hp⟩:=hR
   have hp:=r4 hp
   refine aB (aC ⟨fun _=>⟨_,((hp.less hle16).less hle14)⟩,fun _=>⟨_,(((hp.get 2 rfl).less hle16).less hle14)⟩,fun _=>⟨_,(((hp.get 3 rfl).less hle16).less hle14)⟩,trivial⟩ fun hS=>?_)
   refine W1 6 (by kernel_rfl) rfl ?_
   refine aU (wk0 rfl) rfl hE hp rfl rfl rfl 0 rfl dA.size_ rfl (aN ⟨(aH.one (aH.mono qQ hle16)),(aH.one (aH.mono qR hle16)),(aH.one (aH.mono pF hle16)),trivial⟩) [yH,yI,xB] rfl ?_
   intro w hp
   have hp:=r4 hp
   refine aB (aC ⟨fun _=>⟨_,((hp.less hle16).less hle14)⟩,fun _=>⟨_,(((hp.get 2 rfl).less hle16).less hle14)⟩,fun _=>⟨_,(((hp.get 3 rfl).less hle16).less hle14)⟩,trivial⟩ fun hS=>?_)
   refine W1 7 (by kernel_rfl) rfl ?_
   refine aU (wk0 rfl) rfl hE hp rfl rfl rfl 1 rfl dA.size_ rfl (aN ⟨(aH.one uN),(aH.one uO),(aH.one rY),trivial⟩) [N7,N8,zJ] rfl ?_
   intro w hp
   have hp:=r4 hp
   refine aB (aC ⟨fun _=>⟨_,((hp.less hle16).less hle14)⟩,fun _=>⟨_,(((hp.get 2 rfl).less hle16).less hle14)⟩,fun _=>⟨_,(((hp.get 3 rfl).less hle16).less hle14)⟩,trivial⟩ fun hS=>?_)
   exact bP (by kernel_rfl) ⟨ρ16,_,_,_,_,_,_,_,_,(PH.le.tr hle14 hle16),uN,uO,rY,(aH.mono qQ hle16),(aH.mono qR hle16),(aH.mono pF hle16),hE.cut ⟨rfl,rfl,rfl,trivial⟩,((((hp.get 3 rfl).get 3 rfl).get 2 rfl).get 3 rfl)⟩
  refine dQ rfl ?_
  refine dH (wk0 rfl) rfl rfl hE hp rfl [N0,N0,N0] (fun w=>by simp[Instr.alloc,go_sem]<;>rfl) ?_
  intro a w b22 hE hp
  have hp:=r4 hp
  refine aB (aC ⟨gp0 hp,gp 2 hp rfl,gp 3 hp rfl,trivial⟩ fun hS=>?_)
  refine W1 1 (by kernel_rfl) rfl ?_
  refine Cl hE rfl rfl jA (bD p0 aI aZ hp x1 ex1) ⟨rfl,trivial⟩ fun v a w hR hE=>?_
  obtain⟨ρ17,N9,O0,zK,hle17,rfl,uP,uQ,rZ,hp⟩:=hR
  have hp:=r4 hp
  refine aB (aC ⟨fun _=>⟨_,(hp.less hle17)⟩,fun _=>⟨_,((hp.get 2 rfl).less hle17)⟩,fun _=>⟨_,((hp.get 3 rfl).less hle17)⟩,trivial⟩ fun hS=>?_)
  refine W1 3 (by kernel_rfl) rfl ?_
  refine Cl hE rfl rfl jA (bD p1 aP (aH.mono bU hle17) hp x2 ex2) ⟨rfl,trivial⟩ fun v a w hR hE=>?_
  obtain⟨ρ18,O1,O3,zL,hle18,rfl,uS,uT,sD,hp⟩:=hR
  have hp:=r4 hp
  refine aB (aC ⟨fun _=>⟨_,((hp.less hle18).less hle17)⟩,fun _=>⟨_,(((hp.get 2 rfl).less hle18).less hle17)⟩,fun _=>⟨_,(((hp.get 3 rfl).less hle18).less hle17)⟩,trivial⟩ fun hS=>?_)
  refine W1 6 (by kernel_rfl) rfl ?_
  refine aU (wk0 rfl) rfl hE hp rfl rfl rfl 0 rfl dA.size_ rfl (aN ⟨(aH.one (aH.mono uP hle18)),(aH.one (aH.mono uQ hle18)),(aH.one (aH.mono rZ hle18)),trivial⟩) [N9,O0,zK] rfl ?_
  intro w hp
  have hp:=r4 hp
  refine aB (aC ⟨fun _=>⟨_,((hp.less hle18).less hle17)⟩,fun _=>⟨_,(((hp.get 2 rfl).less hle18).less hle17)⟩,fun _=>⟨_,(((hp.get 3 rfl).less hle18).less hle17)⟩,trivial⟩ fun hS=>?_)
  refine W1 7 (by kernel_rfl) rfl ?_
  refine aU (wk0 rfl) rfl hE hp rfl rfl rfl 1 rfl dA.size_ rfl (aN ⟨(aH.one uS),(aH.one uT),(aH.one sD),trivial⟩) [O1,O3,zL] rfl ?_
  intro w hp
  have hp:=r4 hp
  refine aB (aC ⟨fun _=>⟨_,((hp.less hle18).less hle17)⟩,fun _=>⟨_,(((hp.get 2 rfl).less hle18).less hle17)⟩,fun _=>⟨_,(((hp.get 3 rfl).less hle18).less hle17)⟩,trivial⟩ fun hS=>?_)
  exact bP (by kernel_rfl) ⟨ρ18,_,_,_,_,_,_,_,_,(PH.le.tr hle17 hle18),uS,uT,sD,(aH.mono uP hle18),(aH.mono uQ hle18),(aH.mono rZ hle18),hE.cut ⟨rfl,rfl,rfl,trivial⟩,((((hp.get 3 rfl).get 3 rfl).get 2 rfl).get 3 rfl)⟩
 rintro a w ⟨ρy1,y4,y3,yv1,yv2,yv3,yv4,yv5,yv6,hley1,yh1,yh2,yh3,yh4,yh5,yh6,hE,hp⟩
 refine aF (aF ?_)
 refine aA (S hE 1 rfl fun a hE=>?_)
 refine V hE hp rfl (dB rfl hE rfl (aH.len (aH.mono hp2 hley1) eP)) fun a hE=>V hE hp rfl (xf hE jR rfl rfl) fun a hE=>V hE hp rfl (xl hE iE 1 rfl rfl rfl rfl) fun a hE=>V hE hp rfl (dB rfl hE rfl (aH.len yh4 gI)) fun a hE=>S hE 1 rfl fun a hE=>aB ?_
 refine dI hE rfl (fun hc1=>?_) (fun hc1=>?_)
 ·replace hm:=(it hc1).symm.trans hm
  refine aF (aA ?_)
  refine S hE 1 rfl fun a hE=>aB (dD ?_)
  obtain rfl:=oj hm
  exact gK hE rfl rfl ⟨_,rfl,rfl,((((((((hp.get 3 rfl).drop).get 2 rfl).drop).get 1 rfl).drop).drop).less hley1)⟩
 replace hm:=(ie hc1).symm.trans hm
 refine bC (aF ?_)
 refine aA (V hE hp rfl (xf hE jR rfl rfl) fun a hE=>?_)
 refine V hE hp rfl (xl hE iE 0 rfl rfl rfl rfl) fun a hE=>V hE hp rfl (dB rfl hE rfl (aH.len yh1 gI)) fun a hE=>?_
 obtain⟨x3,ex3,hm⟩:=bnd hm
 refine s_make (wk0 rfl) rfl rfl hE hp rfl (El:=4) (bytes:=1) (by kernel_rfl) (false:Bool) (by kernel_rfl) (by kernel_rfl) rfl rfl ex3 ?_
 intro v1 a w hE hp
 have hp:=r5 hp
 refine S hE 1 rfl fun a hE=>aB (aF ?_)
 refine aA (S hE 1 rfl fun a hE=>?_)
 refine aB (aF ?_)
 refine aA (S hE 1 rfl fun a hE=>?_)
 refine aB (aF ?_)
 refine aF (aA ?_)
 refine S hE 1 rfl fun a hE=>V hE hp rfl (dB rfl hE rfl (aH.len (aH.mono hp2 hley1) eP)) fun a hE=>S hE 1 rfl fun a hE=>aB ?_
 have hp:=hp.emp (aG.nil (α:=Opn) 46)
 have hp:=r6 hp
 obtain⟨b23,hc2,hm⟩:=bnd hm
 refine dJ (fun a w=>∃s:((List Opn)×(List Bool)),b23= .brk s∧(∃(w14:Value) (w5:Value),Env 174 [(7,(Pv y3 0)),(8,(Pv y4 0)),(9,w5),(10,w14)] a∧Hp Z ρy1 (aG 46 w14 s.1::aG 4 w5 s.2::Pt y4 (.cells #[yv1,yv2,yv3] 75 (0,0))::Pt y3 (.cells #[yv4,yv5,yv6] 75 (0,0))::Pt b2 (.cells #[(Iv p1.kind),(.string p1.text),(Iv p1.at_),(Iv p1.fin),aP] 24 (0,0))::Pt b1 (.cells #[(Iv p0.kind),(.string p0.text),(Iv p0.at_),(Iv p0.fin),aI] 24 (0,0))::L) w)) ?_ ?_
 ·refine dY hc2 (fun s a w=>∃(w14:Value) (w5:Value),Env 174 [(7,(Pv y3 0)),(8,(Pv y4 0)),(9,w5),(10,w14),(11,(Iv s.1)),(32,vp2),(33,(Iv (p2.length:Int))),(34,(Iv s.2.1))] a∧Hp Z ρy1 (aG 46 w14 s.2.2.1::aG 4 w5 s.2.2.2::Pt y4 (.cells #[yv1,yv2,yv3] 75 (0,0))::Pt y3 (.cells #[yv4,yv5,yv6] 75 (0,0))::Pt b2 (.cells #[(Iv p1.kind),(.string p1.text),(Iv p1.at_),(Iv p1.fin),aP] 24 (0,0))::Pt b1 (.cells #[(Iv p0.kind),(.string p0.text),(Iv p0.at_),(Iv p0.fin),aI] 24 (0,0))::L) w) ?_ ?_
  ·exact⟨_,_,hE.cut ⟨rfl,rfl,rfl,rfl,rfl,rfl,rfl,rfl,trivial⟩,hp⟩
  rintro⟨aQ,aT,eF,iD⟩ st a w ⟨w14,w5,hE,hp⟩ hl1
  dsimp only at hE hp hl1
  unfold Q3 at hl1
  refine aF (aA ?_)
  refine S hE 1 rfl fun a hE=>aB (aF ?_)
  refine dI hE rfl (fun hc3=>?_) (fun hc3=>?_)
  ·replace hl1:=(it hc3).symm.trans hl1
   refine bC (aF ?_)
   obtain⟨j1,hj1,hl1⟩:=bnd hl1
   refine dJ (fun a w=>∃s:(Int×(List Opn)×(List Bool)),j1= .brk s∧(∃(w14:Value) (w5:Value),Env 174 [(7,(Pv y3 0)),(8,(Pv y4 0)),(9,w5),(10,w14),(11,(Iv s.1)),(32,vp2),(33,(Iv (p2.length:Int))),(34,(Iv aT))] a∧Hp Z ρy1 (aG 46 w14 s.2.1::aG 4 w5 s.2.2::Pt y4 (.cells #[yv1,yv2,yv3] 75 (0,0))::Pt y3 (.cells #[yv4,yv5,yv6] 75 (0,0))::Pt b2 (.cells #[(Iv p1.kind),(.string p1.text),(Iv p1.at_),(Iv p1.fin),aP] 24 (0,0))::Pt b1 (.cells #[(Iv p0.kind),(.string p0.text),(Iv p0.at_),(Iv p0.fin),aI] 24 (0,0))::L) w)) ?_ ?_
   ·
    refine aF (aA ?_)
    refine S hE 1 rfl fun a hE=>?_
    obtain⟨x4,ex4,hj1⟩:=bnd hj1
    obtain⟨b24,b24o,b24c,b24r,b24k,b24f⟩:=aH.at (aH.mono hp2 hley1) eP ex4
    obtain rfl:b24c=Enc.enc x4:=b24k
    have b24f:AtP ρy1 b24 b24o [(Iv x4.a),(Iv x4.b)]:=b24f
    refine V hE hp rfl (aO rfl hE rfl rfl b24r) fun a hE=>V hE hp rfl (aJ rfl hE rfl (fun w hw=>aW (cs:=[(Iv x4.a),(Iv x4.b)]) fB (fun j u hj=>cell_of hw.le (b24f j u hj)))) fun a hE=>?_
    refine dH (wk0 rfl) rfl rfl hE hp rfl [(Iv 0),(Iv 0)] (fun w=>by simp[Instr.alloc,go_sem]<;>rfl) ?_
    intro a w b25 hE hp
    have hp:=r7 hp
    refine S hE 1 rfl fun a hE=>?_
    refine aU (wk0 rfl) rfl hE hp rfl rfl rfl 0 rfl fB.size_ rfl (aN ⟨rfl,rfl,trivial⟩) [(Iv x4.a),(Iv x4.b)] rfl ?_
    intro w hp
    have hp:=r7 hp
    refine aB ?_
    have hE:=hE.cut (E':=[(7,(Pv y3 0)),(8,(Pv y4 0)),(9,w5),(10,w14),(11,(Iv aQ)),(12,(Iv aT)),(13,(Pv b25 0)),(32,vp2),(33,(Iv (p2.length:Int))),(34,(Iv aT))]) ⟨rfl,rfl,rfl,rfl,rfl,rfl,rfl,rfl,rfl,rfl,trivial⟩
    refine aF (aF ?_)
    refine aA (S hE 1 rfl fun a hE=>?_)
    refine V hE hp rfl (xf hE jR rfl rfl) fun a hE=>V hE hp rfl (xl hE iE 4 rfl rfl rfl rfl) fun a hE=>V hE hp rfl (dB rfl hE rfl (aH.len yh4 gI)) fun a hE=>S hE 1 rfl fun a hE=>V hE hp rfl (xf hE fU rfl rfl) fun a hE=>V hE hp rfl (xl hE aX 0 rfl rfl rfl rfl) fun a hE=>S hE 1 rfl fun a hE=>V hE hp rfl (v:=(.bool (!((decide (aT<(x1.nodes.length:Int)))==(decide (0≤x4.a)))))) (ex_bneq bty4 rfl hE rfl rfl) fun a hE=>S hE 1 rfl fun a hE=>?_
    refine jE [_,_,_,_,_,_,_,_,_,_] (fun a w=>Env 174 [(58,(.bool ((!((decide (aT<(x1.nodes.length:Int)))==(decide (0≤x4.a))))||((decide (0≤x4.a))&&(!decide (x4.a=aT)))))),(7,(Pv y3 0)),(8,(Pv y4 0)),(9,w5),(10,w14),(11,(Iv aQ)),(13,(Pv b25 0)),(32,vp2),(33,(Iv (p2.length:Int))),(34,(Iv aT))] a∧Hp Z ρy1 (Pt b25 (.cells #[(Iv x4.a),(Iv x4.b)] 46 (0,0))::aG 46 w14 eF::aG 4 w5 iD::Pt y4 (.cells #[yv1,yv2,yv3] 75 (0,0))::Pt y3 (.cells #[yv4,yv5,yv6] 75 (0,0))::Pt b2 (.cells #[(Iv p1.kind),(.string p1.text),(Iv p1.at_),(Iv p1.fin),aP] 24 (0,0))::Pt b1 (.cells #[(Iv p0.kind),(.string p0.text),(Iv p0.at_),(Iv p0.fin),aI] 24 (0,0))::L) w) ?_ ?_
    ·rcases Bool.eq_false_or_eq_true (!((decide (aT<(x1.nodes.length:Int)))==(decide (0≤x4.a)))) with hc4|hc4
     ·
      refine Gk hE hc4 rfl fun a hE=>Gk hE hc4 rfl fun a hE=>Gk hE hc4 rfl fun a hE=>Gk hE hc4 rfl fun a hE=>?_
      refine qV (wk3 hE rfl rfl rfl) rfl rfl hE ?_
      intro a hE
      refine qV (wk3 hE rfl rfl rfl) rfl rfl hE ?_
      intro a hE
      refine qV (wk3 hE rfl rfl rfl) rfl rfl hE ?_
      intro a hE
      refine qV (wk3 hE rfl rfl rfl) rfl rfl hE ?_
      intro a hE
      refine Gk hE hc4 rfl fun a hE=>pk1 hE hc4 rfl rfl rfl rfl fun a hE=>?_
      have hE:=hE.eqv (v':=(.bool ((!((decide (aT<(x1.nodes.length:Int)))==(decide (0≤x4.a))))||((decide (0≤x4.a))&&(!decide (x4.a=aT)))))) (by rw[hc4];rfl)
      exact aB ⟨hE.cut ⟨rfl,rfl,rfl,rfl,rfl,rfl,rfl,rfl,rfl,rfl,trivial⟩,hp⟩
     refine G hE hp hc4 rfl (xf hE fU rfl rfl) fun a hE=>G hE hp hc4 rfl (xl hE aX 0 rfl rfl rfl rfl) fun a hE=>Gs hE hc4 rfl rfl fun a hE=>Gs hE hc4 rfl rfl fun a hE=>?_
     refine jE [_,_,_,_,_] (fun a w=>Env 174 [(57,(.bool ((decide (0≤x4.a))&&(!decide (x4.a=aT))))),(7,(Pv y3 0)),(8,(Pv y4 0)),(9,w5),(10,w14),(11,(Iv aQ)),(13,(Pv b25 0)),(32,vp2),(33,(Iv (p2.length:Int))),(34,(Iv aT)),(48,(.bool (!((decide (aT<(x1.nodes.length:Int)))==(decide (0≤x4.a)))))),(49,(Pv b25 0)),(50,(Iv x4.a)),(51,(.bool (decide (0≤x4.a)))),(52,(.bool (decide (0≤x4.a))))] a∧Hp Z ρy1 (Pt b25 (.cells #[(Iv x4.a),(Iv x4.b)] 46 (0,0))::aG 46 w14 eF::aG 4 w5 iD::Pt y4 (.cells #[yv1,yv2,yv3] 75 (0,0))::Pt y3 (.cells #[yv4,yv5,yv6] 75 (0,0))::Pt b2 (.cells #[(Iv p1.kind),(.string p1.text),(Iv p1.at_),(Iv p1.fin),aP] 24 (0,0))::Pt b1 (.cells #[(Iv p0.kind),(.string p0.text),(Iv p0.at_),(Iv p0.fin),aI] 24 (0,0))::L) w) ?_ ?_
     ·rcases Bool.eq_false_or_eq_true (decide (0≤x4.a)) with hc5|hc5
      ·
       refine G hE hp hc5 rfl (xf hE fU rfl rfl) fun a hE=>G hE hp hc5 rfl (xl hE aX 0 rfl rfl rfl rfl) fun a hE=>Gs hE hc5 rfl rfl fun a hE=>Gs hE hc5 rfl rfl fun a hE=>G hE hp hc4 rfl (jZ rfl hE rfl hc5 rfl) fun a hE=>?_
       have hE:=hE.eqv (v':=(.bool ((decide (0≤x4.a))&&(!decide (x4.a=aT))))) (by rw[hc5];rfl)
       exact aB ⟨hE.cut ⟨rfl,rfl,rfl,rfl,rfl,rfl,rfl,rfl,rfl,rfl,rfl,rfl,rfl,rfl,rfl,trivial⟩,hp⟩
      refine Gk hE hc5 rfl fun a hE=>Gk hE hc5 rfl fun a hE=>Gk hE hc5 rfl fun a hE=>Gk hE hc5 rfl fun a hE=>G hE hp hc4 rfl (iQ rfl hE rfl hc5 rfl) fun a hE=>?_
      have hE:=hE.eqv (v':=(.bool ((decide (0≤x4.a))&&(!decide (x4.a=aT))))) (by rw[hc5];rfl)
      exact aB ⟨hE.cut ⟨rfl,rfl,rfl,rfl,rfl,rfl,rfl,rfl,rfl,rfl,rfl,rfl,rfl,rfl,rfl,trivial⟩,hp⟩
     rintro a w ⟨hE,hp⟩
     refine pk0 hE hc4 rfl rfl rfl rfl fun a hE=>?_
     have hE:=hE.eqv (v':=(.bool ((!((decide (aT<(x1.nodes.length:Int)))==(decide (0≤x4.a))))||((decide (0≤x4.a))&&(!decide (x4.a=aT)))))) (by rw[hc4];rfl)
     exact aB ⟨hE.cut ⟨rfl,rfl,rfl,rfl,rfl,rfl,rfl,rfl,rfl,rfl,trivial⟩,hp⟩
    rintro a w ⟨hE,hp⟩
    refine S hE 1 rfl fun a hE=>?_
    refine jE [_,_,_,_,_,_,_,_,_] (fun a w=>Env 174 [(68,(.bool (((!((decide (aT<(x1.nodes.length:Int)))==(decide (0≤x4.a))))||((decide (0≤x4.a))&&(!decide (x4.a=aT))))||((decide (x4.a<0))&&(!decide (x4.a=(-1))))))),(7,(Pv y3 0)),(8,(Pv y4 0)),(9,w5),(10,w14),(11,(Iv aQ)),(13,(Pv b25 0)),(32,vp2),(33,(Iv (p2.length:Int))),(34,(Iv aT))] a∧Hp Z ρy1 (Pt b25 (.cells #[(Iv x4.a),(Iv x4.b)] 46 (0,0))::aG 46 w14 eF::aG 4 w5 iD::Pt y4 (.cells #[yv1,yv2,yv3] 75 (0,0))::Pt y3 (.cells #[yv4,yv5,yv6] 75 (0,0))::Pt b2 (.cells #[(Iv p1.kind),(.string p1.text),(Iv p1.at_),(Iv p1.fin),aP] 24 (0,0))::Pt b1 (.cells #[(Iv p0.kind),(.string p0.text),(Iv p0.at_),(Iv p0.fin),aI] 24 (0,0))::L) w) ?_ ?_
    ·rcases Bool.eq_false_or_eq_true ((!((decide (aT<(x1.nodes.length:Int)))==(decide (0≤x4.a))))||((decide (0≤x4.a))&&(!decide (x4.a=aT)))) with hc6|hc6
     ·
      refine Gk hE hc6 rfl fun a hE=>Gk hE hc6 rfl fun a hE=>Gk hE hc6 rfl fun a hE=>Gk hE hc6 rfl fun a hE=>?_
      refine qV (wk3 hE rfl rfl rfl) rfl rfl hE ?_
      intro a hE
      refine qV (wk3 hE rfl rfl rfl) rfl rfl hE ?_
      intro a hE
      refine qV (wk3 hE rfl rfl rfl) rfl rfl hE ?_
      intro a hE
      refine Gk hE hc6 rfl fun a hE=>pk1 hE hc6 rfl rfl rfl rfl fun a hE=>?_
      have hE:=hE.eqv (v':=(.bool (((!((decide (aT<(x1.nodes.length:Int)))==(decide (0≤x4.a))))||((decide (0≤x4.a))&&(!decide (x4.a=aT))))||((decide (x4.a<0))&&(!decide (x4.a=(-1))))))) (by rw[hc6];rfl)
      exact aB ⟨hE.cut ⟨rfl,rfl,rfl,rfl,rfl,rfl,rfl,rfl,rfl,rfl,trivial⟩,hp⟩
     refine G hE hp hc6 rfl (xf hE fU rfl rfl) fun a hE=>G hE hp hc6 rfl (xl hE aX 0 rfl rfl rfl rfl) fun a hE=>Gs hE hc6 rfl rfl fun a hE=>Gs hE hc6 rfl rfl fun a hE=>?_
     refine jE [_,_,_,_] (fun a w=>Env 174 [(67,(.bool ((decide (x4.a<0))&&(!decide (x4.a=(-1)))))),(7,(Pv y3 0)),(8,(Pv y4 0)),(9,w5),(10,w14),(11,(Iv aQ)),(13,(Pv b25 0)),(32,vp2),(33,(Iv (p2.length:Int))),(34,(Iv aT)),(59,(.bool ((!((decide (aT<(x1.nodes.length:Int)))==(decide (0≤x4.a))))||((decide (0≤x4.a))&&(!decide (x4.a=aT)))))),(60,(Pv b25 0)),(61,(Iv x4.a)),(62,(.bool (decide (x4.a<0)))),(63,(.bool (decide (x4.a<0))))] a∧Hp Z ρy1 (Pt b25 (.cells #[(Iv x4.a),(Iv x4.b)] 46 (0,0))::aG 46 w14 eF::aG 4 w5 iD::Pt y4 (.cells #[yv1,yv2,yv3] 75 (0,0))::Pt y3 (.cells #[yv4,yv5,yv6] 75 (0,0))::Pt b2 (.cells #[(Iv p1.kind),(.string p1.text),(Iv p1.at_),(Iv p1.fin),aP] 24 (0,0))::Pt b1 (.cells #[(Iv p0.kind),(.string p0.text),(Iv p0.at_),(Iv p0.fin),aI] 24 (0,0))::L) w) ?_ ?_
     ·rcases Bool.eq_false_or_eq_true (decide (x4.a<0)) with hc7|hc7
      ·
       refine G hE hp hc7 rfl (xf hE fU rfl rfl) fun a hE=>G hE hp hc7 rfl (xl hE aX 0 rfl rfl rfl rfl) fun a hE=>Gs hE hc7 rfl rfl fun a hE=>G hE hp hc6 rfl (jZ rfl hE rfl hc7 rfl) fun a hE=>?_
       have hE:=hE.eqv (v':=(.bool ((decide (x4.a<0))&&(!decide (x4.a=(-1)))))) (by rw[hc7];rfl)
       exact aB ⟨hE.cut ⟨rfl,rfl,rfl,rfl,rfl,rfl,rfl,rfl,rfl,rfl,rfl,rfl,rfl,rfl,rfl,trivial⟩,hp⟩
      refine Gk hE hc7 rfl fun a hE=>Gk hE hc7 rfl fun a hE=>Gk hE hc7 rfl fun a hE=>G hE hp hc6 rfl (iQ rfl hE rfl hc7 rfl) fun a hE=>?_
      have hE:=hE.eqv (v':=(.bool ((decide (x4.a<0))&&(!decide (x4.a=(-1)))))) (by rw[hc7];rfl)
      exact aB ⟨hE.cut ⟨rfl,rfl,rfl,rfl,rfl,rfl,rfl,rfl,rfl,rfl,rfl,rfl,rfl,rfl,rfl,trivial⟩,hp⟩
     rintro a w ⟨hE,hp⟩
     refine pk0 hE hc6 rfl rfl rfl rfl fun a hE=>?_
     have hE:=hE.eqv (v':=(.bool (((!((decide (aT<(x1.nodes.length:Int)))==(decide (0≤x4.a))))||((decide (0≤x4.a))&&(!decide (x4.a=aT))))||((decide (x4.a<0))&&(!decide (x4.a=(-1))))))) (by rw[hc6];rfl)
     exact aB ⟨hE.cut ⟨rfl,rfl,rfl,rfl,rfl,rfl,rfl,rfl,rfl,rfl,trivial⟩,hp⟩
    rintro a w ⟨hE,hp⟩
    refine S hE 1 rfl fun a hE=>?_
    refine jE [_,_,_,_] (fun a w=>Env 174 [(73,(.bool ((((!((decide (aT<(x1.nodes.length:Int)))==(decide (0≤x4.a))))||((decide (0≤x4.a))&&(!decide (x4.a=aT))))||((decide (x4.a<0))&&(!decide (x4.a=(-1)))))||(decide (x4.b<(-1)))))),(7,(Pv y3 0)),(8,(Pv y4 0)),(9,w5),(10,w14),(11,(Iv aQ)),(13,(Pv b25 0)),(32,vp2),(33,(Iv (p2.length:Int))),(34,(Iv aT))] a∧Hp Z ρy1 (Pt b25 (.cells #[(Iv x4.a),(Iv x4.b)] 46 (0,0))::aG 46 w14 eF::aG 4 w5 iD::Pt y4 (.cells #[yv1,yv2,yv3] 75 (0,0))::Pt y3 (.cells #[yv4,yv5,yv6] 75 (0,0))::Pt b2 (.cells #[(Iv p1.kind),(.string p1.text),(Iv p1.at_),(Iv p1.fin),aP] 24 (0,0))::Pt b1 (.cells #[(Iv p0.kind),(.string p0.text),(Iv p0.at_),(Iv p0.fin),aI] 24 (0,0))::L) w) ?_ ?_
    ·rcases Bool.eq_false_or_eq_true (((!((decide (aT<(x1.nodes.length:Int)))==(decide (0≤x4.a))))||((decide (0≤x4.a))&&(!decide (x4.a=aT))))||((decide (x4.a<0))&&(!decide (x4.a=(-1))))) with hc8|hc8
     ·
      refine Gk hE hc8 rfl fun a hE=>Gk hE hc8 rfl fun a hE=>Gk hE hc8 rfl fun a hE=>pk1 hE hc8 rfl rfl rfl rfl fun a hE=>?_
      have hE:=hE.eqv (v':=(.bool ((((!((decide (aT<(x1.nodes.length:Int)))==(decide (0≤x4.a))))||((decide (0≤x4.a))&&(!decide (x4.a=aT))))||((decide (x4.a<0))&&(!decide (x4.a=(-1)))))||(decide (x4.b<(-1)))))) (by rw[hc8];rfl)
      exact aB ⟨hE.cut ⟨rfl,rfl,rfl,rfl,rfl,rfl,rfl,rfl,rfl,rfl,trivial⟩,hp⟩
     refine G hE hp hc8 rfl (xf hE fD rfl rfl) fun a hE=>G hE hp hc8 rfl (xl hE aX 0 rfl rfl rfl rfl) fun a hE=>Gs hE hc8 rfl rfl fun a hE=>pk0 hE hc8 rfl rfl rfl rfl fun a hE=>?_
     have hE:=hE.eqv (v':=(.bool ((((!((decide (aT<(x1.nodes.length:Int)))==(decide (0≤x4.a))))||((decide (0≤x4.a))&&(!decide (x4.a=aT))))||((decide (x4.a<0))&&(!decide (x4.a=(-1)))))||(decide (x4.b<(-1)))))) (by rw[hc8];rfl)
     exact aB ⟨hE.cut ⟨rfl,rfl,rfl,rfl,rfl,rfl,rfl,rfl,rfl,rfl,trivial⟩,hp⟩
    rintro a w ⟨hE,hp⟩
    refine S hE 1 rfl fun a hE=>?_
    refine jE [_,_,_,_,_,_] (fun a w=>Env 174 [(80,(.bool (((((!((decide (aT<(x1.nodes.length:Int)))==(decide (0≤x4.a))))||((decide (0≤x4.a))&&(!decide (x4.a=aT))))||((decide (x4.a<0))&&(!decide (x4.a=(-1)))))||(decide (x4.b<(-1))))||(decide ((iD.length:Int)≤x4.b))))),(7,(Pv y3 0)),(8,(Pv y4 0)),(9,w5),(10,w14),(11,(Iv aQ)),(13,(Pv b25 0)),(32,vp2),(33,(Iv (p2.length:Int))),(34,(Iv aT))] a∧Hp Z ρy1 (Pt b25 (.cells #[(Iv x4.a),(Iv x4.b)] 46 (0,0))::aG 46 w14 eF::aG 4 w5 iD::Pt y4 (.cells #[yv1,yv2,yv3] 75 (0,0))::Pt y3 (.cells #[yv4,yv5,yv6] 75 (0,0))::Pt b2 (.cells #[(Iv p1.kind),(.string p1.text),(Iv p1.at_),(Iv p1.fin),aP] 24 (0,0))::Pt b1 (.cells #[(Iv p0.kind),(.string p0.text),(Iv p0.at_),(Iv p0.fin),aI] 24 (0,0))::L) w) ?_ ?_
    ·rcases Bool.eq_false_or_eq_true ((((!((decide (aT<(x1.nodes.length:Int)))==(decide (0≤x4.a))))||((decide (0≤x4.a))&&(!decide (x4.a=aT))))||((decide (x4.a<0))&&(!decide (x4.a=(-1)))))||(decide (x4.b<(-1)))) with hc9|hc9
     ·
      refine Gk hE hc9 rfl fun a hE=>Gk hE hc9 rfl fun a hE=>Gk hE hc9 rfl fun a hE=>Gk hE hc9 rfl fun a hE=>Gk hE hc9 rfl fun a hE=>pk1 hE hc9 rfl rfl rfl rfl fun a hE=>?_
      have hE:=hE.eqv (v':=(.bool (((((!((decide (aT<(x1.nodes.length:Int)))==(decide (0≤x4.a))))||((decide (0≤x4.a))&&(!decide (x4.a=aT))))||((decide (x4.a<0))&&(!decide (x4.a=(-1)))))||(decide (x4.b<(-1))))||(decide ((iD.length:Int)≤x4.b))))) (by rw[hc9];rfl)
      exact aB ⟨hE.cut ⟨rfl,rfl,rfl,rfl,rfl,rfl,rfl,rfl,rfl,rfl,trivial⟩,hp⟩
     refine G hE hp hc9 rfl (xf hE fD rfl rfl) fun a hE=>G hE hp hc9 rfl (xl hE aX 0 rfl rfl rfl rfl) fun a hE=>Gs hE hc9 rfl rfl fun a hE=>G hE hp hc9 rfl (dB rfl hE rfl (aG.len hp 2 rfl zT)) fun a hE=>Gs hE hc9 rfl rfl fun a hE=>pk0 hE hc9 rfl rfl rfl rfl fun a hE=>?_
     have hE:=hE.eqv (v':=(.bool (((((!((decide (aT<(x1.nodes.length:Int)))==(decide (0≤x4.a))))||((decide (0≤x4.a))&&(!decide (x4.a=aT))))||((decide (x4.a<0))&&(!decide (x4.a=(-1)))))||(decide (x4.b<(-1))))||(decide ((iD.length:Int)≤x4.b))))) (by rw[hc9];rfl)
     exact aB ⟨hE.cut ⟨rfl,rfl,rfl,rfl,rfl,rfl,rfl,rfl,rfl,rfl,trivial⟩,hp⟩
    rintro a w ⟨hE,hp⟩
    refine S hE 1 rfl fun a hE=>?_
    refine jE [_,_,_,_,_,_,_,_,_,_] (fun a w=>Env 174 [(91,(.bool ((((((!((decide (aT<(x1.nodes.length:Int)))==(decide (0≤x4.a))))||((decide (0≤x4.a))&&(!decide (x4.a=aT))))||((decide (x4.a<0))&&(!decide (x4.a=(-1)))))||(decide (x4.b<(-1))))||(decide ((iD.length:Int)≤x4.b)))||((decide (x4.a<0))&&(decide (x4.b≤aQ)))))),(7,(Pv y3 0)),(8,(Pv y4 0)),(9,w5),(10,w14),(11,(Iv aQ)),(13,(Pv b25 0)),(32,vp2),(33,(Iv (p2.length:Int))),(34,(Iv aT))] a∧Hp Z ρy1 (Pt b25 (.cells #[(Iv x4.a),(Iv x4.b)] 46 (0,0))::aG 46 w14 eF::aG 4 w5 iD::Pt y4 (.cells #[yv1,yv2,yv3] 75 (0,0))::Pt y3 (.cells #[yv4,yv5,yv6] 75 (0,0))::Pt b2 (.cells #[(Iv p1.kind),(.string p1.text),(Iv p1.at_),(Iv p1.fin),aP] 24 (0,0))::Pt b1 (.cells #[(Iv p0.kind),(.string p0.text),(Iv p0.at_),(Iv p0.fin),aI] 24 (0,0))::L) w) ?_ ?_
    ·rcases Bool.eq_false_or_eq_true (((((!((decide (aT<(x1.nodes.length:Int)))==(decide (0≤x4.a))))||((decide (0≤x4.a))&&(!decide (x4.a=aT))))||((decide (x4.a<0))&&(!decide (x4.a=(-1)))))||(decide (x4.b<(-1))))||(decide ((iD.length:Int)≤x4.b))) with hc10|hc10
     ·
      refine Gk hE hc10 rfl fun a hE=>Gk hE hc10 rfl fun a hE=>Gk hE hc10 rfl fun a hE=>Gk hE hc10 rfl fun a hE=>?_
      refine qV (wk3 hE rfl rfl rfl) rfl rfl hE ?_
      intro a hE
      refine qV (wk3 hE rfl rfl rfl) rfl rfl hE ?_
      intro a hE
      refine qV (wk3 hE rfl rfl rfl) rfl rfl hE ?_
      intro a hE
      refine qV (wk3 hE rfl rfl rfl) rfl rfl hE ?_
      intro a hE
      refine Gk hE hc10 rfl fun a hE=>pk1 hE hc10 rfl rfl rfl rfl fun a hE=>?_
      have hE:=hE.eqv (v':=(.bool ((((((!((decide (aT<(x1.nodes.length:Int)))==(decide (0≤x4.a))))||((decide (0≤x4.a))&&(!decide (x4.a=aT))))||((decide (x4.a<0))&&(!decide (x4.a=(-1)))))||(decide (x4.b<(-1))))||(decide ((iD.length:Int)≤x4.b)))||((decide (x4.a<0))&&(decide (x4.b≤aQ)))))) (by rw[hc10];rfl)
      exact aB ⟨hE.cut ⟨rfl,rfl,rfl,rfl,rfl,rfl,rfl,rfl,rfl,rfl,trivial⟩,hp⟩
     refine G hE hp hc10 rfl (xf hE fU rfl rfl) fun a hE=>G hE hp hc10 rfl (xl hE aX 0 rfl rfl rfl rfl) fun a hE=>Gs hE hc10 rfl rfl fun a hE=>Gs hE hc10 rfl rfl fun a hE=>?_
     refine jE [_,_,_,_,_] (fun a w=>Env 174 [(90,(.bool ((decide (x4.a<0))&&(decide (x4.b≤aQ))))),(7,(Pv y3 0)),(8,(Pv y4 0)),(9,w5),(10,w14),(11,(Iv aQ)),(13,(Pv b25 0)),(32,vp2),(33,(Iv (p2.length:Int))),(34,(Iv aT)),(81,(.bool (((((!((decide (aT<(x1.nodes.length:Int)))==(decide (0≤x4.a))))||((decide (0≤x4.a))&&(!decide (x4.a=aT))))||((decide (x4.a<0))&&(!decide (x4.a=(-1)))))||(decide (x4.b<(-1))))||(decide ((iD.length:Int)≤x4.b))))),(82,(Pv b25 0)),(83,(Iv x4.a)),(84,(.bool (decide (x4.a<0)))),(85,(.bool (decide (x4.a<0))))] a∧Hp Z ρy1 (Pt b25 (.cells #[(Iv x4.a),(Iv x4.b)] 46 (0,0))::aG 46 w14 eF::aG 4 w5 iD::Pt y4 (.cells #[yv1,yv2,yv3] 75 (0,0))::Pt y3 (.cells #[yv4,yv5,yv6] 75 (0,0))::Pt b2 (.cells #[(Iv p1.kind),(.string p1.text),(Iv p1.at_),(Iv p1.fin),aP] 24 (0,0))::Pt b1 (.cells #[(Iv p0.kind),(.string p0.text),(Iv p0.at_),(Iv p0.fin),aI] 24 (0,0))::L) w) ?_ ?_
     ·rcases Bool.eq_false_or_eq_true (decide (x4.a<0)) with hc11|hc11
      ·
       refine G hE hp hc11 rfl (xf hE fD rfl rfl) fun a hE=>G hE hp hc11 rfl (xl hE aX 0 rfl rfl rfl rfl) fun a hE=>Gs hE hc11 rfl rfl fun a hE=>Gs hE hc11 rfl rfl fun a hE=>G hE hp hc10 rfl (jZ rfl hE rfl hc11 rfl) fun a hE=>?_
       have hE:=hE.eqv (v':=(.bool ((decide (x4.a<0))&&(decide (x4.b≤aQ))))) (by rw[hc11];rfl)
       exact aB ⟨hE.cut ⟨rfl,rfl,rfl,rfl,rfl,rfl,rfl,rfl,rfl,rfl,rfl,rfl,rfl,rfl,rfl,trivial⟩,hp⟩
      refine Gk hE hc11 rfl fun a hE=>Gk hE hc11 rfl fun a hE=>Gk hE hc11 rfl fun a hE=>Gk hE hc11 rfl fun a hE=>G hE hp hc10 rfl (iQ rfl hE rfl hc11 rfl) fun a hE=>?_
      have hE:=hE.eqv (v':=(.bool ((decide (x4.a<0))&&(decide (x4.b≤aQ))))) (by rw[hc11];rfl)
      exact aB ⟨hE.cut ⟨rfl,rfl,rfl,rfl,rfl,rfl,rfl,rfl,rfl,rfl,rfl,rfl,rfl,rfl,rfl,trivial⟩,hp⟩
     rintro a w ⟨hE,hp⟩
     refine pk0 hE hc10 rfl rfl rfl rfl fun a hE=>?_
     have hE:=hE.eqv (v':=(.bool ((((((!((decide (aT<(x1.nodes.length:Int)))==(decide (0≤x4.a))))||((decide (0≤x4.a))&&(!decide (x4.a=aT))))||((decide (x4.a<0))&&(!decide (x4.a=(-1)))))||(decide (x4.b<(-1))))||(decide ((iD.length:Int)≤x4.b)))||((decide (x4.a<0))&&(decide (x4.b≤aQ)))))) (by rw[hc10];rfl)
     exact aB ⟨hE.cut ⟨rfl,rfl,rfl,rfl,rfl,rfl,rfl,rfl,rfl,rfl,trivial⟩,hp⟩
    rintro a w ⟨hE,hp⟩
    refine aB ?_
    refine dI hE rfl (fun hc12=>?_) (fun hc12=>?_)
    ·replace hj1:=(it hc12).symm.trans hj1
     refine aF (aA ?_)
     refine S hE 1 rfl fun a hE=>aB (dD ?_)
     obtain rfl:=oj hj1
     refine⟨_,(oj hl1).symm,fun hb=>?_⟩
     subst hb
     obtain rfl:=oj hm
     exact gK hE rfl rfl ⟨_,rfl,rfl,((((((((((((((hp.get 6 rfl).drop).get 5 rfl).drop).get 4 rfl).drop).get 3 rfl).drop).get 2 rfl).drop).get 1 rfl).drop).drop).less hley1)⟩
    replace hj1:=(ie hc12).symm.trans hj1
    refine bC (aF ?_)
    refine aF (aA ?_)
    refine V hE hp rfl (xf hE fU rfl rfl) fun a hE=>V hE hp rfl (xl hE aX 0 rfl rfl rfl rfl) fun a hE=>S hE 1 rfl fun a hE=>aB ?_
    obtain⟨j2,hj2,hj1⟩:=bnd hj1
    refine k_cut (fun a w=>Env 174 [(7,(Pv y3 0)),(8,(Pv y4 0)),(9,w5),(10,w14),(11,(Iv j2)),(13,(Pv b25 0)),(32,vp2),(33,(Iv (p2.length:Int))),(34,(Iv aT))] a∧Hp Z ρy1 (Pt b25 (.cells #[(Iv x4.a),(Iv x4.b)] 46 (0,0))::aG 46 w14 eF::aG 4 w5 iD::Pt y4 (.cells #[yv1,yv2,yv3] 75 (0,0))::Pt y3 (.cells #[yv4,yv5,yv6] 75 (0,0))::Pt b2 (.cells #[(Iv p1.kind),(.string p1.text),(Iv p1.at_),(Iv p1.fin),aP] 24 (0,0))::Pt b1 (.cells #[(Iv p0.kind),(.string p0.text),(Iv p0.at_),(Iv p0.fin),aI] 24 (0,0))::L) w) ?_ ?_
    ·
     refine dI hE rfl (fun hc13=>?_) (fun hc13=>?_)
     ·replace hj2:=(it hc13).symm.trans hj2
      refine aA (V hE hp rfl (xf hE fD rfl rfl) fun a hE=>?_)
      refine V hE hp rfl (xl hE aX 0 rfl rfl rfl rfl) fun a hE=>S hE 1 rfl fun a hE=>aB ?_
      obtain rfl:=oj hj2
      exact⟨hE.cut ⟨rfl,rfl,rfl,rfl,rfl,rfl,rfl,rfl,rfl,trivial⟩,hp⟩
     replace hj2:=(ie hc13).symm.trans hj2
     refine bC ?_
     obtain rfl:=oj hj2
     exact⟨hE.cut ⟨rfl,rfl,rfl,rfl,rfl,rfl,rfl,rfl,rfl,trivial⟩,hp⟩
    rintro a w ⟨hE,hp⟩
    refine aF (aF ?_)
    refine aA (V hE hp rfl (xf hE fD rfl rfl) fun a hE=>?_)
    refine V hE hp rfl (xl hE aX 0 rfl rfl rfl rfl) fun a hE=>S hE 1 rfl fun a hE=>aB ?_
    refine dI hE rfl (fun hc14=>?_) (fun hc14=>?_)
    ·replace hj1:=(it hc14).symm.trans hj1
     refine dU ?_
     obtain rfl:=oj hj1
     exact⟨_,rfl,_,_,hE.cut ⟨rfl,rfl,rfl,rfl,rfl,rfl,rfl,rfl,trivial⟩,(hp.drop)⟩
    replace hj1:=(ie hc14).symm.trans hj1
    refine bC (aF ?_)
    refine aF (aA ?_)
    refine S hE 1 rfl fun a hE=>V hE hp rfl (xf hE fD rfl rfl) fun a hE=>V hE hp rfl (xl hE aX 0 rfl rfl rfl rfl) fun a hE=>?_
    obtain⟨x5,ex5,hj1⟩:=bnd hj1
    obtain⟨b26,b26o,b26r,b26v,b26f⟩:=aG.at hp 2 rfl zT ex5
    refine V hE hp rfl (aO rfl hE rfl rfl b26r) fun a hE=>V hE hp rfl (aJ rfl hE rfl (fun w hw=>bG aC2 (b26f 0 _ rfl _ _ w (hw.get 2 rfl)))) fun a hE=>aB ?_
    have hE:=hE.cut (E':=[(7,(Pv y3 0)),(8,(Pv y4 0)),(9,w5),(10,w14),(11,(Iv j2)),(13,(Pv b25 0)),(32,vp2),(33,(Iv (p2.length:Int))),(34,(Iv aT)),(104,(.bool x5))]) ⟨rfl,rfl,rfl,rfl,rfl,rfl,rfl,rfl,rfl,rfl,trivial⟩
    refine dI hE rfl (fun hc15=>?_) (fun hc15=>?_)
    ·replace hj1:=(it hc15).symm.trans hj1
     refine aF (aA ?_)
     refine S hE 1 rfl fun a hE=>aB (dD ?_)
     obtain rfl:=oj hj1
     refine⟨_,(oj hl1).symm,fun hb=>?_⟩
     subst hb
     obtain rfl:=oj hm
     exact gK hE rfl rfl ⟨_,rfl,rfl,((((((((((((((hp.get 6 rfl).drop).get 5 rfl).drop).get 4 rfl).drop).get 3 rfl).drop).get 2 rfl).drop).get 1 rfl).drop).drop).less hley1)⟩
    replace hj1:=(ie hc15).symm.trans hj1
    refine bC (aF ?_)
    refine aA (S hE 1 rfl fun a hE=>?_)
    refine V hE hp rfl (xf hE fD rfl rfl) fun a hE=>V hE hp rfl (xl hE aX 0 rfl rfl rfl rfl) fun a hE=>?_
    obtain⟨x6,ex6,hj1⟩:=bnd hj1
    obtain⟨b27,b27o,b27r,b27v,b27f⟩:=aG.at hp 2 rfl zT ex6
    refine V hE hp rfl (aO rfl hE rfl rfl b27r) fun a hE=>?_
    refine aA0 (wk0 rfl) rfl hE hp rfl rfl rfl 2 rfl ex6 b27v 0 (e':=true) aC2.size_ rfl rfl rfl ⟨rfl,rfl⟩ ?_
    intro w hp
    have hp:=r7 hp
    refine aB (aF ?_)
    refine aA (V hE hp rfl (xf hE fU rfl rfl) fun a hE=>?_)
    refine V hE hp rfl (xl hE aX 0 rfl rfl rfl rfl) fun a hE=>S hE 1 rfl fun a hE=>aB ?_
    refine dI hE rfl (fun hc16=>?_) (fun hc16=>?_)
    ·replace hj1:=(it hc16).symm.trans hj1
     refine aA (S hE 1 rfl fun a hE=>?_)
     refine V hE hp rfl (aJ rfl hE rfl (fun w hw=>aW (cs:=[(Iv x4.a),(Iv x4.b)]) fB (Hp.cN 0 rfl 0 _ (aS rfl) w hw))) fun a hE=>?_
     refine fE (wk0 rfl) rfl rfl hE hp rfl [(0,(.agg #[(Iv x4.a),(Iv x4.b)]))] ⟨⟨rfl,rfl⟩,trivial⟩ [(Iv x4.a),(Iv x4.b)] 46 (fun w=>by simp[Instr.buildSlice,Instr.fill,Value.cells,go_sem]) ?_
     intro a w b28 hE hp
     have hp:=r8 hp
     obtain⟨x7,ex7,hj1⟩:=bnd hj1
     refine fM (wk0 rfl) rfl rfl hE hp rfl eP rfl rfl 2 rfl rfl (l2:=[x4]) rfl (fun j u hj=>by have:=Hp.cN 0 rfl 0 _ (aS rfl) w hp j u hj;simpa using this) ex7 ?_
     intro v2 a w hE hp
     have hp:=r8 hp
     refine S hE 1 rfl fun a hE=>aB ?_
     obtain rfl:=oj hj1
     exact⟨_,rfl,_,_,hE.cut ⟨rfl,rfl,rfl,rfl,rfl,rfl,rfl,rfl,trivial⟩,(((hp.get 1 rfl).drop).drop)⟩
    replace hj1:=(ie hc16).symm.trans hj1
    refine bC ?_
    obtain rfl:=oj hj1
    exact⟨_,rfl,_,_,hE.cut ⟨rfl,rfl,rfl,rfl,rfl,rfl,rfl,rfl,trivial⟩,(hp.drop)⟩
   rintro a w ⟨j1s,rfl,w14,w5,hE,hp⟩
   dsimp only at hl1
   refine aA ?_
   obtain⟨x8,ex8,hl1⟩:=bnd hl1
   refine V hE hp rfl (bF rfl hE rfl rfl (aK ex8)) fun a hE=>S hE 1 rfl fun a hE=>aB ?_
   have hE:=hE.cut (E':=[(7,(Pv y3 0)),(8,(Pv y4 0)),(9,w5),(10,w14),(11,(Iv j1s.1)),(32,vp2),(33,(Iv (p2.length:Int))),(34,(Iv x8))]) ⟨rfl,rfl,rfl,rfl,rfl,rfl,rfl,rfl,trivial⟩
   exact⟨_,(oj hl1).symm,_,_,hE.cut ⟨rfl,rfl,rfl,rfl,rfl,rfl,rfl,rfl,trivial⟩,hp⟩
  replace hl1:=(ie hc3).symm.trans hl1
  refine dU ?_
  refine⟨_,(oj hl1).symm,fun hbb=>?_⟩
  exact⟨_,hbb.symm,_,_,hE.cut ⟨rfl,rfl,rfl,rfl,trivial⟩,hp⟩
 rintro a w ⟨b23s,rfl,w14,w5,hE,hp⟩
 dsimp only at hm
 refine aF (aF ?_)
 refine aA (S hE 1 rfl fun a hE=>?_)
 refine V hE hp rfl (dB rfl hE rfl (aG.len hp 0 rfl eP)) fun a hE=>S hE 1 rfl fun a hE=>aB ?_
 obtain⟨b29,hc17,hm⟩:=bnd hm
 refine dJ (fun a w=>∃s:Unit,b29= .brk s∧(Env 174 [(9,w5)] a∧Hp Z ρy1 (aG 46 w14 b23s.1::aG 4 w5 b23s.2::Pt y4 (.cells #[yv1,yv2,yv3] 75 (0,0))::Pt y3 (.cells #[yv4,yv5,yv6] 75 (0,0))::Pt b2 (.cells #[(Iv p1.kind),(.string p1.text),(Iv p1.at_),(Iv p1.fin),aP] 24 (0,0))::Pt b1 (.cells #[(Iv p0.kind),(.string p0.text),(Iv p0.at_),(Iv p0.fin),aI] 24 (0,0))::L) w)) ?_ ?_
 ·refine dY hc17 (fun s a w=>Env 174 [(7,(Pv y3 0)),(8,(Pv y4 0)),(9,w5),(10,w14),(117,w14),(118,(Iv (b23s.1.length:Int))),(119,(Iv s))] a∧Hp Z ρy1 (aG 46 w14 b23s.1::aG 4 w5 b23s.2::Pt y4 (.cells #[yv1,yv2,yv3] 75 (0,0))::Pt y3 (.cells #[yv4,yv5,yv6] 75 (0,0))::Pt b2 (.cells #[(Iv p1.kind),(.string p1.text),(Iv p1.at_),(Iv p1.fin),aP] 24 (0,0))::Pt b1 (.cells #[(Iv p0.kind),(.string p0.text),(Iv p0.at_),(Iv p0.fin),aI] 24 (0,0))::L) w) ?_ ?_
  ·exact⟨hE.cut ⟨rfl,rfl,rfl,rfl,rfl,rfl,rfl,trivial⟩,hp⟩
  rintro bK st a w ⟨hE,hp⟩ hl2
  unfold Q4 at hl2
  refine aF (aA ?_)
  refine S hE 1 rfl fun a hE=>aB (aF ?_)
  refine dI hE rfl (fun hc18=>?_) (fun hc18=>?_)
  ·replace hl2:=(it hc18).symm.trans hl2
   refine bC (aF ?_)
   refine dN (aF ?_)
   refine aA (S hE 1 rfl fun a hE=>?_)
   obtain⟨x9,ex9,hl2⟩:=bnd hl2
   obtain⟨b30,b30o,b30r,b30v,b30f⟩:=aG.at hp 0 rfl eP ex9
   refine V hE hp rfl (aO rfl hE rfl rfl b30r) fun a hE=>V hE hp rfl (aJ rfl hE rfl (fun w hw=>aW (cs:=[(Iv x9.a),(Iv x9.b)]) fB (fun j u hj=>b30f j u hj _ _ w (hw.get 0 rfl)))) fun a hE=>?_
   refine dH (wk0 rfl) rfl rfl hE hp rfl [(Iv 0),(Iv 0)] (fun w=>by simp[Instr.alloc,go_sem]<;>rfl) ?_
   intro a w b31 hE hp
   have hp:=r7 hp
   refine S hE 1 rfl fun a hE=>?_
   refine aU (wk0 rfl) rfl hE hp rfl rfl rfl 0 rfl fB.size_ rfl (aN ⟨rfl,rfl,trivial⟩) [(Iv x9.a),(Iv x9.b)] rfl ?_
   intro w hp
   have hp:=r7 hp
   refine aB (aF ?_)
   refine aA (S hE 2 rfl fun a hE=>?_)
   obtain⟨x10,ex10,hl2⟩:=bnd hl2
   obtain⟨v3,v3r,v3f⟩:=aG.viewF hp 1 rfl eP none (some (.i64,bK)) rfl rfl ex10
   refine V hE hp rfl (v:=v3) (nX rfl hE rfl none (some (.i64,bK)) (by exact trivial) (by exact rfl) v3r) fun a hE=>V hE hp rfl (dB rfl hE rfl (ViewF.len v3f hp 1 rfl eP)) fun a hE=>S hE 1 rfl fun a hE=>aB ?_
   have hE:=hE.cut (E':=[(7,(Pv y3 0)),(8,(Pv y4 0)),(9,w5),(10,w14),(15,(Pv b31 0)),(117,w14),(118,(Iv (b23s.1.length:Int))),(119,(Iv bK)),(126,v3),(127,(Iv (x10.length:Int))),(128,(Iv 0))]) ⟨rfl,rfl,rfl,rfl,rfl,rfl,rfl,rfl,rfl,rfl,rfl,trivial⟩
   obtain⟨b32,hc19,hl2⟩:=bnd hl2
   refine dJ (fun a w=>∃s:Unit,b32= .brk s∧(Env 174 [(7,(Pv y3 0)),(8,(Pv y4 0)),(9,w5),(10,w14),(117,w14),(118,(Iv (b23s.1.length:Int))),(119,(Iv bK))] a∧Hp Z ρy1 (Pt b31 (.cells #[(Iv x9.a),(Iv x9.b)] 46 (0,0))::aG 46 w14 b23s.1::aG 4 w5 b23s.2::Pt y4 (.cells #[yv1,yv2,yv3] 75 (0,0))::Pt y3 (.cells #[yv4,yv5,yv6] 75 (0,0))::Pt b2 (.cells #[(Iv p1.kind),(.string p1.text),(Iv p1.at_),(Iv p1.fin),aP] 24 (0,0))::Pt b1 (.cells #[(Iv p0.kind),(.string p0.text),(Iv p0.at_),(Iv p0.fin),aI] 24 (0,0))::L) w)) ?_ ?_
   ·refine dY hc19 (fun s a w=>Env 174 [(7,(Pv y3 0)),(8,(Pv y4 0)),(9,w5),(10,w14),(15,(Pv b31 0)),(117,w14),(118,(Iv (b23s.1.length:Int))),(119,(Iv bK)),(126,v3),(127,(Iv (x10.length:Int))),(128,(Iv s))] a∧Hp Z ρy1 (Pt b31 (.cells #[(Iv x9.a),(Iv x9.b)] 46 (0,0))::aG 46 w14 b23s.1::aG 4 w5 b23s.2::Pt y4 (.cells #[yv1,yv2,yv3] 75 (0,0))::Pt y3 (.cells #[yv4,yv5,yv6] 75 (0,0))::Pt b2 (.cells #[(Iv p1.kind),(.string p1.text),(Iv p1.at_),(Iv p1.fin),aP] 24 (0,0))::Pt b1 (.cells #[(Iv p0.kind),(.string p0.text),(Iv p0.at_),(Iv p0.fin),aI] 24 (0,0))::L) w) ?_ ?_
    ·exact⟨hE.cut ⟨rfl,rfl,rfl,rfl,rfl,rfl,rfl,rfl,rfl,rfl,rfl,trivial⟩,hp⟩
    rintro fK st a w ⟨hE,hp⟩ hl3
    unfold Q5 at hl3
    refine aF (aA ?_)
    refine S hE 1 rfl fun a hE=>aB (aF ?_)
    refine dI hE rfl (fun hc20=>?_) (fun hc20=>?_)
    ·replace hl3:=(it hc20).symm.trans hl3
     refine bC (aF ?_)
     refine dN (aF ?_)
     refine aA ?_
     obtain⟨x11,ex11,hl3⟩:=bnd hl3
     obtain⟨b33,b33o,b33r,b33f⟩:=ViewF.at v3f hp 1 rfl eP ex11
     refine V hE hp rfl (aO rfl hE rfl rfl b33r) fun a hE=>V hE hp rfl (aJ rfl hE rfl (fun w hw=>aW (cs:=[(Iv x11.a),(Iv x11.b)]) fB (fun j u hj=>b33f j u hj _ _ w (hw.get 1 rfl)))) fun a hE=>?_
     refine dH (wk0 rfl) rfl rfl hE hp rfl [(Iv 0),(Iv 0)] (fun w=>by simp[Instr.alloc,go_sem]<;>rfl) ?_
     intro a w b34 hE hp
     have hp:=r8 hp
     refine aU (wk0 rfl) rfl hE hp rfl rfl rfl 0 rfl fB.size_ rfl (aN ⟨rfl,rfl,trivial⟩) [(Iv x11.a),(Iv x11.b)] rfl ?_
     intro w hp
     have hp:=r8 hp
     refine aB (aF ?_)
     refine kZ (by kernel_rfl) (by kernel_rfl) hp ?_
     refine Vq hE rfl (xf hE fD rfl rfl) fun a hE=>Vq hE rfl (xl hE aX 0 rfl rfl rfl rfl) fun a hE=>Vq hE rfl (xf hE fD rfl rfl) fun a hE=>Vq hE rfl (xl hE aX 1 rfl rfl rfl rfl) fun a hE=>Sq hE 2 rfl fun a hE=>?_
     obtain⟨m1,hg1,hl3⟩:=bnd hl3
     refine q_cut [_,_,_,_,_,_,_,_] (fun a=>Env 174 [(145,(.bool m1)),(7,(Pv y3 0)),(8,(Pv y4 0)),(9,w5),(10,w14),(15,(Pv b31 0)),(17,(Pv b34 0)),(117,w14),(118,(Iv (b23s.1.length:Int))),(119,(Iv bK)),(126,v3),(127,(Iv (x10.length:Int))),(128,(Iv fK))] a) ?_ ?_
     ·rcases Bool.eq_false_or_eq_true (decide (x9.b<x11.b)) with hc21|hc21
      ·
       replace hg1:=(it hc21).symm.trans hg1
       refine Gq hE hc21 rfl (aJ rfl hE rfl (fun w hw=>aW (cs:=[yv1,yv2,yv3]) dA (Hp.cN 4 rfl 0 _ (aS rfl) w hw))) fun a hE=>Gq hE hc21 rfl (xf hE fD rfl rfl) fun a hE=>Gq hE hc21 rfl (xl hE aX 1 rfl rfl rfl rfl) fun a hE=>Gq hE hc21 rfl (xf hE fD rfl rfl) fun a hE=>Gq hE hc21 rfl (xl hE aX 0 rfl rfl rfl rfl) fun a hE=>?_
       obtain⟨x12,ex12,hg1⟩:=bnd hg1
       refine U4 (wk1 hE rfl rfl rfl hc21) rfl rfl hE rfl [(.agg #[yv1,yv2,yv3]),(Iv x9.b),(Iv x11.b)] ⟨rfl,rfl,rfl,trivial⟩ ent45 (v:=(.bool x12)) (fun w hw=>Calls.mono (jQ x2 yv1 yh1 yv2 yh2 yv3 yh3 x9.b x11.b hw x12 ex12) fun e w' ⟨v,he,hv,hh⟩=>⟨by rw[he,hv],hh⟩) ?_
       intro a hE
       refine Gq hE hc21 rfl (ex_not rfl hE rfl) fun a hE=>Vq hE rfl (v:=(.bool (!x12))) (jZ rfl hE rfl hc21 rfl) fun a hE=>?_
       obtain rfl:=oj hg1
       exact lU (hE.cut ⟨rfl,rfl,rfl,rfl,rfl,rfl,rfl,rfl,rfl,rfl,rfl,rfl,rfl,trivial⟩)
      replace hg1:=(ie hc21).symm.trans hg1
      refine Gkq hE hc21 rfl fun a hE=>Gkq hE hc21 rfl fun a hE=>Gkq hE hc21 rfl fun a hE=>Gkq hE hc21 rfl fun a hE=>Gkq hE hc21 rfl fun a hE=>Gkq hE hc21 rfl fun a hE=>Gkq hE hc21 rfl fun a hE=>?_
      refine Vq hE rfl (v:=(.bool false)) (iQ rfl hE rfl hc21 rfl) fun a hE=>?_
      obtain rfl:=oj hg1
      exact lU (hE.cut ⟨rfl,rfl,rfl,rfl,rfl,rfl,rfl,rfl,rfl,rfl,rfl,rfl,rfl,trivial⟩)
     intro a hE
     refine Sq hE 1 rfl fun a hE=>?_
     obtain⟨m2,hg2,hl3⟩:=bnd hl3
     refine q_cut [_,_,_,_,_,_,_,_,_,_,_,_,_,_] (fun a=>Env 174 [(160,(.bool m2)),(7,(Pv y3 0)),(8,(Pv y4 0)),(9,w5),(10,w14),(15,(Pv b31 0)),(17,(Pv b34 0)),(117,w14),(118,(Iv (b23s.1.length:Int))),(119,(Iv bK)),(126,v3),(127,(Iv (x10.length:Int))),(128,(Iv fK))] a) ?_ ?_
     ·rcases Bool.eq_false_or_eq_true m1 with hc22|hc22
      ·
       replace hg2:=(it hc22).symm.trans hg2
       refine Gkq hE hc22 rfl fun a hE=>Gkq hE hc22 rfl fun a hE=>Gkq hE hc22 rfl fun a hE=>Gkq hE hc22 rfl fun a hE=>Gkq hE hc22 rfl fun a hE=>Gkq hE hc22 rfl fun a hE=>Gkq hE hc22 rfl fun a hE=>Gkq hE hc22 rfl fun a hE=>Gkq hE hc22 rfl fun a hE=>Gkq hE hc22 rfl fun a hE=>Gkq hE hc22 rfl fun a hE=>Gkq hE hc22 rfl fun a hE=>Gkq hE hc22 rfl fun a hE=>?_
       refine Vq hE rfl (v:=(.bool true)) (jZ rfl hE rfl hc22 rfl) fun a hE=>?_
       obtain rfl:=oj hg2
       exact lU (hE.cut ⟨rfl,rfl,rfl,rfl,rfl,rfl,rfl,rfl,rfl,rfl,rfl,rfl,rfl,trivial⟩)
      replace hg2:=(ie hc22).symm.trans hg2
      refine Gq hE hc22 rfl (aJ rfl hE rfl (fun w hw=>aW (cs:=[yv4,yv5,yv6]) dA (Hp.cN 5 rfl 0 _ (aS rfl) w hw))) fun a hE=>Gq hE hc22 rfl (xf hE fU rfl rfl) fun a hE=>Gq hE hc22 rfl (xl hE aX 0 rfl rfl rfl rfl) fun a hE=>Gq hE hc22 rfl (xf hE fU rfl rfl) fun a hE=>Gq hE hc22 rfl (xl hE aX 1 rfl rfl rfl rfl) fun a hE=>?_
      obtain⟨x13,ex13,hg2⟩:=bnd hg2
      refine U4 (wk1 hE rfl rfl rfl hc22) rfl rfl hE rfl [(.agg #[yv4,yv5,yv6]),(Iv x11.a),(Iv x9.a)] ⟨rfl,rfl,rfl,trivial⟩ ent45 (v:=(.bool x13)) (fun w hw=>Calls.mono (jQ x1 yv4 yh4 yv5 yh5 yv6 yh6 x11.a x9.a hw x13 ex13) fun e w' ⟨v,he,hv,hh⟩=>⟨by rw[he,hv],hh⟩) ?_
      intro a hE
      refine Gq hE hc22 rfl (aJ rfl hE rfl (fun w hw=>aW (cs:=[yv1,yv2,yv3]) dA (Hp.cN 4 rfl 0 _ (aS rfl) w hw))) fun a hE=>Gq hE hc22 rfl (xf hE fD rfl rfl) fun a hE=>Gq hE hc22 rfl (xl hE aX 0 rfl rfl rfl rfl) fun a hE=>Gq hE hc22 rfl (xf hE fD rfl rfl) fun a hE=>Gq hE hc22 rfl (xl hE aX 1 rfl rfl rfl rfl) fun a hE=>?_
      obtain⟨x14,ex14,hg2⟩:=bnd hg2
      refine U4 (wk1 hE rfl rfl rfl hc22) rfl rfl hE rfl [(.agg #[yv1,yv2,yv3]),(Iv x11.b),(Iv x9.b)] ⟨rfl,rfl,rfl,trivial⟩ ent45 (v:=(.bool x14)) (fun w hw=>Calls.mono (jQ x2 yv1 yh1 yv2 yh2 yv3 yh3 x11.b x9.b hw x14 ex14) fun e w' ⟨v,he,hv,hh⟩=>⟨by rw[he,hv],hh⟩) ?_
      intro a hE
      refine Gq hE hc22 rfl (v:=(.bool (!(x13==x14)))) (ex_bneq bty4 rfl hE rfl rfl) fun a hE=>Vq hE rfl (v:=(.bool (!(x13==x14)))) (iQ rfl hE rfl hc22 rfl) fun a hE=>?_
      obtain rfl:=oj hg2
      exact lU (hE.cut ⟨rfl,rfl,rfl,rfl,rfl,rfl,rfl,rfl,rfl,rfl,rfl,rfl,rfl,trivial⟩)
     intro a hE
     refine Sq hE 1 rfl fun a hE=>?_
     obtain⟨m3,hg3,hl3⟩:=bnd hl3
     refine q_cut [_,_,_,_,_,_,_] (fun a=>Env 174 [(168,(.bool m3)),(7,(Pv y3 0)),(8,(Pv y4 0)),(9,w5),(10,w14),(15,(Pv b31 0)),(117,w14),(118,(Iv (b23s.1.length:Int))),(119,(Iv bK)),(126,v3),(127,(Iv (x10.length:Int))),(128,(Iv fK))] a) ?_ ?_
     ·rcases Bool.eq_false_or_eq_true m2 with hc23|hc23
      ·
       replace hg3:=(it hc23).symm.trans hg3
       refine Gkq hE hc23 rfl fun a hE=>Gkq hE hc23 rfl fun a hE=>Gkq hE hc23 rfl fun a hE=>Gkq hE hc23 rfl fun a hE=>Gkq hE hc23 rfl fun a hE=>Gkq hE hc23 rfl fun a hE=>?_
       refine Vq hE rfl (v:=(.bool true)) (jZ rfl hE rfl hc23 rfl) fun a hE=>?_
       obtain rfl:=oj hg3
       exact lU (hE.cut ⟨rfl,rfl,rfl,rfl,rfl,rfl,rfl,rfl,rfl,rfl,rfl,rfl,trivial⟩)
      replace hg3:=(ie hc23).symm.trans hg3
      refine Gq hE hc23 rfl (aJ rfl hE rfl (fun w hw=>aW (cs:=[yv1,yv2,yv3]) dA (Hp.cN 4 rfl 0 _ (aS rfl) w hw))) fun a hE=>Gq hE hc23 rfl (xf hE fD rfl rfl) fun a hE=>Gq hE hc23 rfl (xl hE aX 1 rfl rfl rfl rfl) fun a hE=>Gq hE hc23 rfl (xf hE fD rfl rfl) fun a hE=>Gq hE hc23 rfl (xl hE aX 0 rfl rfl rfl rfl) fun a hE=>?_
      obtain⟨x15,ex15,hg3⟩:=bnd hg3
      refine U4 (wk1 hE rfl rfl rfl hc23) rfl rfl hE rfl [(.agg #[yv1,yv2,yv3]),(Iv x9.b),(Iv x11.b)] ⟨rfl,rfl,rfl,trivial⟩ ent45 (v:=(.bool x15)) (fun w hw=>Calls.mono (jQ x2 yv1 yh1 yv2 yh2 yv3 yh3 x9.b x11.b hw x15 ex15) fun e w' ⟨v,he,hv,hh⟩=>⟨by rw[he,hv],hh⟩) ?_
      intro a hE
      refine Vq hE rfl (v:=(.bool x15)) (iQ rfl hE rfl hc23 rfl) fun a hE=>?_
      obtain rfl:=oj hg3
      exact lU (hE.cut ⟨rfl,rfl,rfl,rfl,rfl,rfl,rfl,rfl,rfl,rfl,rfl,rfl,trivial⟩)
     intro a hE
     refine lU fun w hp=>?_
     have hp:=r8 hp
     refine dI hE rfl (fun hc24=>?_) (fun hc24=>?_)
     ·replace hl3:=(it hc24).symm.trans hl3
      refine aF (aA ?_)
      refine S hE 1 rfl fun a hE=>aB (dD ?_)
      refine⟨_,(oj hl3).symm,fun hb=>?_⟩
      subst hb
      refine⟨_,(oj hl2).symm,fun hb=>?_⟩
      subst hb
      obtain rfl:=oj hm
      exact gK hE rfl rfl ⟨_,rfl,rfl,((((((((((((((((hp.get 7 rfl).drop).get 6 rfl).drop).get 5 rfl).drop).get 4 rfl).drop).get 3 rfl).drop).get 2 rfl).drop).get 1 rfl).drop).drop).less hley1)⟩
     replace hl3:=(ie hc24).symm.trans hl3
     refine bC (aA ?_)
     obtain⟨x16,ex16,hl3⟩:=bnd hl3
     refine V hE hp rfl (bF rfl hE rfl rfl (aK ex16)) fun a hE=>S hE 1 rfl fun a hE=>aB ?_
     exact⟨_,(oj hl3).symm,hE.cut ⟨rfl,rfl,rfl,rfl,rfl,rfl,rfl,rfl,rfl,rfl,rfl,trivial⟩,(hp.drop)⟩
    replace hl3:=(ie hc20).symm.trans hl3
    refine dU ?_
    refine⟨_,(oj hl3).symm,fun hbb=>?_⟩
    exact⟨_,hbb.symm,hE.cut ⟨rfl,rfl,rfl,rfl,rfl,rfl,rfl,trivial⟩,hp⟩
   rintro a w ⟨b32s,rfl,hE,hp⟩
   dsimp only at hl2
   refine aA ?_
   obtain⟨x17,ex17,hl2⟩:=bnd hl2
   refine V hE hp rfl (bF rfl hE rfl rfl (aK ex17)) fun a hE=>S hE 1 rfl fun a hE=>aB ?_
   exact⟨_,(oj hl2).symm,hE.cut ⟨rfl,rfl,rfl,rfl,rfl,rfl,rfl,trivial⟩,(hp.drop)⟩
  replace hl2:=(ie hc18).symm.trans hl2
  refine dU ?_
  refine⟨_,(oj hl2).symm,fun hbb=>?_⟩
  exact⟨_,hbb.symm,hE.cut ⟨rfl,trivial⟩,hp⟩
 rintro a w ⟨b29s,rfl,hE,hp⟩
 dsimp only at hm
 refine aF (aA ?_)
 refine S hE 1 rfl fun a hE=>?_
 obtain⟨k1,k1a,k1d,k1h⟩:=(hp.get 1 rfl).lend
 obtain⟨x18,ex18,hm⟩:=bnd hm
 refine Cl hE rfl rfl ent46 (zO b23s.2 w5 (aG.ro k1d k1a) false k1h x18 ex18) ⟨rfl,rfl,trivial⟩ fun v a w hR hE=>?_
 obtain⟨rfl,hp⟩:=hR
 have hp:=Hp.back k1a k1d hp
 have hp:=r6 hp
 refine S hE 2 rfl fun a hE=>aB (dD ?_)
 obtain rfl:=oj hm
 exact gK hE rfl rfl ⟨_,rfl,rfl,((((((((((((hp.get 5 rfl).drop).get 4 rfl).drop).get 3 rfl).drop).get 2 rfl).drop).get 1 rfl).drop).drop).less hley1)⟩
theorem c_align_Cost {Z:World} {ρ:PH} {L:List bI} {w:World} (p0:Node) (aI:Value) (aZ:aH ρ aI p0.kids) (p1:Node) (aP:Value) (bU:aH ρ aP p1.kids) (p2:(List Opn)) (vp2:Value) (hp2:aH ρ vp2 p2) (hp:Hp Z ρ (L) w) (r:(Int×Int)) (hm:Z7 p0 p1 p2=some r):
  Calls Tryz.prog 15 #[(.agg #[(Iv p0.kind),(.string p0.text),(Iv p0.at_),(Iv p0.fin),aI]),(.agg #[(Iv p1.kind),(.string p1.text),(Iv p1.at_),(Iv p1.fin),aP]),vp2] w (Ret fun v w'=>v= .tuple #[(Iv r.1),(Iv r.2)]∧Hp Z ρ (L) w'):=by
 refine enter (N:=56) Tryz.func15 rfl rfl [(0,(.agg #[(Iv p0.kind),(.string p0.text),(Iv p0.at_),(Iv p0.fin),aI])),(1,(.agg #[(Iv p1.kind),(.string p1.text),(Iv p1.at_),(Iv p1.fin),aP])),(2,vp2)] rfl (aY ⟨rfl,rfl,rfl,trivial⟩) fun a hE=>?_
 unfold Z7 at hm
 refine aF (aA ?_)
 refine iV (wk0 rfl) rfl rfl hE hp rfl (v:=(.agg #[(Iv p0.kind),(.string p0.text),(Iv p0.at_),(Iv p0.fin),aI])) rfl ?_
 intro a w b1 hE hp
 have hp:=r1 hp
 refine iV (wk0 rfl) rfl rfl hE hp rfl (v:=(.agg #[(Iv p1.kind),(.string p1.text),(Iv p1.at_),(Iv p1.fin),aP])) rfl ?_
 intro a w b2 hE hp
 have hp:=r2 hp
 refine S hE 2 rfl fun a hE=>aB (aF ?_)
 refine aF (aA ?_)
 refine V hE hp rfl (aJ rfl hE rfl (fun w hw=>aW (cs:=[(Iv p0.kind),(.string p0.text),(Iv p0.at_),(Iv p0.fin),aI]) bV (Hp.cN 1 rfl 0 _ (aS rfl) w hw))) fun a hE=>V hE hp rfl (aJ rfl hE rfl (fun w hw=>aW (cs:=[(Iv p1.kind),(.string p1.text),(Iv p1.at_),(Iv p1.fin),aP]) bV (Hp.cN 0 rfl 0 _ (aS rfl) w hw))) fun a hE=>S hE 1 rfl fun a hE=>?_
 obtain⟨x1,ex1,hm⟩:=bnd hm
 refine Cl hE rfl rfl ent17 (S9 p0 aI aZ p1 aP bU p2 vp2 hp2 hp x1 ex1) ⟨rfl,rfl,rfl,trivial⟩ fun v a w hR hE=>?_
 obtain⟨rfl,hp⟩:=hR
 have hp:=r2 hp
 refine S hE 1 rfl fun a hE=>aB ?_
 refine dI hE rfl (fun hc1=>?_) (fun hc1=>?_)
 ·replace hm:=(it hc1).symm.trans hm
  refine aF (aA ?_)
  refine S hE 2 rfl fun a hE=>aB (dD ?_)
  obtain rfl:=oj hm
  exact yG hE rfl rfl rfl ⟨_,rfl,rfl,(((hp.get 1 rfl).drop).drop)⟩
 replace hm:=(ie hc1).symm.trans hm
 refine bC (aF ?_)
 obtain⟨x2,ex2,hm⟩:=bnd hm
 obtain⟨x3,ex3,hm⟩:=bnd hm
 have hp:=hp.drew
 refine fO ([([],At0 Z ρ),([],At1 Z ρ (Pt b2 (.cells #[(Iv p1.kind),(.string p1.text),(Iv p1.at_),(Iv p1.fin),aP] 24 (0,0)))),([],At1 Z ρ (Pt b1 (.cells #[(Iv p0.kind),(.string p0.text),(Iv p0.at_),(Iv p0.fin),aI] 24 (0,0))))]:Facts) (fun a w=>∃ρy1:PH,∃y4:Nat,∃y3:Nat,∃yv1:Value,∃yv2:Value,∃yv3:Value,∃yv4:Value,∃yv5:Value,∃yv6:Value,ρ.le ρy1∧aH ρy1 yv1 x3.nodes∧aH ρy1 yv2 x3.sizes∧aH ρy1 yv3 x3.parent∧aH ρy1 yv4 x2.nodes∧aH ρy1 yv5 x2.sizes∧aH ρy1 yv6 x2.parent∧Env 56 [(2,vp2),(8,(Pv y3 0)),(9,(Pv y4 0)),(10,(Iv 0))] a∧Hp Z ρy1 (Pt y4 (.cells #[yv1,yv2,yv3] 75 (0,0))::Pt y3 (.cells #[yv4,yv5,yv6] 75 (0,0))::Pt b2 (.cells #[(Iv p1.kind),(.string p1.text),(Iv p1.at_),(Iv p1.fin),aP] 24 (0,0))::Pt b1 (.cells #[(Iv p0.kind),(.string p0.text),(Iv p0.at_),(Iv p0.fin),aI] 24 (0,0))::L) w) (by kernel_rfl) ⟨fun _=>⟨_,hp⟩,fun _=>⟨_,(hp.get 0 rfl)⟩,fun _=>⟨_,(hp.get 1 rfl)⟩,trivial⟩ (fun hS=>?_) ?_
 ·
  generalize w.drew=w at hS hp⊢
  refine T 0 2 hE hS rfl rfl rfl (by kernel_rfl) (fun _=>aJ rfl hE rfl (fun w hw=>aW (cs:=[(Iv p0.kind),(.string p0.text),(Iv p0.at_),(Iv p0.fin),aI]) bV (Hp.cN 0 rfl 0 _ (aS rfl) w hw))) fun a hE hS=>T 2 1 hE hS rfl rfl rfl (by kernel_rfl) (fun _=>aJ rfl hE rfl (fun w hw=>aW (cs:=[(Iv p1.kind),(.string p1.text),(Iv p1.at_),(Iv p1.fin),aP]) bV (Hp.cN 0 rfl 0 _ (aS rfl) w hw))) fun a hE hS=>?_
  refine fQ [1,4,5] (by kernel_rfl) rfl ?_
  refine List.forall_mem_cons.2 ⟨?_,List.forall_mem_cons.2 ⟨?_,List.forall_mem_cons.2 ⟨?_,fun _ h=>absurd h (by simp)⟩⟩⟩
  ·
   refine dQ rfl ?_
   refine Cl hE rfl rfl jA (bD p0 aI aZ hp x2 ex2) ⟨rfl,trivial⟩ fun v a w hR hE=>?_
   obtain⟨ρ3,lZ,mD,kL,hle3,rfl,fG,fH,dZ,hp⟩:=hR
   have hp:=r2 hp
   refine aB (aC ⟨fun _=>⟨_,(hp.less hle3)⟩,fun _=>⟨_,((hp.get 0 rfl).less hle3)⟩,fun _=>⟨_,((hp.get 1 rfl).less hle3)⟩,trivial⟩ fun hS=>?_)
   refine fQ [3,4,5] (by kernel_rfl) rfl ?_
   refine List.forall_mem_cons.2 ⟨?_,List.forall_mem_cons.2 ⟨?_,List.forall_mem_cons.2 ⟨?_,fun _ h=>absurd h (by simp)⟩⟩⟩
   ·
    refine dQ rfl ?_
    refine Cl hE rfl rfl jA (bD p1 aP (aH.mono bU hle3) hp x3 ex3) ⟨rfl,trivial⟩ fun v a w hR hE=>?_
    obtain⟨ρ4,rO,rP,pM,hle4,rfl,nD,nG,lC,hp⟩:=hR
    have hp:=r2 hp
    refine aB (aC ⟨fun _=>⟨_,((hp.less hle4).less hle3)⟩,fun _=>⟨_,(((hp.get 0 rfl).less hle4).less hle3)⟩,fun _=>⟨_,(((hp.get 1 rfl).less hle4).less hle3)⟩,trivial⟩ fun hS=>?_)
    refine fQ [4,5] (by kernel_rfl) rfl ?_
    refine List.forall_mem_cons.2 ⟨?_,List.forall_mem_cons.2 ⟨?_,fun _ h=>absurd h (by simp)⟩⟩
    ·
     refine dQ rfl ?_
     refine dH (wk0 rfl) rfl rfl hE hp rfl [N0,N0,N0] (fun w=>by simp[Instr.alloc,go_sem]<;>rfl) ?_
     intro a w b5 hE hp
     have hp:=r3 hp
     refine aB (aC ⟨fun _=>⟨_,((hp.less hle4).less hle3)⟩,fun _=>⟨_,(((hp.get 1 rfl).less hle4).less hle3)⟩,fun _=>⟨_,(((hp.get 2 rfl).less hle4).less hle3)⟩,trivial⟩ fun hS=>?_)
     refine W1 5 (by kernel_rfl) rfl ?_
     refine dH (wk0 rfl) rfl rfl hE hp rfl [N0,N0,N0] (fun w=>by simp[Instr.alloc,go_sem]<;>rfl) ?_
     intro a w b6 hE hp
     have hp:=r4 hp
     refine aB (aC ⟨fun _=>⟨_,((hp.less hle4).less hle3)⟩,fun _=>⟨_,(((hp.get 2 rfl).less hle4).less hle3)⟩,fun _=>⟨_,(((hp.get 3 rfl).less hle4).less hle3)⟩,trivial⟩ fun hS=>?_)
     refine W1 6 (by kernel_rfl) rfl ?_
     refine aU (wk0 rfl) rfl hE hp rfl rfl rfl 1 rfl dA.size_ rfl (aN ⟨(aH.one (aH.mono fG hle4)),(aH.one (aH.mono fH hle4)),(aH.one (aH.mono dZ hle4)),trivial⟩) [lZ,mD,kL] rfl ?_
     intro w hp
     have hp:=r4 hp
     refine aB (aC ⟨fun _=>⟨_,((hp.less hle4).less hle3)⟩,fun _=>⟨_,(((hp.get 2 rfl).less hle4).less hle3)⟩,fun _=>⟨_,(((hp.get 3 rfl).less hle4).less hle3)⟩,trivial⟩ fun hS=>?_)
     refine W1 7 (by kernel_rfl) rfl ?_
     refine aU (wk0 rfl) rfl hE hp rfl rfl rfl 0 rfl dA.size_ rfl (aN ⟨(aH.one nD),(aH.one nG),(aH.one lC),trivial⟩) [rO,rP,pM] rfl ?_
     intro w hp
     have hp:=r4 hp
     refine aB (aC ⟨fun _=>⟨_,((hp.less hle4).less hle3)⟩,fun _=>⟨_,(((hp.get 2 rfl).less hle4).less hle3)⟩,fun _=>⟨_,(((hp.get 3 rfl).less hle4).less hle3)⟩,trivial⟩ fun hS=>?_)
     refine Ts [8] hE hS rfl rfl (by kernel_rfl) fun a hE hS=>?_
     exact bP (by kernel_rfl) ⟨ρ4,_,_,_,_,_,_,_,_,(PH.le.tr hle3 hle4),nD,nG,lC,(aH.mono fG hle4),(aH.mono fH hle4),(aH.mono dZ hle4),hE.cut ⟨rfl,rfl,rfl,rfl,trivial⟩,hp⟩
    refine dQ rfl ?_
    refine dH (wk0 rfl) rfl rfl hE hp rfl [N0,N0,N0] (fun w=>by simp[Instr.alloc,go_sem]<;>rfl) ?_
    intro a w b7 hE hp
    have hp:=r3 hp
    refine aB (aC ⟨fun _=>⟨_,((hp.less hle4).less hle3)⟩,fun _=>⟨_,(((hp.get 1 rfl).less hle4).less hle3)⟩,fun _=>⟨_,(((hp.get 2 rfl).less hle4).less hle3)⟩,trivial⟩ fun hS=>?_)
    refine W1 4 (by kernel_rfl) rfl ?_
    refine dH (wk0 rfl) rfl rfl hE hp rfl [N0,N0,N0] (fun w=>by simp[Instr.alloc,go_sem]<;>rfl) ?_
    intro a w b8 hE hp
    have hp:=r4 hp
    refine aB (aC ⟨fun _=>⟨_,((hp.less hle4).less hle3)⟩,fun _=>⟨_,(((hp.get 2 rfl).less hle4).less hle3)⟩,fun _=>⟨_,(((hp.get 3 rfl).less hle4).less hle3)⟩,trivial⟩ fun hS=>?_)
    refine W1 6 (by kernel_rfl) rfl ?_
    refine aU (wk0 rfl) rfl hE hp rfl rfl rfl 0 rfl dA.size_ rfl (aN ⟨(aH.one (aH.mono fG hle4)),(aH.one (aH.mono fH hle4)),(aH.one (aH.mono dZ hle4)),trivial⟩) [lZ,mD,kL] rfl ?_
    intro w hp
    have hp:=r4 hp
    refine aB (aC ⟨fun _=>⟨_,((hp.less hle4).less hle3)⟩,fun _=>⟨_,(((hp.get 2 rfl).less hle4).less hle3)⟩,fun _=>⟨_,(((hp.get 3 rfl).less hle4).less hle3)⟩,trivial⟩ fun hS=>?_)
    refine W1 7 (by kernel_rfl) rfl ?_
    refine aU (wk0 rfl) rfl hE hp rfl rfl rfl 1 rfl dA.size_ rfl (aN ⟨(aH.one nD),(aH.one nG),(aH.one lC),trivial⟩) [rO,rP,pM] rfl ?_
    intro w hp
    have hp:=r4 hp
    refine aB (aC ⟨fun _=>⟨_,((hp.less hle4).less hle3)⟩,fun _=>⟨_,(((hp.get 2 rfl).less hle4).less hle3)⟩,fun _=>⟨_,(((hp.get 3 rfl).less hle4).less hle3)⟩,trivial⟩ fun hS=>?_)
    refine Ts [8] hE hS rfl rfl (by kernel_rfl) fun a hE hS=>?_
    exact bP (by kernel_rfl) ⟨ρ4,_,_,_,_,_,_,_,_,(PH.le.tr hle3 hle4),nD,nG,lC,(aH.mono fG hle4),(aH.mono fH hle4),(aH.mono dZ hle4),hE.cut ⟨rfl,rfl,rfl,rfl,trivial⟩,((((hp.get 3 rfl).get 3 rfl).get 2 rfl).get 3 rfl)⟩
   ·
    refine dQ rfl ?_
    refine dH (wk0 rfl) rfl rfl hE hp rfl [N0,N0,N0] (fun w=>by simp[Instr.alloc,go_sem]<;>rfl) ?_
    intro a w b9 hE hp
    have hp:=r3 hp
    refine aB (aC ⟨fun _=>⟨_,(hp.less hle3)⟩,fun _=>⟨_,((hp.get 1 rfl).less hle3)⟩,fun _=>⟨_,((hp.get 2 rfl).less hle3)⟩,trivial⟩ fun hS=>?_)
    refine fQ [3,5] (by kernel_rfl) rfl ?_
    refine List.forall_mem_cons.2 ⟨?_,List.forall_mem_cons.2 ⟨?_,fun _ h=>absurd h (by simp)⟩⟩
    ·
     refine dQ rfl ?_
     refine Cl hE rfl rfl jA (bD p1 aP (aH.mono bU hle3) hp x3 ex3) ⟨rfl,trivial⟩ fun v a w hR hE=>?_
     obtain⟨ρ5,vI,vJ,sS,hle5,rfl,rD,rE,pJ,hp⟩:=hR
     have hp:=r3 hp
     refine aB (aC ⟨fun _=>⟨_,((hp.less hle5).less hle3)⟩,fun _=>⟨_,(((hp.get 1 rfl).less hle5).less hle3)⟩,fun _=>⟨_,(((hp.get 2 rfl).less hle5).less hle3)⟩,trivial⟩ fun hS=>?_)
     refine W1 5 (by kernel_rfl) rfl ?_
     refine dH (wk0 rfl) rfl rfl hE hp rfl [N0,N0,N0] (fun w=>by simp[Instr.alloc,go_sem]<;>rfl) ?_
     intro a w b10 hE hp
     have hp:=r4 hp
     refine aB (aC ⟨fun _=>⟨_,((hp.less hle5).less hle3)⟩,fun _=>⟨_,(((hp.get 2 rfl).less hle5).less hle3)⟩,fun _=>⟨_,(((hp.get 3 rfl).less hle5).less hle3)⟩,trivial⟩ fun hS=>?_)
     refine W1 6 (by kernel_rfl) rfl ?_
     refine aU (wk0 rfl) rfl hE hp rfl rfl rfl 1 rfl dA.size_ rfl (aN ⟨(aH.one (aH.mono fG hle5)),(aH.one (aH.mono fH hle5)),(aH.one (aH.mono dZ hle5)),trivial⟩) [lZ,mD,kL] rfl ?_
     intro w hp
     have hp:=r4 hp
     refine aB (aC ⟨fun _=>⟨_,((hp.less hle5).less hle3)⟩,fun _=>⟨_,(((hp.get 2 rfl).less hle5).less hle3)⟩,fun _=>⟨_,(((hp.get 3 rfl).less hle5).less hle3)⟩,trivial⟩ fun hS=>?_)
     refine W1 7 (by kernel_rfl) rfl ?_
     refine aU (wk0 rfl) rfl hE hp rfl rfl rfl 0 rfl dA.size_ rfl (aN ⟨(aH.one rD),(aH.one rE),(aH.one pJ),trivial⟩) [vI,vJ,sS] rfl ?_
     intro w hp
     have hp:=r4 hp
     refine aB (aC ⟨fun _=>⟨_,((hp.less hle5).less hle3)⟩,fun _=>⟨_,(((hp.get 2 rfl).less hle5).less hle3)⟩,fun _=>⟨_,(((hp.get 3 rfl).less hle5).less hle3)⟩,trivial⟩ fun hS=>?_)
     refine Ts [8] hE hS rfl rfl (by kernel_rfl) fun a hE hS=>?_
     exact bP (by kernel_rfl) ⟨ρ5,_,_,_,_,_,_,_,_,(PH.le.tr hle3 hle5),rD,rE,pJ,(aH.mono fG hle5),(aH.mono fH hle5),(aH.mono dZ hle5),hE.cut ⟨rfl,rfl,rfl,rfl,trivial⟩,hp⟩
    refine dQ rfl ?_
    refine dH (wk0 rfl) rfl rfl hE hp rfl [N0,N0,N0] (fun w=>by simp[Instr.alloc,go_sem]<;>rfl) ?_
    intro a w b11 hE hp
    have hp:=r4 hp
    refine aB (aC ⟨fun _=>⟨_,(hp.less hle3)⟩,fun _=>⟨_,((hp.get 2 rfl).less hle3)⟩,fun _=>⟨_,((hp.get 3 rfl).less hle3)⟩,trivial⟩ fun hS=>?_)
    refine W1 3 (by kernel_rfl) rfl ?_
    refine Cl hE rfl rfl jA (bD p1 aP (aH.mono bU hle3) hp x3 ex3) ⟨rfl,trivial⟩ fun v a w hR hE=>?_
    obtain⟨ρ6,X9,Y0,O4,hle6,rfl,wL,wM,uU,hp⟩:=hR
    have hp:=r4 hp
    refine aB (aC ⟨fun _=>⟨_,((hp.less hle6).less hle3)⟩,fun _=>⟨_,(((hp.get 2 rfl).less hle6).less hle3)⟩,fun _=>⟨_,(((hp.get 3 rfl).less hle6).less hle3)⟩,trivial⟩ fun hS=>?_)
    refine W1 6 (by kernel_rfl) rfl ?_
    refine aU (wk0 rfl) rfl hE hp rfl rfl rfl 1 rfl dA.size_ rfl (aN ⟨(aH.one (aH.mono fG hle6)),(aH.one (aH.mono fH hle6)),(aH.one (aH.mono dZ hle6)),trivial⟩) [lZ,mD,kL] rfl ?_
    intro w hp
    have hp:=r4 hp
    refine aB (aC ⟨fun _=>⟨_,((hp.less hle6).less hle3)⟩,fun _=>⟨_,(((hp.get 2 rfl).less hle6).less hle3)⟩,fun _=>⟨_,(((hp.get 3 rfl).less hle6).less hle3)⟩,trivial⟩ fun hS=>?_)
    refine W1 7 (by kernel_rfl) rfl ?_
    refine aU (wk0 rfl) rfl hE hp rfl rfl rfl 0 rfl dA.size_ rfl (aN ⟨(aH.one wL),(aH.one wM),(aH.one uU),trivial⟩) [X9,Y0,O4] rfl ?_
    intro w hp
    have hp:=r4 hp
    refine aB (aC ⟨fun _=>⟨_,((hp.less hle6).less hle3)⟩,fun _=>⟨_,(((hp.get 2 rfl).less hle6).less hle3)⟩,fun _=>⟨_,(((hp.get 3 rfl).less hle6).less hle3)⟩,trivial⟩ fun hS=>?_)
    refine Ts [8] hE hS rfl rfl (by kernel_rfl) fun a hE hS=>?_
    exact bP (by kernel_rfl) ⟨ρ6,_,_,_,_,_,_,_,_,(PH.le.tr hle3 hle6),wL,wM,uU,(aH.mono fG hle6),(aH.mono fH hle6),(aH.mono dZ hle6),hE.cut ⟨rfl,rfl,rfl,rfl,trivial⟩,hp⟩
   refine dQ rfl ?_
   refine dH (wk0 rfl) rfl rfl hE hp rfl [N0,N0,N0] (fun w=>by simp[Instr.alloc,go_sem]<;>rfl) ?_
   intro a w b12 hE hp
   have hp:=r3 hp
   refine aB (aC ⟨fun _=>⟨_,(hp.less hle3)⟩,fun _=>⟨_,((hp.get 1 rfl).less hle3)⟩,fun _=>⟨_,((hp.get 2 rfl).less hle3)⟩,trivial⟩ fun hS=>?_)
   refine fQ [3,4] (by kernel_rfl) rfl ?_
   refine List.forall_mem_cons.2 ⟨?_,List.forall_mem_cons.2 ⟨?_,fun _ h=>absurd h (by simp)⟩⟩
   ·
    refine dQ rfl ?_
    refine Cl hE rfl rfl jA (bD p1 aP (aH.mono bU hle3) hp x3 ex3) ⟨rfl,trivial⟩ fun v a w hR hE=>?_
    obtain⟨ρ7,Y1,Y2,O5,hle7,rfl,wO,wP,uV,hp⟩:=hR
    have hp:=r3 hp
    refine aB (aC ⟨fun _=>⟨_,((hp.less hle7).less hle3)⟩,fun _=>⟨_,(((hp.get 1 rfl).less hle7).less hle3)⟩,fun _=>⟨_,(((hp.get 2 rfl).less hle7).less hle3)⟩,trivial⟩ fun hS=>?_)
    refine W1 4 (by kernel_rfl) rfl ?_
    refine dH (wk0 rfl) rfl rfl hE hp rfl [N0,N0,N0] (fun w=>by simp[Instr.alloc,go_sem]<;>rfl) ?_
    intro a w b13 hE hp
    have hp:=r4 hp
    refine aB (aC ⟨fun _=>⟨_,((hp.less hle7).less hle3)⟩,fun _=>⟨_,(((hp.get 2 rfl).less hle7).less hle3)⟩,fun _=>⟨_,(((hp.get 3 rfl).less hle7).less hle3)⟩,trivial⟩ fun hS=>?_)
    refine W1 6 (by kernel_rfl) rfl ?_
    refine aU (wk0 rfl) rfl hE hp rfl rfl rfl 0 rfl dA.size_ rfl (aN ⟨(aH.one (aH.mono fG hle7)),(aH.one (aH.mono fH hle7)),(aH.one (aH.mono dZ hle7)),trivial⟩) [lZ,mD,kL] rfl ?_
    intro w hp
    have hp:=r4 hp
    refine aB (aC ⟨fun _=>⟨_,((hp.less hle7).less hle3)⟩,fun _=>⟨_,(((hp.get 2 rfl).less hle7).less hle3)⟩,fun _=>⟨_,(((hp.get 3 rfl).less hle7).less hle3)⟩,trivial⟩ fun hS=>?_)
    refine W1 7 (by kernel_rfl) rfl ?_
    refine aU (wk0 rfl) rfl hE hp rfl rfl rfl 1 rfl dA.size_ rfl (aN ⟨(aH.one wO),(aH.one wP),(aH.one uV),trivial⟩) [Y1,Y2,O5] rfl ?_
    intro w hp
    have hp:=r4 hp
    refine aB (aC ⟨fun _=>⟨_,((hp.less hle7).less hle3)⟩,fun _=>⟨_,(((hp.get 2 rfl).less hle7).less hle3)⟩,fun _=>⟨_,(((hp.get 3 rfl).less hle7).less hle3)⟩,trivial⟩ fun hS=>?_)
    refine Ts [8] hE hS rfl rfl (by kernel_rfl) fun a hE hS=>?_
    exact bP (by kernel_rfl) ⟨ρ7,_,_,_,_,_,_,_,_,(PH.le.tr hle3 hle7),wO,wP,uV,(aH.mono fG hle7),(aH.mono fH hle7),(aH.mono dZ hle7),hE.cut ⟨rfl,rfl,rfl,rfl,trivial⟩,((((hp.get 3 rfl).get 3 rfl).get 2 rfl).get 3 rfl)⟩
   refine dQ rfl ?_
   refine dH (wk0 rfl) rfl rfl hE hp rfl [N0,N0,N0] (fun w=>by simp[Instr.alloc,go_sem]<;>rfl) ?_
   intro a w b14 hE hp
   have hp:=r4 hp
   refine aB (aC ⟨fun _=>⟨_,(hp.less hle3)⟩,fun _=>⟨_,((hp.get 2 rfl).less hle3)⟩,fun _=>⟨_,((hp.get 3 rfl).less hle3)⟩,trivial⟩ fun hS=>?_)
   refine W1 3 (by kernel_rfl) rfl ?_
   refine Cl hE rfl rfl jA (bD p1 aP (aH.mono bU hle3) hp x3 ex3) ⟨rfl,trivial⟩ fun v a w hR hE=>?_
   obtain⟨ρ8,G5,G6,yL,hle8,rfl,tH,tJ,qU,hp⟩:=hR
   have hp:=r4 hp
   refine aB (aC ⟨fun _=>⟨_,((hp.less hle8).less hle3)⟩,fun _=>⟨_,(((hp.get 2 rfl).less hle8).less hle3)⟩,fun _=>⟨_,(((hp.get 3 rfl).less hle8).less hle3)⟩,trivial⟩ fun hS=>?_)
   refine W1 6 (by kernel_rfl) rfl ?_
   refine aU (wk0 rfl) rfl hE hp rfl rfl rfl 0 rfl dA.size_ rfl (aN ⟨(aH.one (aH.mono fG hle8)),(aH.one (aH.mono fH hle8)),(aH.one (aH.mono dZ hle8)),trivial⟩) [lZ,mD,kL] rfl ?_
   intro w hp
   have hp:=r4 hp
   refine aB (aC ⟨fun _=>⟨_,((hp.less hle8).less hle3)⟩,fun _=>⟨_,(((hp.get 2 rfl).less hle8).less hle3)⟩,fun _=>⟨_,(((hp.get 3 rfl).less hle8).less hle3)⟩,trivial⟩ fun hS=>?_)
   refine W1 7 (by kernel_rfl) rfl ?_
   refine aU (wk0 rfl) rfl hE hp rfl rfl rfl 1 rfl dA.size_ rfl (aN ⟨(aH.one tH),(aH.one tJ),(aH.one qU),trivial⟩) [G5,G6,yL] rfl ?_
   intro w hp
   have hp:=r4 hp
   refine aB (aC ⟨fun _=>⟨_,((hp.less hle8).less hle3)⟩,fun _=>⟨_,(((hp.get 2 rfl).less hle8).less hle3)⟩,fun _=>⟨_,(((hp.get 3 rfl).less hle8).less hle3)⟩,trivial⟩ fun hS=>?_)
   refine Ts [8] hE hS rfl rfl (by kernel_rfl) fun a hE hS=>?_
   exact bP (by kernel_rfl) ⟨ρ8,_,_,_,_,_,_,_,_,(PH.le.tr hle3 hle8),tH,tJ,qU,(aH.mono fG hle8),(aH.mono fH hle8),(aH.mono dZ hle8),hE.cut ⟨rfl,rfl,rfl,rfl,trivial⟩,((((hp.get 3 rfl).get 3 rfl).get 2 rfl).get 3 rfl)⟩
  ·
   refine dQ rfl ?_
   refine dH (wk0 rfl) rfl rfl hE hp rfl [N0,N0,N0] (fun w=>by simp[Instr.alloc,go_sem]<;>rfl) ?_
   intro a w b15 hE hp
   have hp:=r3 hp
   refine aB (aC ⟨gp0 hp,gp 1 hp rfl,gp 2 hp rfl,trivial⟩ fun hS=>?_)
   refine fQ [1,5] (by kernel_rfl) rfl ?_
   refine List.forall_mem_cons.2 ⟨?_,List.forall_mem_cons.2 ⟨?_,fun _ h=>absurd h (by simp)⟩⟩
   ·
    refine dQ rfl ?_
    refine Cl hE rfl rfl jA (bD p0 aI aZ hp x2 ex2) ⟨rfl,trivial⟩ fun v a w hR hE=>?_
    obtain⟨ρ9,wE,wF,uX,hle9,rfl,oI,oJ,mF,hp⟩:=hR
    have hp:=r3 hp
    refine aB (aC ⟨fun _=>⟨_,(hp.less hle9)⟩,fun _=>⟨_,((hp.get 1 rfl).less hle9)⟩,fun _=>⟨_,((hp.get 2 rfl).less hle9)⟩,trivial⟩ fun hS=>?_)
    refine fQ [3,5] (by kernel_rfl) rfl ?_
    refine List.forall_mem_cons.2 ⟨?_,List.forall_mem_cons.2 ⟨?_,fun _ h=>absurd h (by simp)⟩⟩
    ·
     refine dQ rfl ?_
     refine Cl hE rfl rfl jA (bD p1 aP (aH.mono bU hle9) hp x3 ex3) ⟨rfl,trivial⟩ fun v a w hR hE=>?_
     obtain⟨ρ10,J7,J8,zG,hle10,rfl,uG,uH,rV,hp⟩:=hR
     have hp:=r3 hp
     refine aB (aC ⟨fun _=>⟨_,((hp.less hle10).less hle9)⟩,fun _=>⟨_,(((hp.get 1 rfl).less hle10).less hle9)⟩,fun _=>⟨_,(((hp.get 2 rfl).less hle10).less hle9)⟩,trivial⟩ fun hS=>?_)
     refine W1 5 (by kernel_rfl) rfl ?_
     refine dH (wk0 rfl) rfl rfl hE hp rfl [N0,N0,N0] (fun w=>by simp[Instr.alloc,go_sem]<;>rfl) ?_
     intro a w b16 hE hp
     have hp:=r4 hp
     refine aB (aC ⟨fun _=>⟨_,((hp.less hle10).less hle9)⟩,fun _=>⟨_,(((hp.get 2 rfl).less hle10).less hle9)⟩,fun _=>⟨_,(((hp.get 3 rfl).less hle10).less hle9)⟩,trivial⟩ fun hS=>?_)
     refine W1 6 (by kernel_rfl) rfl ?_
     refine aU (wk0 rfl) rfl hE hp rfl rfl rfl 1 rfl dA.size_ rfl (aN ⟨(aH.one (aH.mono oI hle10)),(aH.one (aH.mono oJ hle10)),(aH.one (aH.mono mF hle10)),trivial⟩) [wE,wF,uX] rfl ?_
     intro w hp
     have hp:=r4 hp
     refine aB (aC ⟨fun _=>⟨_,((hp.less hle10).less hle9)⟩,fun _=>⟨_,(((hp.get 2 rfl).less hle10).less hle9)⟩,fun _=>⟨_,(((hp.get 3 rfl).less hle10).less hle9)⟩,trivial⟩ fun hS=>?_)
     refine W1 7 (by kernel_rfl) rfl ?_
     refine aU (wk0 rfl) rfl hE hp rfl rfl rfl 0 rfl dA.size_ rfl (aN ⟨(aH.one uG),(aH.one uH),(aH.one rV),trivial⟩) [J7,J8,zG] rfl ?_
     intro w hp
     have hp:=r4 hp
     refine aB (aC ⟨fun _=>⟨_,((hp.less hle10).less hle9)⟩,fun _=>⟨_,(((hp.get 2 rfl).less hle10).less hle9)⟩,fun _=>⟨_,(((hp.get 3 rfl).less hle10).less hle9)⟩,trivial⟩ fun hS=>?_)
     refine Ts [8] hE hS rfl rfl (by kernel_rfl) fun a hE hS=>?_
     exact bP (by kernel_rfl) ⟨ρ10,_,_,_,_,_,_,_,_,(PH.le.tr hle9 hle10),uG,uH,rV,(aH.mono oI hle10),(aH.mono oJ hle10),(aH.mono mF hle10),hE.cut ⟨rfl,rfl,rfl,rfl,trivial⟩,hp⟩
    refine dQ rfl ?_
    refine dH (wk0 rfl) rfl rfl hE hp rfl [N0,N0,N0] (fun w=>by simp[Instr.alloc,go_sem]<;>rfl) ?_
    intro a w b17 hE hp
    have hp:=r4 hp
    refine aB (aC ⟨fun _=>⟨_,(hp.less hle9)⟩,fun _=>⟨_,((hp.get 2 rfl).less hle9)⟩,fun _=>⟨_,((hp.get 3 rfl).less hle9)⟩,trivial⟩ fun hS=>?_)
    refine W1 3 (by kernel_rfl) rfl ?_
    refine Cl hE rfl rfl jA (bD p1 aP (aH.mono bU hle9) hp x3 ex3) ⟨rfl,trivial⟩ fun v a w hR hE=>?_
    obtain⟨ρ11,J9,L6,zH,hle11,rfl,uI,uJ,rW,hp⟩:=hR
    have hp:=r4 hp
    refine aB (aC ⟨fun _=>⟨_,((hp.less hle11).less hle9)⟩,fun _=>⟨_,(((hp.get 2 rfl).less hle11).less hle9)⟩,fun _=>⟨_,(((hp.get 3 rfl).less hle11).less hle9)⟩,trivial⟩ fun hS=>?_)
    refine W1 6 (by kernel_rfl) rfl ?_
    refine aU (wk0 rfl) rfl hE hp rfl rfl rfl 1 rfl dA.size_ rfl (aN ⟨(aH.one (aH.mono oI hle11)),(aH.one (aH.mono oJ hle11)),(aH.one (aH.mono mF hle11)),trivial⟩) [wE,wF,uX] rfl ?_
    intro w hp
    have hp:=r4 hp
    refine aB (aC ⟨fun _=>⟨_,((hp.less hle11).less hle9)⟩,fun _=>⟨_,(((hp.get 2 rfl).less hle11).less hle9)⟩,fun _=>⟨_,(((hp.get 3 rfl).less hle11).less hle9)⟩,trivial⟩ fun hS=>?_)
    refine W1 7 (by kernel_rfl) rfl ?_
    refine aU (wk0 rfl) rfl hE hp rfl rfl rfl 0 rfl dA.size_ rfl (aN ⟨(aH.one uI),(aH.one uJ),(aH.one rW),trivial⟩) [J9,L6,zH] rfl ?_
    intro w hp
    have hp:=r4 hp
    refine aB (aC ⟨fun _=>⟨_,((hp.less hle11).less hle9)⟩,fun _=>⟨_,(((hp.get 2 rfl).less hle11).less hle9)⟩,fun _=>⟨_,(((hp.get 3 rfl).less hle11).less hle9)⟩,trivial⟩ fun hS=>?_)
    refine Ts [8] hE hS rfl rfl (by kernel_rfl) fun a hE hS=>?_
    exact bP (by kernel_rfl) ⟨ρ11,_,_,_,_,_,_,_,_,(PH.le.tr hle9 hle11),uI,uJ,rW,(aH.mono oI hle11),(aH.mono oJ hle11),(aH.mono mF hle11),hE.cut ⟨rfl,rfl,rfl,rfl,trivial⟩,hp⟩
   refine dQ rfl ?_
   refine dH (wk0 rfl) rfl rfl hE hp rfl [N0,N0,N0] (fun w=>by simp[Instr.alloc,go_sem]<;>rfl) ?_
   intro a w b18 hE hp
   have hp:=r4 hp
   refine aB (aC ⟨gp0 hp,gp 2 hp rfl,gp 3 hp rfl,trivial⟩ fun hS=>?_)
   refine W1 1 (by kernel_rfl) rfl ?_
   refine Cl hE rfl rfl jA (bD p0 aI aZ hp x2 ex2) ⟨rfl,trivial⟩ fun v a w hR hE=>?_
   obtain⟨ρ12,L8,L9,zI,hle12,rfl,uK,uM,rX,hp⟩:=hR
   have hp:=r4 hp
   refine aB (aC ⟨fun _=>⟨_,(hp.less hle12)⟩,fun _=>⟨_,((hp.get 2 rfl).less hle12)⟩,fun _=>⟨_,((hp.get 3 rfl).less hle12)⟩,trivial⟩ fun hS=>?_)
   refine W1 3 (by kernel_rfl) rfl ?_
   refine Cl hE rfl rfl jA (bD p1 aP (aH.mono bU hle12) hp x3 ex3) ⟨rfl,trivial⟩ fun v a w hR hE=>?_
   obtain⟨ρ13,yH,yI,xB,hle13,rfl,qQ,qR,pF,hp⟩:=hR
   have hp:=r4 hp
   refine aB (aC ⟨fun _=>⟨_,((hp.less hle13).less hle12)⟩,fun _=>⟨_,(((hp.get 2 rfl).less hle13).less hle12)⟩,fun _=>⟨_,(((hp.get 3 rfl).less hle13).less hle12)⟩,trivial⟩ fun hS=>?_)
   refine W1 6 (by kernel_rfl) rfl ?_
   refine aU (wk0 rfl) rfl hE hp rfl rfl rfl 1 rfl dA.size_ rfl (aN ⟨(aH.one (aH.mono uK hle13)),(aH.one (aH.mono uM hle13)),(aH.one (aH.mono rX hle13)),trivial⟩) [L8,L9,zI] rfl ?_
   intro w hp
   have hp:=r4 hp
   refine aB (aC ⟨fun _=>⟨_,((hp.less hle13).less hle12)⟩,fun _=>⟨_,(((hp.get 2 rfl).less hle13).less hle12)⟩,fun _=>⟨_,(((hp.get 3 rfl).less hle13).less hle12)⟩,trivial⟩ fun hS=>?_)
   refine W1 7 (by kernel_rfl) rfl ?_
   refine aU (wk0 rfl) rfl hE hp rfl rfl rfl 0 rfl dA.size_ rfl (aN ⟨(aH.one qQ),(aH.one qR),(aH.one pF),trivial⟩) [yH,yI,xB] rfl ?_
   intro w hp
   have hp:=r4 hp
   refine aB (aC ⟨fun _=>⟨_,((hp.less hle13).less hle12)⟩,fun _=>⟨_,(((hp.get 2 rfl).less hle13).less hle12)⟩,fun _=>⟨_,(((hp.get 3 rfl).less hle13).less hle12)⟩,trivial⟩ fun hS=>?_)
   refine Ts [8] hE hS rfl rfl (by kernel_rfl) fun a hE hS=>?_
   exact bP (by kernel_rfl) ⟨ρ13,_,_,_,_,_,_,_,_,(PH.le.tr hle12 hle13),qQ,qR,pF,(aH.mono uK hle13),(aH.mono uM hle13),(aH.mono rX hle13),hE.cut ⟨rfl,rfl,rfl,rfl,trivial⟩,hp⟩
  refine dQ rfl ?_
  refine dH (wk0 rfl) rfl rfl hE hp rfl [N0,N0,N0] (fun w=>by simp[Instr.alloc,go_sem]<;>rfl) ?_
  intro a w b19 hE hp
  have hp:=r3 hp
  refine aB (aC ⟨gp0 hp,gp 1 hp rfl,gp 2 hp rfl,trivial⟩ fun hS=>?_)
  refine fQ [1,4] (by kernel_rfl) rfl ?_
  refine List.forall_mem_cons.2 ⟨?_,List.forall_mem_cons.2 ⟨?_,fun _ h=>absurd h (by simp)⟩⟩
  ·
   refine dQ rfl ?_
   refine Cl hE rfl rfl jA (bD p0 aI aZ hp x2 ex2) ⟨rfl,trivial⟩ fun v a w hR hE=>?_
   obtain⟨ρ14,wG,wH,uY,hle14,rfl,oK,oL,mG,hp⟩:=hR
   have hp:=r3 hp
   refine aB (aC ⟨fun _=>⟨_,(hp.less hle14)⟩,fun _=>⟨_,((hp.get 1 rfl).less hle14)⟩,fun _=>⟨_,((hp.get 2 rfl).less hle14)⟩,trivial⟩ fun hS=>?_)
   refine fQ [3,4] (by kernel_rfl) rfl ?_
   refine List.forall_mem_cons.2 ⟨?_,List.forall_mem_cons.2 ⟨?_,fun _ h=>absurd h (by simp)⟩⟩
   ·
    refine dQ rfl ?_
    refine Cl hE rfl rfl jA (bD p1 aP (aH.mono bU hle14) hp x3 ex3) ⟨rfl,trivial⟩ fun v a w hR hE=>?_
    obtain⟨ρ15,N7,N8,zJ,hle15,rfl,uN,uO,rY,hp⟩:=hR
    have hp:=r3 hp
    refine aB (aC ⟨fun _=>⟨_,((hp.less hle15).less hle14)⟩,fun _=>⟨_,(((hp.get 1 rfl).less hle15).less hle14)⟩,fun _=>⟨_,(((hp.get 2 rfl).less hle15).less hle14)⟩,trivial⟩ fun hS=>?_)
    refine W1 4 (by kernel_rfl) rfl ?_
    refine dH (wk0 rfl) rfl rfl hE hp rfl [N0,N0,N0] (fun w=>by simp[Instr.alloc,go_sem]<;>rfl) ?_
    intro a w b20 hE hp
    have hp:=r4 hp
    refine aB (aC ⟨fun _=>⟨_,((hp.less hle15).less hle14)⟩,fun _=>⟨_,(((hp.get 2 rfl).less hle15).less hle14)⟩,fun _=>⟨_,(((hp.get 3 rfl).less hle15).less hle14)⟩,trivial⟩ fun hS=>?_)
    refine W1 6 (by kernel_rfl) rfl ?_
    refine aU (wk0 rfl) rfl hE hp rfl rfl rfl 0 rfl dA.size_ rfl (aN ⟨(aH.one (aH.mono oK hle15)),(aH.one (aH.mono oL hle15)),(aH.one (aH.mono mG hle15)),trivial⟩) [wG,wH,uY] rfl ?_
    intro w hp
    have hp:=r4 hp
    refine aB (aC ⟨fun _=>⟨_,((hp.less hle15).less hle14)⟩,fun _=>⟨_,(((hp.get 2 rfl).less hle15).less hle14)⟩,fun _=>⟨_,(((hp.get 3 rfl).less hle15).less hle14)⟩,trivial⟩ fun hS=>?_)
    refine W1 7 (by kernel_rfl) rfl ?_
    refine aU (wk0 rfl) rfl hE hp rfl rfl rfl 1 rfl dA.size_ rfl (aN ⟨(aH.one uN),(aH.one uO),(aH.one rY),trivial⟩) [N7,N8,zJ] rfl ?_
    intro w hp
    have hp:=r4 hp
    refine aB (aC ⟨fun _=>⟨_,((hp.less hle15).less hle14)⟩,fun _=>⟨_,(((hp.get 2 rfl).less hle15).less hle14)⟩,fun _=>⟨_,(((hp.get 3 rfl).less hle15).less hle14)⟩,trivial⟩ fun hS=>?_)
    refine Ts [8] hE hS rfl rfl (by kernel_rfl) fun a hE hS=>?_
    exact bP (by kernel_rfl) ⟨ρ15,_,_,_,_,_,_,_,_,(PH.le.tr hle14 hle15),uN,uO,rY,(aH.mono oK hle15),(aH.mono oL hle15),(aH.mono mG hle15),hE.cut ⟨rfl,rfl,rfl,rfl,trivial⟩,((((hp.get 3 rfl).get 3 rfl).get 2 rfl).get 3 rfl)⟩
   refine dQ rfl ?_
   refine dH (wk0 rfl) rfl rfl hE hp rfl [N0,N0,N0] (fun w=>by simp[Instr.alloc,go_sem]<;>rfl) ?_
   intro a w b21 hE hp
   have hp:=r4 hp
   refine aB (aC ⟨fun _=>⟨_,(hp.less hle14)⟩,fun _=>⟨_,((hp.get 2 rfl).less hle14)⟩,fun _=>⟨_,((hp.get 3 rfl).less hle14)⟩,trivial⟩ fun hS=>?_)
   refine W1 3 (by kernel_rfl) rfl ?_
   refine Cl hE rfl rfl jA (bD p1 aP (aH.mono bU hle14) hp x3 ex3) ⟨rfl,trivial⟩ fun v a w hR hE=>?_
   obtain⟨ρ16,N9,O0,zK,hle16,rfl,uP,uQ,rZ,hp⟩:=hR
   have hp:=r4 hp
   refine aB (aC ⟨fun _=>⟨_,((hp.less hle16).less hle14)⟩,fun _=>⟨_,(((hp.get 2 rfl).less hle16).less hle14)⟩,fun _=>⟨_,(((hp.get 3 rfl).less hle16).less hle14)⟩,trivial⟩ fun hS=>?_)
   refine W1 6 (by kernel_rfl) rfl ?_
   refine aU (wk0 rfl) rfl hE hp rfl rfl rfl 0 rfl dA.size_ rfl (aN ⟨(aH.one (aH.mono oK hle16)),(aH.one (aH.mono oL hle16)),(aH.one (aH.mono mG hle16)),trivial⟩) [wG,wH,uY] rfl ?_
   intro w hp
   have hp:=r4 hp
   refine aB (aC ⟨fun _=>⟨_,((hp.less hle16).less hle14)⟩,fun _=>⟨_,(((hp.get 2 rfl).less hle16).less hle14)⟩,fun _=>⟨_,(((hp.get 3 rfl).less hle16).less hle14)⟩,trivial⟩ fun hS=>?_)
   refine W1 7 (by kernel_rfl) rfl ?_
   refine aU (wk0 rfl) rfl hE hp rfl rfl rfl 1 rfl dA.size_ rfl (aN ⟨(aH.one uP),(aH.one uQ),(aH.one rZ),trivial⟩) [N9,O0,zK] rfl ?_
   intro w hp
   have hp:=r4 hp
   refine aB (aC ⟨fun _=>⟨_,((hp.less hle16).less hle14)⟩,fun _=>⟨_,(((hp.get 2 rfl).less hle16).less hle14)⟩,fun _=>⟨_,(((hp.get 3 rfl).less hle16).less hle14)⟩,trivial⟩ fun hS=>?_)
   refine Ts [8] hE hS rfl rfl (by kernel_rfl) fun a hE hS=>?_
   exact bP (by kernel_rfl) ⟨ρ16,_,_,_,_,_,_,_,_,(PH.le.tr hle14 hle16),uP,uQ,rZ,(aH.mono oK hle16),(aH.mono oL hle16),(aH.mono mG hle16),hE.cut ⟨rfl,rfl,rfl,rfl,trivial⟩,((((hp.get 3 rfl).get 3 rfl).get 2 rfl).get 3 rfl)⟩
  refine dQ rfl ?_
  refine dH (wk0 rfl) rfl rfl hE hp rfl [N0,N0,N0] (fun w=>by simp[Instr.alloc,go_sem]<;>rfl) ?_
  intro a w b22 hE hp
  have hp:=r4 hp
  refine aB (aC ⟨gp0 hp,gp 2 hp rfl,gp 3 hp rfl,trivial⟩ fun hS=>?_)
  refine W1 1 (by kernel_rfl) rfl ?_
  refine Cl hE rfl rfl jA (bD p0 aI aZ hp x2 ex2) ⟨rfl,trivial⟩ fun v a w hR hE=>?_
  obtain⟨ρ17,O1,O3,zL,hle17,rfl,uS,uT,sD,hp⟩:=hR
  have hp:=r4 hp
  refine aB (aC ⟨fun _=>⟨_,(hp.less hle17)⟩,fun _=>⟨_,((hp.get 2 rfl).less hle17)⟩,fun _=>⟨_,((hp.get 3 rfl).less hle17)⟩,trivial⟩ fun hS=>?_)
  refine W1 3 (by kernel_rfl) rfl ?_
  refine Cl hE rfl rfl jA (bD p1 aP (aH.mono bU hle17) hp x3 ex3) ⟨rfl,trivial⟩ fun v a w hR hE=>?_
  obtain⟨ρ18,aE8,aE9,aC4,hle18,rfl,H8,H9,yT,hp⟩:=hR
  have hp:=r4 hp
  refine aB (aC ⟨fun _=>⟨_,((hp.less hle18).less hle17)⟩,fun _=>⟨_,(((hp.get 2 rfl).less hle18).less hle17)⟩,fun _=>⟨_,(((hp.get 3 rfl).less hle18).less hle17)⟩,trivial⟩ fun hS=>?_)
  refine W1 6 (by kernel_rfl) rfl ?_
  refine aU (wk0 rfl) rfl hE hp rfl rfl rfl 0 rfl dA.size_ rfl (aN ⟨(aH.one (aH.mono uS hle18)),(aH.one (aH.mono uT hle18)),(aH.one (aH.mono sD hle18)),trivial⟩) [O1,O3,zL] rfl ?_
  intro w hp
  have hp:=r4 hp
  refine aB (aC ⟨fun _=>⟨_,((hp.less hle18).less hle17)⟩,fun _=>⟨_,(((hp.get 2 rfl).less hle18).less hle17)⟩,fun _=>⟨_,(((hp.get 3 rfl).less hle18).less hle17)⟩,trivial⟩ fun hS=>?_)
  refine W1 7 (by kernel_rfl) rfl ?_
  refine aU (wk0 rfl) rfl hE hp rfl rfl rfl 1 rfl dA.size_ rfl (aN ⟨(aH.one H8),(aH.one H9),(aH.one yT),trivial⟩) [aE8,aE9,aC4] rfl ?_
  intro w hp
  have hp:=r4 hp
  refine aB (aC ⟨fun _=>⟨_,((hp.less hle18).less hle17)⟩,fun _=>⟨_,(((hp.get 2 rfl).less hle18).less hle17)⟩,fun _=>⟨_,(((hp.get 3 rfl).less hle18).less hle17)⟩,trivial⟩ fun hS=>?_)
  refine Ts [8] hE hS rfl rfl (by kernel_rfl) fun a hE hS=>?_
  exact bP (by kernel_rfl) ⟨ρ18,_,_,_,_,_,_,_,_,(PH.le.tr hle17 hle18),H8,H9,yT,(aH.mono uS hle18),(aH.mono uT hle18),(aH.mono sD hle18),hE.cut ⟨rfl,rfl,rfl,rfl,trivial⟩,((((hp.get 3 rfl).get 3 rfl).get 2 rfl).get 3 rfl)⟩
 rintro a w ⟨ρy1,y4,y3,yv1,yv2,yv3,yv4,yv5,yv6,hley1,yh1,yh2,yh3,yh4,yh5,yh6,hE,hp⟩
 refine aF (aF ?_)
 refine aA (S hE 1 rfl fun a hE=>?_)
 refine V hE hp rfl (dB rfl hE rfl (aH.len (aH.mono hp2 hley1) eP)) fun a hE=>S hE 1 rfl fun a hE=>aB ?_
 obtain⟨b23,hc2,hm⟩:=bnd hm
 refine dJ (fun a w=>Env 56 [(10,(Iv b23))] a∧Hp Z ρy1 (Pt y4 (.cells #[yv1,yv2,yv3] 75 (0,0))::Pt y3 (.cells #[yv4,yv5,yv6] 75 (0,0))::Pt b2 (.cells #[(Iv p1.kind),(.string p1.text),(Iv p1.at_),(Iv p1.fin),aP] 24 (0,0))::Pt b1 (.cells #[(Iv p0.kind),(.string p0.text),(Iv p0.at_),(Iv p0.fin),aI] 24 (0,0))::L) w) ?_ ?_
 ·refine dY hc2 (fun s a w=>Env 56 [(8,(Pv y3 0)),(9,(Pv y4 0)),(10,(Iv s.1)),(22,vp2),(23,(Iv (p2.length:Int))),(24,(Iv s.2))] a∧Hp Z ρy1 (Pt y4 (.cells #[yv1,yv2,yv3] 75 (0,0))::Pt y3 (.cells #[yv4,yv5,yv6] 75 (0,0))::Pt b2 (.cells #[(Iv p1.kind),(.string p1.text),(Iv p1.at_),(Iv p1.fin),aP] 24 (0,0))::Pt b1 (.cells #[(Iv p0.kind),(.string p0.text),(Iv p0.at_),(Iv p0.fin),aI] 24 (0,0))::L) w) ?_ ?_
  ·exact⟨hE.cut ⟨rfl,rfl,rfl,rfl,rfl,rfl,trivial⟩,hp⟩
  rintro⟨aQ,aT⟩ st a w ⟨hE,hp⟩ hl1
  dsimp only at hE hp hl1
  unfold V9 at hl1
  refine aF (aA ?_)
  refine S hE 1 rfl fun a hE=>aB (aF ?_)
  refine dI hE rfl (fun hc3=>?_) (fun hc3=>?_)
  ·replace hl1:=(it hc3).symm.trans hl1
   refine bC (aF ?_)
   refine dN (aF ?_)
   refine aA ?_
   obtain⟨x4,ex4,hl1⟩:=bnd hl1
   obtain⟨b24,b24o,b24c,b24r,b24k,b24f⟩:=aH.at (aH.mono hp2 hley1) eP ex4
   obtain rfl:b24c=Enc.enc x4:=b24k
   have b24f:AtP ρy1 b24 b24o [(Iv x4.a),(Iv x4.b)]:=b24f
   refine V hE hp rfl (aO rfl hE rfl rfl b24r) fun a hE=>V hE hp rfl (aJ rfl hE rfl (fun w hw=>aW (cs:=[(Iv x4.a),(Iv x4.b)]) fB (fun j u hj=>cell_of hw.le (b24f j u hj)))) fun a hE=>?_
   refine dH (wk0 rfl) rfl rfl hE hp rfl [(Iv 0),(Iv 0)] (fun w=>by simp[Instr.alloc,go_sem]<;>rfl) ?_
   intro a w b25 hE hp
   have hp:=r5 hp
   refine aU (wk0 rfl) rfl hE hp rfl rfl rfl 0 rfl fB.size_ rfl (aN ⟨rfl,rfl,trivial⟩) [(Iv x4.a),(Iv x4.b)] rfl ?_
   intro w hp
   have hp:=r5 hp
   refine aB (aF ?_)
   refine kZ (by kernel_rfl) (by kernel_rfl) hp ?_
   refine Vq hE rfl (xf hE fU rfl rfl) fun a hE=>Vq hE rfl (xl hE aX 0 rfl rfl rfl rfl) fun a hE=>Sq hE 2 rfl fun a hE=>?_
   refine q_cut [_,_,_,_] (fun a=>Env 56 [(35,(.bool ((decide (x4.a<0))||(decide (x4.b<0))))),(8,(Pv y3 0)),(9,(Pv y4 0)),(10,(Iv aQ)),(12,(Pv b25 0)),(22,vp2),(23,(Iv (p2.length:Int))),(24,(Iv aT))] a) ?_ ?_
   ·rcases Bool.eq_false_or_eq_true (decide (x4.a<0)) with hc4|hc4
    ·
     refine Gkq hE hc4 rfl fun a hE=>Gkq hE hc4 rfl fun a hE=>Gkq hE hc4 rfl fun a hE=>?_
     refine Vq hE rfl (v:=(.bool true)) (jZ rfl hE rfl hc4 rfl) fun a hE=>?_
     have hE:=hE.eqv (v':=(.bool ((decide (x4.a<0))||(decide (x4.b<0))))) (by rw[hc4];rfl)
     exact lU (hE.cut ⟨rfl,rfl,rfl,rfl,rfl,rfl,rfl,rfl,trivial⟩)
    refine Gq hE hc4 rfl (xf hE fD rfl rfl) fun a hE=>Gq hE hc4 rfl (xl hE aX 0 rfl rfl rfl rfl) fun a hE=>Gq hE hc4 rfl (ex_lss rfl hE rfl rfl) fun a hE=>Vq hE rfl (v:=(.bool (decide (x4.b<0)))) (iQ rfl hE rfl hc4 rfl) fun a hE=>?_
    have hE:=hE.eqv (v':=(.bool ((decide (x4.a<0))||(decide (x4.b<0))))) (by rw[hc4];rfl)
    exact lU (hE.cut ⟨rfl,rfl,rfl,rfl,rfl,rfl,rfl,rfl,trivial⟩)
   intro a hE
   refine Sq hE 1 rfl fun a hE=>?_
   obtain⟨m1,hg1,hl1⟩:=bnd hl1
   refine q_cut [_,_,_,_,_,_,_,_,_,_,_,_,_,_,_] (fun a=>Env 56 [(51,(.bool m1)),(8,(Pv y3 0)),(9,(Pv y4 0)),(10,(Iv aQ)),(22,vp2),(23,(Iv (p2.length:Int))),(24,(Iv aT))] a) ?_ ?_
   ·rcases Bool.eq_false_or_eq_true ((decide (x4.a<0))||(decide (x4.b<0))) with hc5|hc5
    ·
     replace hg1:=(it hc5).symm.trans hg1
     refine Gkq hE hc5 rfl fun a hE=>Gkq hE hc5 rfl fun a hE=>Gkq hE hc5 rfl fun a hE=>Gkq hE hc5 rfl fun a hE=>Gkq hE hc5 rfl fun a hE=>Gkq hE hc5 rfl fun a hE=>Gkq hE hc5 rfl fun a hE=>Gkq hE hc5 rfl fun a hE=>Gkq hE hc5 rfl fun a hE=>Gkq hE hc5 rfl fun a hE=>Gkq hE hc5 rfl fun a hE=>Gkq hE hc5 rfl fun a hE=>Gkq hE hc5 rfl fun a hE=>Gkq hE hc5 rfl fun a hE=>?_
     refine Vq hE rfl (v:=(.bool true)) (jZ rfl hE rfl hc5 rfl) fun a hE=>?_
     obtain rfl:=oj hg1
     exact lU (hE.cut ⟨rfl,rfl,rfl,rfl,rfl,rfl,rfl,trivial⟩)
    replace hg1:=(ie hc5).symm.trans hg1
    refine Gq hE hc5 rfl (xf hE jR rfl rfl) fun a hE=>Gq hE hc5 rfl (xl hE iE 2 rfl rfl rfl rfl) fun a hE=>Gq hE hc5 rfl (xf hE fU rfl rfl) fun a hE=>Gq hE hc5 rfl (xl hE aX 0 rfl rfl rfl rfl) fun a hE=>?_
    obtain⟨x5,ex5,hg1⟩:=bnd hg1
    obtain⟨b26,b26o,b26c,b26r,b26k,b26f⟩:=aH.at yh4 gI ex5
    obtain⟨aD5,rfl,hb26_kids⟩:=NodeAt.opens b26k
    have b26f:AtP ρy1 b26 b26o [(Iv x5.kind),(.string x5.text),(Iv x5.at_),(Iv x5.fin),aD5]:=b26f
    refine Gq hE hc5 rfl (aO rfl hE rfl rfl b26r) fun a hE=>Gq hE hc5 rfl (aJ rfl hE rfl (fun w hw=>aW (cs:=[(Iv x5.kind),(.string x5.text),(Iv x5.at_),(Iv x5.fin),aD5]) bV (fun j u hj=>cell_of hw.le (b26f j u hj)))) fun a hE=>Gq hE hc5 rfl (xf hE jR rfl rfl) fun a hE=>Gq hE hc5 rfl (xl hE iE 1 rfl rfl rfl rfl) fun a hE=>Gq hE hc5 rfl (xf hE fD rfl rfl) fun a hE=>Gq hE hc5 rfl (xl hE aX 0 rfl rfl rfl rfl) fun a hE=>?_
    obtain⟨x6,ex6,hg1⟩:=bnd hg1
    obtain⟨b27,b27o,b27c,b27r,b27k,b27f⟩:=aH.at yh1 gI ex6
    obtain⟨aD6,rfl,hb27_kids⟩:=NodeAt.opens b27k
    have b27f:AtP ρy1 b27 b27o [(Iv x6.kind),(.string x6.text),(Iv x6.at_),(Iv x6.fin),aD6]:=b27f
    refine Gq hE hc5 rfl (aO rfl hE rfl rfl b27r) fun a hE=>Gq hE hc5 rfl (aJ rfl hE rfl (fun w hw=>aW (cs:=[(Iv x6.kind),(.string x6.text),(Iv x6.at_),(Iv x6.fin),aD6]) bV (fun j u hj=>cell_of hw.le (b27f j u hj)))) fun a hE=>?_
    obtain⟨x7,ex7,hg1⟩:=bnd hg1
    refine U4 (wk1 hE rfl rfl rfl hc5) rfl rfl hE rfl [(.agg #[(Iv x5.kind),(.string x5.text),(Iv x5.at_),(Iv x5.fin),aD5]),(.agg #[(Iv x6.kind),(.string x6.text),(Iv x6.at_),(Iv x6.fin),aD6])] ⟨rfl,rfl,trivial⟩ ent41 (v:=(.bool x7)) (fun w hw=>Calls.mono (xG x5 aD5 hb26_kids x6 aD6 hb27_kids hw x7 ex7) fun e w' ⟨v,he,hv,hh⟩=>⟨by rw[he,hv],hh⟩) ?_
    intro a hE
    refine Gq hE hc5 rfl (ex_not rfl hE rfl) fun a hE=>Vq hE rfl (v:=(.bool (!x7))) (iQ rfl hE rfl hc5 rfl) fun a hE=>?_
    obtain rfl:=oj hg1
    exact lU (hE.cut ⟨rfl,rfl,rfl,rfl,rfl,rfl,rfl,trivial⟩)
   intro a hE
   refine lU fun w hp=>?_
   have hp:=r5 hp
   refine dI hE rfl (fun hc6=>?_) (fun hc6=>?_)
   ·replace hl1:=(it hc6).symm.trans hl1
    refine aA (S hE 1 rfl fun a hE=>?_)
    obtain⟨x8,ex8,hl1⟩:=bnd hl1
    refine V hE hp rfl (bF rfl hE rfl rfl (aK ex8)) fun a hE=>S hE 1 rfl fun a hE=>aB (aA ?_)
    obtain⟨x9,ex9,hl1⟩:=bnd hl1
    refine V hE hp rfl (bF rfl hE rfl rfl (aK ex9)) fun a hE=>S hE 1 rfl fun a hE=>aB ?_
    exact⟨_,(oj hl1).symm,hE.cut ⟨rfl,rfl,rfl,rfl,rfl,rfl,trivial⟩,(hp.drop)⟩
   replace hl1:=(ie hc6).symm.trans hl1
   refine bC (aA ?_)
   obtain⟨x10,ex10,hl1⟩:=bnd hl1
   refine V hE hp rfl (bF rfl hE rfl rfl (aK ex10)) fun a hE=>S hE 1 rfl fun a hE=>aB ?_
   exact⟨_,(oj hl1).symm,hE.cut ⟨rfl,rfl,rfl,rfl,rfl,rfl,trivial⟩,(hp.drop)⟩
  replace hl1:=(ie hc3).symm.trans hl1
  refine dU ?_
  refine⟨_,(oj hl1).symm,fun hbb=>?_⟩
  subst hbb
  exact⟨hE.cut ⟨rfl,trivial⟩,hp⟩
 rintro a w ⟨hE,hp⟩
 refine aF (aA ?_)
 refine S hE 3 rfl fun a hE=>aB (dD ?_)
 obtain rfl:=oj hm
 exact yG hE rfl rfl rfl ⟨_,rfl,rfl,((((((((hp.get 3 rfl).drop).get 2 rfl).drop).get 1 rfl).drop).drop).less hley1)⟩
end Go.Proofs.YtopnldfjcciieaaGreat

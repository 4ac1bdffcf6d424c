/- The code goes as its model: assessor/assessorlaw38.few, assessor/assessorlaw38.name, assessor/assessorlaw38.binary, assessor/assessorlaw38.node, assessor/assess -/
import Derived.Test.YtopnldfjcciieaaGreatKUnT
import Derived.Test.YtopnldfjcciieaaGreatKUn3
import Derived.Test.YtopnldfjcciieaaGreatKUn5
import Derived.Test.YtopnldfjcciieaaGreatKUn4
import Derived.RangeFuncIn
import Derived.RangeFuncLeaves
import Derived.RangeFuncRecord
import Derived.RangeFuncSeq
import Derived.Test.YtopnldfjcciieaaGreatProg
import Derived.Test.YtopnldfjcciieaaGreatKUn2
set_option linter.unusedVariables false
set_option linter.unusedSimpArgs false
set_option maxRecDepth 100000
set_option maxHeartbeats 4000000
namespace Go.Proofs.YtopnldfjcciieaaGreat
open Go.RowKit
theorem nN {Z:World} {ρ:PH} {L:List bI} {w:World} (p0:ByteArray) (hp:Hp Z ρ (L) w) (r:Node) (hm:jL p0=some r):
  Calls Tryz.prog 36 #[(.string p0)] w (Ret fun v w'=>∃(ρ':PH) (kW:Value),ρ.le ρ'∧v=(.agg #[(Iv r.kind),(.string r.text),(Iv r.at_),(Iv r.fin),kW])∧aH ρ' kW r.kids∧Hp Z ρ' (L) w'):=by
 refine enter (N:=5) Tryz.func36 rfl rfl [(0,(.string p0))] rfl (aY ⟨rfl,trivial⟩) fun a hE=>?_
 unfold jL at hm
 refine aF (aA ?_)
 refine dH (wk0 rfl) rfl rfl hE hp rfl [(Iv 0),(.string ByteArray.empty),(Iv 0),(Iv 0),N0] (fun w=>by simp[Instr.alloc,go_sem]<;>rfl) ?_
 intro a w b1 hE hp
 have hp:=r1 hp
 refine aB (aF ?_)
 refine aA (S hE 1 rfl fun a hE=>?_)
 refine V hE hp rfl (v:=(.agg #[(Iv 20),(.string p0),(Iv 0),(Iv 0),N0])) (lN rfl hE [(0,(Iv 20)),(1,(.string p0))] (by exact⟨⟨rfl,rfl⟩,⟨rfl,rfl⟩,trivial⟩) (fun w=>by simp[Instr.build,Instr.fill,Value.cells,go_sem])) fun a hE=>?_
 refine aU (wk0 rfl) rfl hE hp rfl rfl rfl 0 rfl bV.size_ rfl (aN ⟨rfl,rfl,rfl,rfl,rfl,trivial⟩) [(Iv 20),(.string p0),(Iv 0),(Iv 0),N0] rfl ?_
 intro w hp
 have hp:=r1 hp
 refine aB (dD ?_)
 obtain rfl:=oj hm
 exact retc1 hE rfl rfl (C9 (cs:=[(Iv 20),(.string p0),(Iv 0),(Iv 0),N0]) bV (Hp.cN 0 rfl 0 _ (aS rfl) _ hp)) ⟨_,rfl,_,_,(PH.le.rf _),rfl,(aH.nil _),(hp.drop)⟩
theorem sJ {Z:World} {ρ:PH} {L:List bI} {w:World} (p0:ByteArray) (p1:Node) (aP:Value) (bU:aH ρ aP p1.kids) (p2:Node) (zF:Value) (hp2_kids:aH ρ zF p2.kids) (hp:Hp Z ρ (L) w) (r:Node) (hm:lS p0 p1 p2=some r):
  Calls Tryz.prog 35 #[(.string p0),(.agg #[(Iv p1.kind),(.string p1.text),(Iv p1.at_),(Iv p1.fin),aP]),(.agg #[(Iv p2.kind),(.string p2.text),(Iv p2.at_),(Iv p2.fin),zF])] w (Ret fun v w'=>∃(ρ':PH) (kW:Value),ρ.le ρ'∧v=(.agg #[(Iv r.kind),(.string r.text),(Iv r.at_),(Iv r.fin),kW])∧aH ρ' kW r.kids∧Hp Z ρ' (L) w'):=by
 refine enter (N:=12) Tryz.func35 rfl rfl [(0,(.string p0)),(1,(.agg #[(Iv p1.kind),(.string p1.text),(Iv p1.at_),(Iv p1.fin),aP])),(2,(.agg #[(Iv p2.kind),(.string p2.text),(Iv p2.at_),(Iv p2.fin),zF]))] rfl (aY ⟨rfl,rfl,rfl,trivial⟩) fun a hE=>?_
 unfold lS at hm
 refine aF (aA ?_)
 refine iV (wk0 rfl) rfl rfl hE hp rfl (v:=(.agg #[(Iv p1.kind),(.string p1.text),(Iv p1.at_),(Iv p1.fin),aP])) rfl ?_
 intro a w b1 hE hp
 have hp:=r1 hp
 refine iV (wk0 rfl) rfl rfl hE hp rfl (v:=(.agg #[(Iv p2.kind),(.string p2.text),(Iv p2.at_),(Iv p2.fin),zF])) rfl ?_
 intro a w b2 hE hp
 have hp:=r2 hp
 refine dH (wk0 rfl) rfl rfl hE hp rfl [(Iv 0),(.string ByteArray.empty),(Iv 0),(Iv 0),N0] (fun w=>by simp[Instr.alloc,go_sem]<;>rfl) ?_
 intro a w b3 hE hp
 have hp:=r3 hp
 refine aB (aF ?_)
 refine aA (S hE 1 rfl fun a hE=>?_)
 refine V hE hp rfl (aJ rfl hE rfl (fun w hw=>aW (cs:=[(Iv p1.kind),(.string p1.text),(Iv p1.at_),(Iv p1.fin),aP]) bV (Hp.cN 2 rfl 0 _ (aS rfl) w hw))) fun a hE=>V hE hp rfl (aJ rfl hE rfl (fun w hw=>aW (cs:=[(Iv p2.kind),(.string p2.text),(Iv p2.at_),(Iv p2.fin),zF]) bV (Hp.cN 1 rfl 0 _ (aS rfl) w hw))) fun a hE=>?_
 refine fE (wk0 rfl) rfl rfl hE hp rfl [(0,(.agg #[(Iv p1.kind),(.string p1.text),(Iv p1.at_),(Iv p1.fin),aP])),(1,(.agg #[(Iv p2.kind),(.string p2.text),(Iv p2.at_),(Iv p2.fin),zF]))] ⟨⟨rfl,rfl⟩,⟨rfl,rfl⟩,trivial⟩ [(Iv p1.kind),(.string p1.text),(Iv p1.at_),(Iv p1.fin),aP,(Iv p2.kind),(.string p2.text),(Iv p2.at_),(Iv p2.fin),zF] 24 (fun w=>by have hc0:=aH.cells bU;simp only[Value.cells] at hc0;have hc1:=aH.cells hp2_kids;simp only[Value.cells] at hc1;simp[Instr.buildSlice,Instr.fill,Value.cells,hc0,hc1,go_sem]) ?_
 intro a w b4 hE hp
 have hp:=r4 hp
 obtain⟨k1,k1a,k1d,hp⟩:=(hp.get 0 rfl).lend
 have f1:aH (ρ.un k1) (.slice (some ⟨b4,0,none⟩) 2 2) ([p1,p2]:List Node):=aH.of_all (l:=(([p1,p2]:List Node))) k1d k1a ⟨_,_,rfl,(show NodeAt (ρ.un k1) p1 [(Iv p1.kind),(.string p1.text),(Iv p1.at_),(Iv p1.fin),aP] from NodeAt.shutv ((aH.mono bU (PH.le_un _ k1)))),⟨_,_,rfl,(show NodeAt (ρ.un k1) p2 [(Iv p2.kind),(.string p2.text),(Iv p2.at_),(Iv p2.fin),zF] from NodeAt.shutv ((aH.mono hp2_kids (PH.le_un _ k1)))),rfl⟩⟩
 have hp:=r3 hp
 refine V hE hp rfl (v:=(.agg #[(Iv 29),(.string p0),(Iv 0),(Iv 0),(.slice (some ⟨b4,0,none⟩) 2 2)])) (lN rfl hE [(0,(Iv 29)),(1,(.string p0)),(4,(.slice (some ⟨b4,0,none⟩) 2 2))] (by exact⟨⟨rfl,rfl⟩,⟨rfl,rfl⟩,⟨rfl,rfl⟩,trivial⟩) (fun w=>by have hc0:=aH.cells f1;simp only[Value.cells] at hc0;simp[Instr.build,Instr.fill,Value.cells,hc0,go_sem])) fun a hE=>?_
 refine aU (wk0 rfl) rfl hE hp rfl rfl rfl 0 rfl bV.size_ rfl (aN ⟨rfl,rfl,rfl,rfl,(aH.one f1),trivial⟩) [(Iv 29),(.string p0),(Iv 0),(Iv 0),(.slice (some ⟨b4,0,none⟩) 2 2)] rfl ?_
 intro w hp
 have hp:=r3 hp
 refine aB (dD ?_)
 obtain rfl:=oj hm
 exact retc1 hE rfl rfl (C9 (cs:=[(Iv 29),(.string p0),(Iv 0),(Iv 0),(.slice (some ⟨b4,0,none⟩) 2 2)]) bV (Hp.cN 0 rfl 0 _ (aS rfl) _ hp)) ⟨_,rfl,_,_,(PH.le_un _ k1),rfl,f1,(((((hp.get 2 rfl).drop).get 1 rfl).drop).drop)⟩
theorem O9 (self:(List Node)→Int→Option Node) (hself:∀{Z:World} {ρ:PH} {L:List bI} {w:World} (p0:(List Node)) (vp0:Value) (hp0:aH ρ vp0 p0) (p1:Int) (hp:Hp Z ρ (L) w) (r:Node) (hm:self p0 p1=some r),Calls Tryz.prog 34 #[vp0,(Iv p1)] w (Ret fun v w'=>∃(ρ':PH) (kW:Value),ρ.le ρ'∧v=(.agg #[(Iv r.kind),(.string r.text),(Iv r.at_),(Iv r.fin),kW])∧aH ρ' kW r.kids∧Hp Z ρ' (L) w')) {Z:World} {ρ:PH} {L:List bI} {w:World} (p0:(List Node)) (vp0:Value) (hp0:aH ρ vp0 p0) (p1:Int) (hp:Hp Z ρ (L) w) (r:Node) (hm:mX self p0 p1=some r):
  Calls Tryz.prog 34 #[vp0,(Iv p1)] w (Ret fun v w'=>∃(ρ':PH) (kW:Value),ρ.le ρ'∧v=(.agg #[(Iv r.kind),(.string r.text),(Iv r.at_),(Iv r.fin),kW])∧aH ρ' kW r.kids∧Hp Z ρ' (L) w'):=by
 refine enter (N:=32) Tryz.func34 rfl rfl [(0,vp0),(1,(Iv p1))] rfl (aY ⟨rfl,rfl,trivial⟩) fun a hE=>?_
 unfold mX at hm
 refine aF (aA ?_)
 refine dH (wk0 rfl) rfl rfl hE hp rfl [(Iv 0),(.string ByteArray.empty),(Iv 0),(Iv 0),N0] (fun w=>by simp[Instr.alloc,go_sem]<;>rfl) ?_
 intro a w b1 hE hp
 have hp:=r1 hp
 refine aB (aF ?_)
 refine aF (aA ?_)
 refine S hE 1 rfl fun a hE=>V hE hp rfl (dB rfl hE rfl (aH.len hp0 gI)) fun a hE=>S hE 1 rfl fun a hE=>aB ?_
 obtain⟨b2,hc1,hm⟩:=bnd hm
 refine dJ (fun a w=>∃s:Unit,b2= .brk s∧(Env 32 [(4,(Pv b1 0))] a∧Hp Z ρ (Pt b1 (.cells #[(Iv 0),(.string ByteArray.empty),(Iv 0),(Iv 0),N0] 24 (0,0))::L) w)) ?_ ?_
 ·refine dY hc1 (fun s a w=>Env 32 [(1,(Iv s.1)),(4,(Pv b1 0)),(8,vp0),(9,(Iv (p0.length:Int))),(10,(Iv s.2))] a∧Hp Z ρ (Pt b1 (.cells #[(Iv 0),(.string ByteArray.empty),(Iv 0),(Iv 0),N0] 24 (0,0))::L) w) ?_ ?_
  ·exact⟨hE.cut ⟨rfl,rfl,rfl,rfl,rfl,trivial⟩,hp⟩
  rintro⟨aQ,aT⟩ st a w ⟨hE,hp⟩ hl1
  dsimp only at hE hp hl1
  unfold kQ at hl1
  refine aF (aA ?_)
  refine S hE 1 rfl fun a hE=>aB (aF ?_)
  refine dI hE rfl (fun hc2=>?_) (fun hc2=>?_)
  ·replace hl1:=(it hc2).symm.trans hl1
   refine bC (aF ?_)
   refine dN (aF ?_)
   refine aA ?_
   obtain⟨x1,ex1,hl1⟩:=bnd hl1
   obtain⟨b3,b3o,b3c,b3r,b3k,b3f⟩:=aH.at hp0 gI ex1
   obtain⟨fA,rfl,nC⟩:=NodeAt.opens b3k
   have b3f:AtP ρ b3 b3o [(Iv x1.kind),(.string x1.text),(Iv x1.at_),(Iv x1.fin),fA]:=b3f
   refine V hE hp rfl (aO rfl hE rfl rfl b3r) fun a hE=>V hE hp rfl (aJ rfl hE rfl (fun w hw=>aW (cs:=[(Iv x1.kind),(.string x1.text),(Iv x1.at_),(Iv x1.fin),fA]) bV (fun j u hj=>cell_of hw.le (b3f j u hj)))) fun a hE=>?_
   refine dH (wk0 rfl) rfl rfl hE hp rfl [(Iv 0),(.string ByteArray.empty),(Iv 0),(Iv 0),N0] (fun w=>by simp[Instr.alloc,go_sem]<;>rfl) ?_
   intro a w b4 hE hp
   have hp:=r2 hp
   refine aU (wk0 rfl) rfl hE hp rfl rfl rfl 0 rfl bV.size_ rfl (aN ⟨rfl,rfl,rfl,rfl,(aH.one nC),trivial⟩) [(Iv x1.kind),(.string x1.text),(Iv x1.at_),(Iv x1.fin),fA] rfl ?_
   intro w hp
   have hp:=r2 hp
   refine aB (aF ?_)
   refine aA (V hE hp rfl (aJ rfl hE rfl (fun w hw=>aW (cs:=[(Iv x1.kind),(.string x1.text),(Iv x1.at_),(Iv x1.fin),fA]) bV (Hp.cN 0 rfl 0 _ (aS rfl) w hw))) fun a hE=>?_)
   obtain⟨x2,ex2,hl1⟩:=bnd hl1
   refine Cl hE rfl rfl ent23 (pR x1 fA nC hp x2 ex2) ⟨rfl,trivial⟩ fun v a w hR hE=>?_
   obtain⟨rfl,hp⟩:=hR
   have hp:=r2 hp
   refine S hE 1 rfl fun a hE=>aB (aF ?_)
   refine aF (aA ?_)
   refine S hE 2 rfl fun a hE=>aB ?_
   refine dI hE rfl (fun hc3=>?_) (fun hc3=>?_)
   ·replace hl1:=(it hc3).symm.trans hl1
    refine aF (aA ?_)
    refine V hE hp rfl (aJ rfl hE rfl (fun w hw=>aW (cs:=[(Iv x1.kind),(.string x1.text),(Iv x1.at_),(Iv x1.fin),fA]) bV (Hp.cN 0 rfl 0 _ (aS rfl) w hw))) fun a hE=>?_
    refine aU (wk0 rfl) rfl hE hp rfl rfl rfl 1 rfl bV.size_ rfl (aN ⟨rfl,rfl,rfl,rfl,(aH.one nC),trivial⟩) [(Iv x1.kind),(.string x1.text),(Iv x1.at_),(Iv x1.fin),fA] rfl ?_
    intro w hp
    have hp:=r2 hp
    refine aB (dD ?_)
    refine⟨_,(oj hl1).symm,fun hb=>?_⟩
    subst hb
    obtain rfl:=oj hm
    exact retc1 hE rfl rfl (C9 (cs:=[(Iv x1.kind),(.string x1.text),(Iv x1.at_),(Iv x1.fin),fA]) bV (Hp.cN 1 rfl 0 _ (aS rfl) _ hp)) ⟨_,rfl,_,_,(PH.le.rf _),rfl,nC,(((hp.get 1 rfl).drop).drop)⟩
   replace hl1:=(ie hc3).symm.trans hl1
   refine bC (aF ?_)
   refine aF (aA ?_)
   refine S hE 3 rfl fun a hE=>aB ?_
   refine dI hE rfl (fun hc4=>?_) (fun hc4=>?_)
   ·replace hl1:=(it hc4).symm.trans hl1
    refine aF (aA ?_)
    refine V hE hp rfl (xf hE qE rfl rfl) fun a hE=>V hE hp rfl (xl hE iE 0 rfl rfl rfl rfl) fun a hE=>S hE 1 rfl fun a hE=>?_
    obtain⟨x3,ex3,hl1⟩:=bnd hl1
    refine V hE hp rfl (dO rfl hE rfl rfl (aK ex3)) fun a hE=>?_
    obtain⟨x4,ex4,hl1⟩:=bnd hl1
    refine Cl hE rfl rfl ent34 (hself x1.kids fA nC x3 hp x4 ex4) ⟨rfl,rfl,trivial⟩ fun v a w hR hE=>?_
    obtain⟨ρ1,aG4,hle1,rfl,aF9,hp⟩:=hR
    have hp:=r2 hp
    refine aU (wk0 rfl) rfl hE hp rfl rfl rfl 1 rfl bV.size_ rfl (aN ⟨rfl,rfl,rfl,rfl,(aH.one aF9),trivial⟩) [(Iv x4.kind),(.string x4.text),(Iv x4.at_),(Iv x4.fin),aG4] rfl ?_
    intro w hp
    have hp:=r2 hp
    refine aB ?_
    have hE:=hE.cut (E':=[(4,(Pv b1 0))]) ⟨rfl,trivial⟩
    refine dD ?_
    refine⟨_,(oj hl1).symm,fun hb=>?_⟩
    subst hb
    obtain rfl:=oj hm
    exact retc1 hE rfl rfl (C9 (cs:=[(Iv x4.kind),(.string x4.text),(Iv x4.at_),(Iv x4.fin),aG4]) bV (Hp.cN 1 rfl 0 _ (aS rfl) _ hp)) ⟨_,rfl,_,_,hle1,rfl,aF9,(((hp.get 1 rfl).drop).drop)⟩
   replace hl1:=(ie hc4).symm.trans hl1
   refine bC (aA ?_)
   refine S hE 2 rfl fun a hE=>?_
   obtain⟨x5,ex5,hl1⟩:=bnd hl1
   refine V hE hp rfl (dO rfl hE rfl rfl (aK ex5)) fun a hE=>S hE 1 rfl fun a hE=>aB (aA ?_)
   obtain⟨x6,ex6,hl1⟩:=bnd hl1
   refine V hE hp rfl (bF rfl hE rfl rfl (aK ex6)) fun a hE=>S hE 1 rfl fun a hE=>aB ?_
   exact⟨_,(oj hl1).symm,hE.cut ⟨rfl,rfl,rfl,rfl,rfl,trivial⟩,(hp.drop)⟩
  replace hl1:=(ie hc2).symm.trans hl1
  refine dU ?_
  refine⟨_,(oj hl1).symm,fun hbb=>?_⟩
  exact⟨_,hbb.symm,hE.cut ⟨rfl,trivial⟩,hp⟩
 rintro a w ⟨b2s,rfl,hE,hp⟩
 dsimp only at hm
 refine aF (aA ?_)
 refine V hE hp rfl (v:=(.agg #[(Iv 0),(.string ByteArray.empty),(Iv 0),(Iv 0),N0])) (lN rfl hE [] (by exact trivial) (fun w=>by simp[Instr.build,Instr.fill,Value.cells,go_sem]<;>rfl)) fun a hE=>?_
 refine aU (wk0 rfl) rfl hE hp rfl rfl rfl 0 rfl bV.size_ rfl (aN ⟨rfl,rfl,rfl,rfl,rfl,trivial⟩) [(Iv 0),(.string ByteArray.empty),(Iv 0),(Iv 0),N0] rfl ?_
 intro w hp
 have hp:=r1 hp
 refine aB (dD ?_)
 obtain rfl:=oj hm
 exact retc1 hE rfl rfl (C9 (cs:=[(Iv 0),(.string ByteArray.empty),(Iv 0),(Iv 0),N0]) bV (Hp.cN 0 rfl 0 _ (aS rfl) _ hp)) ⟨_,rfl,_,_,(PH.le.rf _),rfl,(aH.nil _),(hp.drop)⟩
theorem Y6:∀(n:Nat),∀{Z:World} {ρ:PH} {L:List bI} {w:World} (p0:(List Node)) (vp0:Value) (hp0:aH ρ vp0 p0) (p1:Int) (hp:Hp Z ρ (L) w) (r:Node) (hm:iM n p0 p1=some r),Calls Tryz.prog 34 #[vp0,(Iv p1)] w (Ret fun v w'=>∃(ρ':PH) (kW:Value),ρ.le ρ'∧v=(.agg #[(Iv r.kind),(.string r.text),(Iv r.at_),(Iv r.fin),kW])∧aH ρ' kW r.kids∧Hp Z ρ' (L) w'):=by
 intro n
 induction n with
 |zero=>intro Z ρ L w p0 vp0 hp0 p1 hp r hm;cases hm
 |succ n ih=>intro Z ρ L w p0 vp0 hp0 p1 hp r hm;exact O9 (iM n) ih p0 vp0 hp0 p1 hp r hm
theorem yR {Z:World} {ρ:PH} {L:List bI} {w:World} (p0:(List Node)) (vp0:Value) (hp0:aH ρ vp0 p0) (p1:Int) (hp:Hp Z ρ (L) w) (r:Node) (hm:lI p0 p1=some r):
  Calls Tryz.prog 34 #[vp0,(Iv p1)] w (Ret fun v w'=>∃(ρ':PH) (kW:Value),ρ.le ρ'∧v=(.agg #[(Iv r.kind),(.string r.text),(Iv r.at_),(Iv r.fin),kW])∧aH ρ' kW r.kids∧Hp Z ρ' (L) w'):=Y6 _ p0 vp0 hp0 p1 hp r hm
theorem aB2 {Z:World} {ρ:PH} {L:List bI} {w:World} (p0:(List Node)) (vp0:Value) (hp0:aH ρ vp0 p0) (p1:Int) (hp:Hp Z ρ (L) w) (r:(List Node)) (hm:nS p0 p1=some r):
  Calls Tryz.prog 33 #[vp0,(Iv p1)] w (Ret fun v w'=>∃(ρ':PH) (vr1:Value),ρ.le ρ'∧v=vr1∧aH ρ' vr1 r∧Hp Z ρ' (L) w'):=by
 refine enter (N:=9) Tryz.func33 rfl rfl [(0,vp0),(1,(Iv p1))] rfl (aY ⟨rfl,rfl,trivial⟩) fun a hE=>?_
 unfold nS at hm
 refine aF (aA ?_)
 refine S hE 1 rfl fun a hE=>aB (aF ?_)
 refine aA (S hE 2 rfl fun a hE=>?_)
 obtain⟨x1,ex1,hm⟩:=bnd hm
 refine Cl hE rfl rfl ent34 (yR p0 vp0 hp0 p1 hp x1 ex1) ⟨rfl,rfl,trivial⟩ fun v a w hR hE=>?_
 obtain⟨ρ1,kW,hle1,rfl,hr1_kids,hp⟩:=hR
 have hp:=r0 hp
 refine V hE hp rfl (v:=kW) (ex_fieldV rfl hE rfl (fun w=>by simp[Instr.field,asAgg,go_sem])) fun a hE=>S hE 1 rfl fun a hE=>aB (dD ?_)
 obtain rfl:=oj hm
 exact gK hE rfl rfl ⟨_,rfl,_,_,hle1,rfl,hr1_kids,hp⟩
theorem qO {Z:World} {ρ:PH} {L:List bI} {w:World} (p0:(List Node)) (vp0:Value) (hp0:aH ρ vp0 p0) (p1:(List Node)) (vp1:Value) (hp1:aH ρ vp1 p1) (hp:Hp Z ρ (L) w) (r:Bool) (hm:gG p0 p1=some r):
  Calls Tryz.prog 25 #[vp0,vp1] w (Ret fun v w'=>v=(.bool r)∧Hp Z ρ (L) w'):=by
 refine enter (N:=27) Tryz.func25 rfl rfl [(0,vp0),(1,vp1)] rfl (aY ⟨rfl,rfl,trivial⟩) fun a hE=>?_
 unfold gG at hm
 refine aF (aA ?_)
 refine S hE 1 rfl fun a hE=>aB (aF ?_)
 refine aF (aA ?_)
 refine S hE 1 rfl fun a hE=>V hE hp rfl (dB rfl hE rfl (aH.len hp0 gI)) fun a hE=>S hE 1 rfl fun a hE=>V hE hp rfl (dB rfl hE rfl (aH.len hp1 gI)) fun a hE=>S hE 1 rfl fun a hE=>aB ?_
 refine dI hE rfl (fun hc1=>?_) (fun hc1=>?_)
 ·replace hm:=(it hc1).symm.trans hm
  refine aF (aA ?_)
  refine S hE 1 rfl fun a hE=>aB (dD ?_)
  obtain rfl:=oj hm
  exact gK hE rfl rfl ⟨_,rfl,rfl,hp⟩
 replace hm:=(ie hc1).symm.trans hm
 refine bC (aF ?_)
 refine aF (aA ?_)
 refine S hE 1 rfl fun a hE=>aB ?_
 obtain⟨b1,hc2,hm⟩:=bnd hm
 refine dJ (fun a w=>∃s:Unit,b1= .brk s∧(Env 27 [] a∧Hp Z ρ (L) w)) ?_ ?_
 ·refine dY hc2 (fun s a w=>Env 27 [(0,vp0),(1,vp1),(5,(Iv s))] a∧Hp Z ρ (L) w) ?_ ?_
  ·exact⟨hE.cut ⟨rfl,rfl,rfl,trivial⟩,hp⟩
  rintro aQ st a w ⟨hE,hp⟩ hl1
  unfold iT at hl1
  refine aF (aF ?_)
  refine aA (S hE 2 rfl fun a hE=>?_)
  refine V hE hp rfl (dB rfl hE rfl (aH.len hp0 gI)) fun a hE=>S hE 1 rfl fun a hE=>aB ?_
  refine dI hE rfl (fun hc3=>?_) (fun hc3=>?_)
  ·replace hl1:=(it hc3).symm.trans hl1
   refine bC (aF ?_)
   refine dN (aF ?_)
   refine kZ (by kernel_rfl) (by kernel_rfl) hp ?_
   refine Sq hE 2 rfl fun a hE=>?_
   obtain⟨x1,ex1,hl1⟩:=bnd hl1
   obtain⟨b2,b2o,b2c,b2r,b2k,b2f⟩:=aH.at hp0 gI ex1
   obtain⟨qM,rfl,aB8⟩:=NodeAt.opens b2k
   have b2f:AtP ρ b2 b2o [(Iv x1.kind),(.string x1.text),(Iv x1.at_),(Iv x1.fin),qM]:=b2f
   refine Vq hE rfl (aO rfl hE rfl rfl b2r) fun a hE=>Vq hE rfl (aJ rfl hE rfl (fun w hw=>aW (cs:=[(Iv x1.kind),(.string x1.text),(Iv x1.at_),(Iv x1.fin),qM]) bV (fun j u hj=>cell_of hw.le (b2f j u hj)))) fun a hE=>Sq hE 2 rfl fun a hE=>?_
   obtain⟨x2,ex2,hl1⟩:=bnd hl1
   obtain⟨b3,b3o,b3c,b3r,b3k,b3f⟩:=aH.at hp1 gI ex2
   obtain⟨fA,rfl,nC⟩:=NodeAt.opens b3k
   have b3f:AtP ρ b3 b3o [(Iv x2.kind),(.string x2.text),(Iv x2.at_),(Iv x2.fin),fA]:=b3f
   refine Vq hE rfl (aO rfl hE rfl rfl b3r) fun a hE=>Vq hE rfl (aJ rfl hE rfl (fun w hw=>aW (cs:=[(Iv x2.kind),(.string x2.text),(Iv x2.at_),(Iv x2.fin),fA]) bV (fun j u hj=>cell_of hw.le (b3f j u hj)))) fun a hE=>?_
   obtain⟨x3,ex3,hl1⟩:=bnd hl1
   refine U4 (wk0 rfl) rfl rfl hE rfl [(.agg #[(Iv x1.kind),(.string x1.text),(Iv x1.at_),(Iv x1.fin),qM]),(.agg #[(Iv x2.kind),(.string x2.text),(Iv x2.at_),(Iv x2.fin),fA])] ⟨rfl,rfl,trivial⟩ ent55 (v:=(.bool x3)) (fun w hw=>Calls.mono (aB3 x1 qM aB8 x2 fA nC hw x3 ex3) fun e w' ⟨v,he,hv,hh⟩=>⟨by rw[he,hv],hh⟩) ?_
   intro a hE
   refine Sq hE 1 rfl fun a hE=>?_
   refine lU fun w hp=>?_
   have hp:=r0 hp
   refine dI hE rfl (fun hc4=>?_) (fun hc4=>?_)
   ·replace hl1:=(it hc4).symm.trans hl1
    refine aF (aA ?_)
    refine S hE 1 rfl fun a hE=>aB (dD ?_)
    refine⟨_,(oj hl1).symm,fun hb=>?_⟩
    subst hb
    obtain rfl:=oj hm
    exact gK hE rfl rfl ⟨_,rfl,rfl,hp⟩
   replace hl1:=(ie hc4).symm.trans hl1
   refine bC (aA ?_)
   refine S hE 1 rfl fun a hE=>?_
   obtain⟨x4,ex4,hl1⟩:=bnd hl1
   refine V hE hp rfl (bF rfl hE rfl rfl (aK ex4)) fun a hE=>S hE 1 rfl fun a hE=>aB ?_
   exact⟨_,(oj hl1).symm,hE.cut ⟨rfl,rfl,rfl,trivial⟩,hp⟩
  replace hl1:=(ie hc3).symm.trans hl1
  refine dU ?_
  refine⟨_,(oj hl1).symm,fun hbb=>?_⟩
  exact⟨_,hbb.symm,hE.cut trivial,hp⟩
 rintro a w ⟨b1s,rfl,hE,hp⟩
 dsimp only at hm
 refine aF (aA ?_)
 refine S hE 1 rfl fun a hE=>aB (dD ?_)
 obtain rfl:=oj hm
 exact gK hE rfl rfl ⟨_,rfl,rfl,hp⟩
def Stars:List bI→bI
 | []=>fun k=>k=PH.emp
 |A::l=>fun k=>∃k1 k2,A k1∧Stars l k2∧k1.dj k2∧k=k1.un k2
theorem un_emp (ρ:PH):ρ.un PH.emp=ρ:=by funext b;unfold PH.un PH.emp;cases ρ b<;>rfl
theorem Sep.stars:∀(l:List bI) {L:List bI} {ρ h:PH},Sep ρ (Stars l::L) h↔Sep ρ (l++L) h
 | [],L,ρ,h=>⟨fun⟨k,e,_,s⟩=>by
   have e:k=PH.emp:=e
   rw[e,un_emp] at s;exact s,fun s=>⟨PH.emp,rfl,PH.dj_emp _,by rw[un_emp];exact s⟩⟩
 |A::l,L,ρ,h=>⟨fun⟨k,⟨k1,k2,a,b,d,e⟩,d',s⟩=>by
   subst e
   have d1:=PH.dj_un.1 d'.symm
   exact⟨k1,a,d1.1.symm,(Sep.stars l).1 ⟨k2,b,PH.dj_un.2 ⟨d1.2.symm,d⟩,by rw[PH.un_assoc];exact s⟩⟩,
  fun⟨k1,a,d1,s⟩=>by
   obtain⟨k2,b,d2,s⟩:=(Sep.stars l).2 s
   have d3:=PH.dj_un.1 d2
   exact⟨k1.un k2,⟨k1,k2,a,b,d3.2,rfl⟩,(PH.dj_un.2 ⟨d1.symm,d3.1.symm⟩).symm,by rw[←PH.un_assoc];exact s⟩⟩
section
variable {Z:World} {ρ:PH} {L:List bI} {w:World}
theorem Hp.stars {l:List bI} (h:Hp Z ρ (l++L) w):Hp Z ρ (Stars l::L) w:=h.to (Sep.stars l).2
theorem Hp.unstar {l:List bI} (h:Hp Z ρ (Stars l::L) w):Hp Z ρ (l++L) w:=h.to (Sep.stars l).1
theorem Hp.exI {α:Type} {F:α→bI} (x:α) (h:Hp Z ρ (F x::L) w):Hp Z ρ ((fun k=>∃x,F x k)::L) w:=h.imp fun _ hk=>⟨x,hk⟩
theorem Hp.exO {α:Type} {F:α→bI} (h:Hp Z ρ ((fun k=>∃x,F x k)::L) w):∃x,Hp Z ρ (F x::L) w:=by
 obtain⟨k,⟨x,hk⟩,d,hs⟩:=h.lend
 exact⟨x,Hp.back hk d hs⟩
end
def Step.more {σ ε:Type}:Step σ ε→Bool
 | .next _=>true
 | .done _=>false
def yieldM {α σ ε:Type} (f:α→σ→Option (Step σ ε)) (x:α):Step σ ε→Option (Step σ ε)
 | .next s=>f x s
 | .done _=>none
theorem yieldM_some {α σ ε:Type} {f:α→σ→Option (Step σ ε)} {x:α} {S t:Step σ ε} (h:yieldM f x S=some t):∃s,S= .next s∧f x s=some t:=by
 cases S with
 |next s=>exact⟨s,rfl,h⟩
 |done r=>cases h
abbrev YieldOk {α σ ε:Type} (P:Program) (Z:World) (ρ:PH) (l:Nat) (vs:α→List Value) (f:α→σ→Option (Step σ ε)) (Y:Step σ ε→bI):Prop:=
 ∀(x:α) (s:σ) (st:Step σ ε) (L:List bI) (W:World),f x s=some st→Hp Z ρ (Y (.next s)::L) W→YieldAt Fence.wide 0 P l (vs x).toArray W (Ret fun v W'=>v= .bool st.more∧Hp Z ρ (Y st::L) W')
theorem YieldOk.at {α σ ε:Type} {P:Program} {Z:World} {ρ:PH} {l:Nat} {vs:α→List Value} {f:α→σ→Option (Step σ ε)} {Y:Step σ ε→bI} (h:YieldOk P Z ρ l vs f Y) {x:α} {S t:Step σ ε} (hy:yieldM f x S=some t) {L:List bI} {W:World} (hp:Hp Z ρ (Y S::L) W):
  YieldAt Fence.wide 0 P l (vs x).toArray W (Ret fun v W'=>v= .bool t.more∧Hp Z ρ (Y t::L) W'):=by
 obtain⟨s,rfl,hf⟩:=yieldM_some hy
 exact h x s t L W hf hp
section
variable {R:Option Nat} {P:Program} {ops:Array Oper} {Q:Exit→Act→World→Prop} {rest:List Oper} {o:Oper} {a:Act} {w:World} {Df:List Deferred} {N:Nat} {E:Ent} {d:Nat} {cs:List Code}
theorem k_regionY {id:Nat} {l:List Oper} (h:wpListIn (fR R) 0 P l.toArray (fun e a w=>match e with| .normal=>wpK R P Q cs a w|e=>Q e a w) l a w):wpK R P Q (.region id l.toArray false::cs) a w:=by
 have e:(fun e a w=>match e with| .normal=>wpK R P Q cs a w|e=>Q e a w)=Exit.then (wpK R P Q cs) Q:=by
  funext e a w;cases e<;>rfl
 rw[e] at h
 exact wpIn_region_lit h
theorem y_val {C:World→Prop} (wk:Region.wanted o (yielded ops a.tmps)=true) (hd:o.dst=some d) (hN:Nat.blt d N=true) (hE:EnvD Df N E a) (hC:C w) {v:Value} (hx:Ex P C a o v) (K:∀a,EnvD Df N ((d,v)::E) a→wpListIn (fR R) 0 P ops Q rest a w):wpListIn (fR R) 0 P ops Q (o::rest) a w:=by
 unfold wpListIn
 rw[if_pos wk]
 refine⟨fun f _=>fR_fn R f,?_⟩
 rw[Oper.semAt_eq _ _ _ (nd_of (hx w hC) (fun d h=>by cases h)),hx w hC]
 show wpListIn _ _ _ _ _ _ (a.put o.dst v) _
 rw[hd]
 exact K _ (hE.put hN v)
theorem y_nil (h:Q .normal a w):wpListIn (fR R) 0 P ops Q [] a w:=h
theorem yieldAt_in {l n:Nat} {args:Array Value} {W:World} {T:Ending→World→Prop} (h:YieldAt Fence.wide n P l args W T):∃fn tmps assign body,(Instr.yield l args).run P W= .ok (.round l fn tmps assign body) W∧RoundIn (fR R) n P l fn tmps assign body W T:=by
 obtain⟨fn,tmps,assign,body,h1,h2⟩:=h
 refine⟨fn,tmps,assign,body,h1,?_⟩
 cases R<;>exact h2
theorem y_yield {l:Nat} (wk:Region.wanted o (yielded ops a.tmps)=true) (hd:o.dst=some d) (hN:Nat.blt d N=true) (hE:EnvD Df N E a) {x:Operand} {xs:List Operand} {ts:Array TypeId} (ho:o.op= .call {callee:= .value x,args:=xs.toArray,argTypes:=ts})
  (hf:evo E x=some (.func (.yield l) #[] #[])) (vs:List Value) (hx:evA E xs vs) {T:Value→World→Prop} (hY:YieldAt Fence.wide 0 P l vs.toArray w (Ret T)) (K:∀v a w,T v w→EnvD Df N ((d,v)::E) a→wpListIn (fR R) 0 P ops Q rest a w):wpListIn (fR R) 0 P ops Q (o::rest) a w:=by
 obtain⟨fn,tmps,assign,body,hy,hR⟩:=yieldAt_in (R:=R) hY
 have hxs:xs.toArray.map a.eval=vs.toArray:=by rw[List.map_toArray,Z4 hE hx]
 have hex:(execOp a.eval o).run P w= .ok (.round l fn tmps assign body) w:=by
  simp only[execOp,ho,resolve,hE.eval hf,hxs,Deferred.ofValue,invoke,Sem.run_bind,Sem.run_pure,Result.andThen_ok]
  simp[hy]
 unfold wpListIn
 rw[if_pos wk]
 refine⟨fun f _=>fR_fn R f,?_⟩
 rw[Oper.semAt_eq _ _ _ (nd_of hex (fun d h=>by cases h)),hex,Oper.uponIn_round]
 refine⟨fR_depth R,hR.mono fun e w' he=>?_⟩
 obtain⟨v,rfl,hr⟩:=he
 rw[hd]
 exact K v _ w' hr (hE.put hN v)
end
def aC0:Ent→List (Nat×Value)→Ent
 |E,[]=>E
 |E,p::r=>aC0 (p::E) r
theorem env_round {N:Nat} {Df:List Deferred}:∀(l:List (Nat×Value)) {E:Ent} {t:Array Value},(∀p∈l,Nat.blt p.1 N=true)→EnvD Df N E ⟨t,Df⟩→EnvD Df N (aC0 E l) ⟨l.foldl (fun t p=>t.setIfInBounds p.1 p.2) t,Df⟩
 | [],E,t,_,h=>h
 |p::r,E,t,hb,h=>by
  have:=h.put (hb p (List.mem_cons_self ..)) p.2
  exact env_round r (E:=p::E) (t:=t.setIfInBounds p.1 p.2) (fun q hq=>hb q (List.mem_cons_of_mem _ hq)) this
def markOf (dd:Nat):Deferred:={target:= .collected dd,args:= #[] }
section
variable {P:Program} {Q:Exit→Act→World→Prop} {a:Act} {w:World} {N:Nat} {E:Ent} {cs:List Code} {Z:World} {ρ:PH} {L:List bI}
theorem enterM {f:FuncId} {fn:Func} {c:Code} {args:Array Value} {R:Ending→World→Prop} (hf:P.funcs[f]?=some fn) (hb:fn.body=some c) (hN:fn.ntmps=N) (E:Ent) (h1:Nat.ble args.size N=true) (hE:∀p∈E,args[p.1]?=some p.2)
  (h:∀a,Env N E a→wpK none P (bodyPostM Fence.wide 0 P fn R) [c] a w):Calls P f args w R:=
 (callsIn_wide (n:=0)).1 (callsIn_of_wp_marks hf hb trivial (by rw[hN];exact k_one (h _ (Env.start N args E (by simpa using h1) hE))) rfl)
theorem retM {fn:Func} {R:Ending→World→Prop} {e:Exit} (he:e= .ret∨e= .normal) {dd:Nat} (hE:EnvD [markOf dd] N E a) (hp:Hp Z ρ (Pt dd (.deferred (some []))::L) w) (h:∀a w,Env N E a→Hp Z ρ L w→bodyPost P fn R .ret a w):bodyPostM Fence.wide 0 P fn R e a w:=by
 have hl:=hp.look 0 rfl
 have hlt:=(Array.getElem?_eq_some_iff.1 hl).1
 have hq:=Hp.set (w':=World.putObj w dd (.deferred none)) hp rfl rfl rfl (World.putObj_heap_same hlt) (fun k hk=>World.putObj_heap_other hk)
 have hE':Env N E ⟨a.tmps,[]⟩:=⟨hE.size,rfl,hE.val⟩
 obtain⟨v,hv⟩:=(h _ _ hE' hq.drop).2
 rcases he with rfl|rfl<;>
 ·show LeavesInM _ _ _ _ _ _ _ _ _
  rw[hE.defers]
  refine⟨by simp,.inl ⟨dd,_,rfl,run_takeDeferred hl,?_⟩⟩
  exact⟨v,hv⟩
def recOf (fn dd:Nat) (tmps:Array Value) (ps:Array Tmp) (assign body:Code):Loop:={state:= .ready,pending:=none,fn:=fn,tmps:=tmps,params:=ps,assign:=assign,body:=body,defers:=dd}
def LoopAt {σ ε:Type} (J:σ→bI) (K:ε→bI) (l dd:Nat) (rec:Loop):Step σ ε→bI
 | .next s=>Stars [J s,Pt l (.loop rec),Pt dd (.deferred (some []))]
 | .done r=>Stars [K r,Pt l (.loop {rec with state:= .done,pending:=some .ret}),Pt dd (.deferred (some []))]
theorem round_of {σ ε α:Type} {J:σ→bI} {K:ε→bI} {l dd fn:Nat} {t0:Array Value} {ps:Array Tmp} {assign body:Code} {E2:α→Ent} (hE:Env N E ⟨t0,[]⟩) (vs:α→List Value) {f:α→σ→Option (Step σ ε)}
  (hps:∀x,(vs x).length=ps.size) (hpN:∀p∈ps,Nat.blt p N=true)
  (ha:∀(x:α) (a:Act) (L:List bI) (w:World),Env N (aC0 E (ps.toList.zip (vs x))) a→Hp Z ρ L w→wpK (some l) P (fun e a w=>match e with| .normal=>Env N (E2 x++aC0 E (ps.toList.zip (vs x))) a∧Hp Z ρ L w|_=>False) [assign] a w)
  (hb:∀(x:α) (s:σ) (st:Step σ ε) (a:Act) (L:List bI) (w:World),f x s=some st→Env N (E2 x++aC0 E (ps.toList.zip (vs x))) a→Hp Z ρ (J s::L) w→wpK (some l) P (fun e a w=>match e with| .normal=>∃s',st= .next s'∧Hp Z ρ (J s'::L) w| .ret=>∃r,st= .done r∧Hp Z ρ (K r::L) w|_=>False) [body] a w)
  (x:α) (s:σ) (st:Step σ ε) (L:List bI) (W:World) (hs:f x s=some st) (hp:Hp Z ρ (LoopAt J K l dd (recOf fn dd t0 ps assign body) (.next s)::L) W):
  YieldAt Fence.wide 0 P l (vs x).toArray W (Ret fun v W'=>v= .bool st.more∧Hp Z ρ (LoopAt J K l dd (recOf fn dd t0 ps assign body) st::L) W'):=by
 have hp1:Hp Z ρ (J s::Pt l (.loop (recOf fn dd t0 ps assign body))::Pt dd (.deferred (some []))::L) W:=hp.unstar
 have hl:=hp1.look 1 rfl
 have hy:=run_yield (P:=P) (args:=(vs x).toArray) hl (by simpa[recOf] using hps x)
 refine⟨fn,_,_,_,hy,roundIn_of_wpIn trivial ?_⟩
 have hE1:=env_round (ps.toList.zip (vs x)) (fun p hp=>hpN p.1 (by simpa using(List.of_mem_zip hp).1)) hE
 have e1:(ps.toList.zip (vs x)).foldl (fun t p=>t.setIfInBounds p.1 p.2) t0=(ps.zip (vs x).toArray).foldl (fun tmps (p:Tmp×Value)=>tmps.setIfInBounds p.1 p.2) t0:=by
  obtain⟨q⟩:=ps
  simp
 rw[e1] at hE1
 have h1:=k_one (ha x _ _ _ hE1 hp1)
 refine wpIn_mono h1 fun e a2 w2 q=>?_
 cases e with
 |normal=>
  obtain⟨hE2,hp2⟩:=q
  have hl2:=hp2.look 1 rfl
  have hlt:=(Array.getElem?_eq_some_iff.1 hl2).1
  refine⟨_,run_beginRound hl2 rfl,?_⟩
  have hp3:Hp Z ρ (Pt l (.loop {recOf fn dd t0 ps assign body with state:= .busy})::J s::Pt dd (.deferred (some []))::L) (w2.putObj l (.loop {recOf fn dd t0 ps assign body with state:= .busy})):=
   Hp.set (w':=World.putObj _ _ _) (hp2.get 1 rfl) rfl rfl rfl (World.putObj_heap_same hlt) (fun k hk=>World.putObj_heap_other hk)
  have hp3:=hp3.get 1 rfl
  refine wpIn_mono (k_one (hb x s st a2 _ _ hs hE2 hp3)) fun e a4 w4 q=>?_
  cases e with
  |normal=>
   obtain⟨s',rfl,hq⟩:=q
   have hl4:=hq.look 1 rfl
   have hlt4:=(Array.getElem?_eq_some_iff.1 hl4).1
   have h5:=Hp.set (w':=World.putObj w4 l (.loop (recOf fn dd t0 ps assign body))) (hq.get 1 rfl) rfl rfl rfl (World.putObj_heap_same hlt4) (fun k hk=>World.putObj_heap_other hk)
   exact⟨_,_,run_endRound none hl4,_,rfl,rfl,Hp.stars (l:=[J s',_,_]) (h5.get 1 rfl)⟩
  |ret=>
   obtain⟨r,rfl,hq⟩:=q
   have hl4:=hq.look 1 rfl
   have hlt4:=(Array.getElem?_eq_some_iff.1 hl4).1
   have h5:=Hp.set (w':=World.putObj w4 l (.loop {recOf fn dd t0 ps assign body with state:= .done,pending:=some .ret})) (hq.get 1 rfl) rfl rfl rfl (World.putObj_heap_same hlt4) (fun k hk=>World.putObj_heap_other hk)
   exact⟨_,_,run_endRound (some .ret) hl4,_,rfl,rfl,Hp.stars (l:=[K r,_,_]) (h5.get 1 rfl)⟩
  |exit i=>exact q.elim
  |goto t=>exact q.elim
  |panic c=>exact q.elim
  |outgrown=>exact q.elim
 |exit i=>exact q.elim
 |goto t=>exact q.elim
 |ret=>exact q.elim
 |panic c=>exact q.elim
 |outgrown=>exact q.elim
theorem k_rangeF {σ ε α:Type} {g:Operand} {ps:Array Tmp} {assign body:Code} {gf:FuncId} {lb:List Value} {s0:σ} {b:Step σ ε} {L L':List bI} {E2:α→Ent} (J:σ→bI) (K:ε→bI) (vs:α→List Value) (f:α→σ→Option (Step σ ε))
  (hE:Env N E a) (hg:evo E g=some (.func (.func gf) #[] lb.toArray)) (eg:∀args w,(callFunc gf args).run P w= .ok (.enter gf args) w) (hp:Hp Z ρ (J s0::L) w)
  (hps:∀x,(vs x).length=ps.size) (hpN:∀p∈ps,Nat.blt p N=true)
  (hc:∀(l:Nat) (Y:Step σ ε→bI) (w:World),YieldOk P Z ρ l vs f Y→
   Hp Z ρ (Y (.next s0)::L) w→Calls P gf (#[.func (.yield l) #[] #[]]++lb.toArray) w (Ret fun _ W'=>Hp Z ρ (Y b::L') W'))
  (ha:∀(l:Nat) (x:α) (a:Act) (L:List bI) (w:World),Env N (aC0 E (ps.toList.zip (vs x))) a→Hp Z ρ L w→wpK (some l) P (fun e a w=>match e with| .normal=>Env N (E2 x++aC0 E (ps.toList.zip (vs x))) a∧Hp Z ρ L w|_=>False) [assign] a w)
  (hb:∀(l:Nat) (x:α) (s:σ) (st:Step σ ε) (a:Act) (L:List bI) (w:World),f x s=some st→Env N (E2 x++aC0 E (ps.toList.zip (vs x))) a→Hp Z ρ (J s::L) w→wpK (some l) P (fun e a w=>match e with| .normal=>∃s',st= .next s'∧Hp Z ρ (J s'::L) w| .ret=>∃r,st= .done r∧Hp Z ρ (K r::L) w|_=>False) [body] a w)
  (hn:∀s,b= .next s→∀dd a w,EnvD [markOf dd] N E a→Hp Z ρ (J s::Pt dd (.deferred (some []))::L') w→wpK none P Q cs a w)
  (hr:∀r,b= .done r→∀dd a w,EnvD [markOf dd] N E a→Hp Z ρ (K r::Pt dd (.deferred (some []))::L') w→Q .ret a w):wpK none P Q (.rangeFunc g ps assign body::cs) a w:=by
 show(Code.rangeFunc g ps assign body).wpIn Fence.wide 0 P (Exit.then (wpK none P Q cs) Q) a w
 refine wpIn_rangeFunc fun fn _=>?_
 obtain⟨rec,hrec⟩:∃rec:Loop,rec=recOf fn w.heap.size a.tmps ps assign body:=⟨_,rfl⟩
 obtain⟨W1,hW1⟩:∃W1,(w.alloc (.deferred (some []))).alloc (.loop rec)=W1:=⟨_,rfl⟩
 have hp1:Hp Z ρ (Pt (w.heap.size+1) (.loop rec)::Pt w.heap.size (.deferred (some []))::J s0::L) W1:=by
  have:=(hp.alloc (.deferred (some []))).alloc (.loop rec)
  rwa [World.size_alloc,hW1] at this
 have hE0:Env N E ⟨a.tmps,[]⟩:=⟨hE.size,rfl,hE.val⟩
 have hp2:Hp Z ρ (LoopAt (ε:=ε) J K (w.heap.size+1) w.heap.size rec (.next s0)::L) W1:=Hp.stars (l:=[J s0,_,_]) (hp1.get 2 rfl)
 refine⟨w.heap.size+1,[{target:= .collected w.heap.size,args:= #[] }],W1,{target:= .fn (.func gf) lb.toArray,args:= #[.func (.yield (w.heap.size+1)) #[] #[]] },W1,gf,#[.func (.yield (w.heap.size+1)) #[] #[]]++lb.toArray,W1,?_,?_,?_,?_,?_,?_⟩
 ·rw[←hW1,hrec];exact run_enterLoop_outer _ _ _ _ _
 ·simp only[resolve,hE.eval hg]
  simp[go_sem]
 ·exact fun _ _=>trivial
 ·simp[invoke,go_sem,eg]
 ·intro h;simp[Fence.wide] at h
 refine callsIn_wide.2 (Calls.mono (hc (w.heap.size+1) (LoopAt J K (w.heap.size+1) w.heap.size rec) W1 (fun x s st L W hs h=>by
  rw[hrec] at h⊢
  exact round_of hE0 vs hps hpN (ha _) (hb _) x s st L W hs h) hp2) fun e W' he=>?_)
 obtain⟨v,rfl,hp'⟩:=he
 have hE':EnvD [markOf w.heap.size] N E {a with defers:=[{target:= .collected w.heap.size,args:= #[] }]++a.defers}:=⟨hE.size,by simp[hE.defers,markOf],hE.val⟩
 cases b with
 |next s=>
  have hp':Hp Z ρ (J s::Pt (w.heap.size+1) (.loop rec)::Pt w.heap.size (.deferred (some []))::L') W':=hp'.unstar
  have hl:=hp'.look 1 rfl
  have hlt:=(Array.getElem?_eq_some_iff.1 hl).1
  have hrun:=run_endLoop (P:=P) hl (by rw[hrec];simp[recOf])
  rw[show rec.pending=none by rw[hrec];rfl] at hrun
  refine⟨none,_,hrun,?_⟩
  exact hn s rfl _ _ _ hE' (Hp.set (w':=World.putObj _ _ _) (hp'.get 1 rfl) rfl rfl rfl (World.putObj_heap_same hlt) (fun k hk=>World.putObj_heap_other hk)).drop
 |done r=>
  have hp':Hp Z ρ (K r::Pt (w.heap.size+1) (.loop {rec with state:= .done,pending:=some .ret})::Pt w.heap.size (.deferred (some []))::L') W':=hp'.unstar
  have hl:=hp'.look 1 rfl
  have hlt:=(Array.getElem?_eq_some_iff.1 hl).1
  have hrun:=run_endLoop (P:=P) hl (by simp)
  refine⟨some .ret,_,hrun,?_⟩
  exact wpIn_ret (hr r rfl _ _ _ hE' (Hp.set (w':=World.putObj _ _ _) (hp'.get 1 rfl) rfl rfl rfl (World.putObj_heap_same hlt) (fun k hk=>World.putObj_heap_other hk)).drop)
end
theorem tcVN:VarTy Tryz.prog 24 true 5:=⟨fun w=>by simp[isAgg,go_sem],fun w=>by simp[sizeOf,go_sem]<;>rfl⟩
theorem tcVS:VarTy Tryz.prog 22 false 1:=⟨fun w=>by simp[isAgg,go_sem],fun w=>by simp[sizeOf,go_sem]<;>rfl⟩
theorem nH:VarTy Tryz.prog 3 false 1:=⟨fun w=>by simp[isAgg,go_sem],fun w=>by simp[sizeOf,go_sem]<;>rfl⟩
theorem tcF4:mZ Tryz.prog 24 4 4:=fun b o w=>by simp[Instr.fieldAt,go_sem]
theorem tcSl:SlTy Tryz.prog 22 24 5 64:=SlTy.of (z:= .agg #[.int .i64 0,.string ByteArray.empty,.int .i64 0,.int .i64 0,.slice none 0 0]) (by kernel_rfl) (by kernel_rfl) rfl
theorem tcEv:∀args w,(callFunc 102 args).run Tryz.prog w= .ok (.enter 102 args) w:=enters Tryz.func102 (by kernel_rfl) rfl
theorem tcE1:∀args w,(callFunc 101 args).run Tryz.prog w= .ok (.enter 101 args) w:=enters Tryz.func101 (by kernel_rfl) rfl
theorem tcEn:∀args w,(callFunc 87 args).run Tryz.prog w= .ok (.enter 87 args) w:=enters Tryz.func87 (by kernel_rfl) rfl
theorem fF (n:Node) (l:List Node):gB (n::l)=iH n+gB l:=by rw[gB]
theorem kM (n:Node):iH n=1+gB n.kids:=by obtain⟨a,b,c,d,k⟩:=n;rw[iH]
theorem yS:∀(l m:List Node),gB (l++m)=gB l+gB m
 | [],m=>by simp[gB]
 |n::l,m=>by rw[List.cons_append,fF,fF,yS l m];omega
theorem qY {l:List Node} {i:Nat} {n:Node} (h:l[i]?=some n):gB (l.take (i+1))=gB (l.take i)+iH n:=by
 obtain⟨h1,h2⟩:=List.getElem?_eq_some_iff.1 h
 rw[←h2,List.take_succ_eq_append_getElem h1,yS,fF];simp[gB]
theorem yM (l:List Node) (i:Nat):gB (l.take i)≤gB l:=by
 have:=yS (l.take i) (l.drop i)
 rw[List.take_append_drop] at this;omega
theorem node_sz {n m:Node} {i:Nat} (h:n.kids[i]?=some m):SizeOf.sizeOf m<SizeOf.sizeOf n:=by
 obtain⟨a,b,c,d,k⟩:=n
 change k[i]?=some m at h
 have:=List.sizeOf_lt_of_mem (List.mem_of_getElem? h)
 simp only[Node.mk.sizeOf_spec]
 omega
theorem qH:∀(l:List Node),l.length≤gB l
 | []=>Nat.zero_le _
 |n::l=>by
  have:=qH l
  have h:=kM n
  rw[fF,List.length_cons];omega
def yV (n i:Nat):Option (Step Nat Unit):=if i<n then some (.next (i+1)) else some (.done ())
theorem kidsLoop (n:Nat):∀(j i:Nat),i+j=n→eH (yV n) i=some ()
 |0,i,h=>sK (by unfold yV;rw[if_neg (by omega)])
 |j+1,i,h=>by rw[I9 (show yV n i=some (.next (i+1)) by unfold yV;rw[if_pos (by omega)])];exact kidsLoop n j (i+1) (by omega)
abbrev qL (p0:Node) (v:Value):Value:= .agg #[.int .i64 p0.kind,.string p0.text,.int .i64 p0.at_,.int .i64 p0.fin,v]
def cntF (N:Nat) (_:Value) (c:Nat):Option (Step Nat Empty):=if c<N then some (.next (c+1)) else none
theorem visit_c {Z:World} {ρ:PH} {l N:Nat} {Y:Step Nat Empty→bI} (hN:N≤4611686018427387904)
  (hY:YieldOk Tryz.prog Z ρ l (fun x:Value=>[x]) (cntF N) Y):
  ∀(m:Nat) (p0:Node),SizeOf.sizeOf p0≤m→∀(c:Nat) (L:List bI) (w:World) (v:Value) (hv:aH ρ v p0.kids),c+iH p0≤N→Hp Z ρ (Y (.next c)::L) w→
   Calls Tryz.prog 102 #[qL p0 v,.func (.yield l) #[] #[]] w (Ret fun r w'=>r= .bool true∧Hp Z ρ (Y (.next (c+iH p0))::L) w'):=by
 intro m
 induction m with
 |zero=>intro p0 h;obtain⟨a,b,c,d,k⟩:=p0;simp only[Node.mk.sizeOf_spec] at h;omega
 |succ m ih=>
  intro p0 hsz c L w v hv hcN hp
  have hcnt:=kM p0
  refine enter (N:=23) Tryz.func102 rfl rfl [(0,qL p0 v),(1,.func (.yield l) #[] #[])] rfl (aY ⟨rfl,rfl,trivial⟩) fun a hE=>?_
  refine aF (aA ?_)
  refine iV (wk0 rfl) rfl rfl hE hp rfl (v:=qL p0 v) rfl ?_
  intro a w b1 hE hp
  have hp:=r2 hp
  refine S hE 1 rfl fun a hE=>aB (aF ?_)
  refine aF ?_
  refine k_regionY ?_
  refine y_val (wk0 rfl) rfl rfl hE hp (v:= .func (.yield l) #[] #[]) (kY rfl hE rfl) ?_
  intro a hE
  refine y_val (wk0 rfl) rfl rfl hE hp (v:=qL p0 v) (aJ rfl hE rfl (fun w hw=>aW (cs:=[(Iv p0.kind),(.string p0.text),(Iv p0.at_),(Iv p0.fin),v]) tcVN (Hp.cN 0 rfl 0 _ (aS rfl) w hw))) ?_
  intro a hE
  have hp:Hp Z ρ (Y (.next c)::Pt b1 (.cells #[(Iv p0.kind),(.string p0.text),(Iv p0.at_),(Iv p0.fin),v] 24 (0,0))::L) w:=hp.get 1 rfl
  refine y_yield (wk0 rfl) rfl rfl hE rfl rfl [qL p0 v] ⟨rfl,trivial⟩ (hY (qL p0 v) c (.next (c+1)) _ w (by unfold cntF;rw[if_pos (by omega)]) hp) ?_
  rintro _ a w ⟨rfl,hp⟩ hE
  have hE:Env 23 ((9,.bool true)::_) a:=hE
  refine y_val (wk0 rfl) rfl rfl hE hp (v:= .bool (!true)) (ex_not rfl hE rfl) ?_
  intro a hE
  refine y_nil ?_
  refine dI hE rfl (fun hb=>by cases hb) (fun _=>?_)
  refine bC (aF ?_)
  refine aF (aA ?_)
  refine V hE hp rfl (dC rfl hE rfl (tcF4 _ _)) fun a hE=>V hE hp rfl (xl hE tcVS 1 rfl rfl rfl rfl) fun a hE=>V hE hp rfl (dB rfl hE rfl (aH.len hv tcSl)) fun a hE=>S hE 1 rfl fun a hE=>aB ?_
  refine dJ (fun a w=>Env 23 [] a∧Hp Z ρ (Y (.next (c+iH p0))::L) w) ?_ ?_
  ·refine dY (kidsLoop p0.kids.length p0.kids.length 0 (by omega)) (fun i a w=>i≤p0.kids.length∧Env 23 [(1,.func (.yield l) #[] #[]),(12,v),(13,(Iv (p0.kids.length:Int))),(14,(Iv (i:Int)))] a∧∃L',Hp Z ρ (Y (.next (c+1+gB (p0.kids.take i)))::L') w∧∀c w,Hp Z ρ (Y (.next c)::L') w→Hp Z ρ (Y (.next c)::L) w) ?_ ?_
   ·refine⟨Nat.zero_le _,hE.cut ⟨rfl,rfl,rfl,rfl,trivial⟩,(Pt b1 (.cells #[(Iv p0.kind),(.string p0.text),(Iv p0.at_),(Iv p0.fin),v] 24 (0,0))::L),?_,fun c w h=>?_⟩
    ·rw[List.take_zero,gB,Nat.add_zero];exact hp
    exact(h.get 1 rfl).drop
   rintro i st a w ⟨hi,hE,L',hp,hL'⟩ hst
   refine aF (aA ?_)
   refine S hE 1 rfl fun a hE=>aB (aF ?_)
   refine dI hE rfl (fun hb=>?_) (fun hb=>?_)
   ·have hlt:i<p0.kids.length:=by simpa using hb
    obtain⟨x,hx⟩:∃x,p0.kids[i]?=some x:=⟨_,List.getElem?_eq_getElem hlt⟩
    refine bC (aF ?_)
    refine dN (aF ?_)
    refine aA ?_
    have ex:idx p0.kids (i:Int)=some x:=by unfold idx;rw[if_pos (by omega)];simpa using hx
    obtain⟨b3,b3o,b3c,b3r,b3k,b3f⟩:=aH.at hv tcSl ex
    obtain⟨vk,rfl,hk⟩:=NodeAt.opens b3k
    refine V hE hp rfl (aO rfl hE rfl rfl b3r) fun a hE=>V hE hp rfl (aJ rfl hE rfl (fun w hw=>aW (cs:=[(Iv x.kind),(.string x.text),(Iv x.at_),(Iv x.fin),vk]) tcVN (fun j u hj=>cell_of hw.le (b3f j u hj)))) fun a hE=>?_
    refine dH (wk0 rfl) rfl rfl hE hp rfl [(Iv 0),(.string ByteArray.empty),(Iv 0),(Iv 0),N0] (fun w=>by simp[Instr.alloc,go_sem]<;>rfl) ?_
    intro a w b2 hE hp
    refine aU (wk0 rfl) rfl hE hp rfl rfl (v:=qL x vk) rfl 0 rfl (by exact tcVN.size_) rfl (by
     have h1:=aH.one hk
     intro u hu
     simp[Value.cells] at hu
     rcases hu with rfl|rfl|rfl|rfl|rfl<;>first|rfl|exact h1) [(Iv x.kind),(.string x.text),(Iv x.at_),(Iv x.fin),vk] (by simp[Value.cells]) ?_
    intro w hp
    refine aB (aF ?_)
    refine aA (V hE hp rfl (aJ rfl hE rfl (fun w hw=>aW (cs:=[(Iv x.kind),(.string x.text),(Iv x.at_),(Iv x.fin),vk]) tcVN (Hp.cN 0 rfl 0 _ (aS rfl) w hw))) fun a hE=>?_)
    refine S hE 1 rfl fun a hE=>?_
    have hp:=hp.drop
    have h1:=qY hx
    have h2:=yM p0.kids (i+1)
    refine s_call (wk0 rfl) rfl rfl hE rfl [qL x vk,.func (.yield l) #[] #[]] ⟨rfl,rfl,trivial⟩ tcEv (ih x (by have:=node_sz hx;omega) _ _ w vk hk (by omega) hp) Ret.ret ?_
    intro v2 a w hR hE
    obtain⟨rfl,hp⟩:=Ret.of hR
    refine S hE 1 rfl fun a hE=>aB ?_
    refine dI hE rfl (fun hb=>by cases hb) (fun _=>?_)
    refine bC (aA ?_)
    refine V hE hp rfl (v:=(Iv ((i+1:Nat):Int))) (bF rfl hE rfl rfl (by have:=qH p0.kids;rw[IntKind.wrap_i64];omega)) fun a hE=>S hE 1 rfl fun a hE=>aB ?_
    refine⟨i+1,?_,by omega,hE.cut ⟨rfl,rfl,rfl,rfl,trivial⟩,L',?_,hL'⟩
    ·unfold yV at hst;rw[if_pos hlt] at hst;exact(oj hst).symm
    rw[h1,←Nat.add_assoc];exact hp
   have hge:¬i<p0.kids.length:=by simpa using hb
   refine dU ?_
   refine⟨(),?_,fun _=>?_⟩
   ·unfold yV at hst;rw[if_neg hge] at hst;exact(oj hst).symm
   refine⟨hE.cut trivial,?_⟩
   have:=hL' _ _ hp
   rw[List.take_of_length_le (by omega)] at this
   rw[hcnt,←Nat.add_assoc];exact this
  rintro a w ⟨hE,hp⟩
  refine aF (aA ?_)
  refine S hE 1 rfl fun a hE=>aB (dD ?_)
  exact gK hE rfl rfl ⟨_,rfl,rfl,hp⟩
theorem nodes_c {Z:World} {ρ:PH} {L:List bI} {w:World} (p0:Node) (v:Value) (hp:Hp Z ρ L w):
  Calls Tryz.prog 87 #[qL p0 v] w (Ret fun r w'=>∃b,r= .func (.func 101) #[] #[.pointer (some ⟨b,0,none⟩)]∧Hp Z ρ (Pt b (.cells #[(Iv p0.kind),(.string p0.text),(Iv p0.at_),(Iv p0.fin),v] 24 (0,0))::L) w'):=by
 refine enter (N:=4) Tryz.func87 rfl rfl [(0,qL p0 v)] rfl (aY ⟨rfl,trivial⟩) fun a hE=>?_
 refine aF (aA ?_)
 refine iV (wk0 rfl) rfl rfl hE hp rfl (v:=qL p0 v) rfl ?_
 intro a w b1 hE hp
 refine S hE 1 rfl fun a hE=>aB (aF ?_)
 refine aA (V hE hp rfl (v:= .func (.func 101) #[] #[.pointer (some ⟨b1,0,none⟩)]) (ex_fn rfl hE [.pointer (some ⟨b1,0,none⟩)] (by exact⟨rfl,trivial⟩)) fun a hE=>?_)
 refine S hE 1 rfl fun a hE=>aB (dD ?_)
 exact gK hE rfl rfl ⟨_,rfl,_,rfl,hp⟩
theorem nodes1_c {Z:World} {ρ:PH} {l N:Nat} {Y:Step Nat Empty→bI} (hN:N≤4611686018427387904)
  (hY:YieldOk Tryz.prog Z ρ l (fun x:Value=>[x]) (cntF N) Y)
  (p0:Node) (b:Nat) (L:List bI) (w:World) (v:Value) (hv:aH ρ v p0.kids) (hcN:iH p0≤N)
  (hp:Hp Z ρ (Y (.next 0)::Pt b (.cells #[(Iv p0.kind),(.string p0.text),(Iv p0.at_),(Iv p0.fin),v] 24 (0,0))::L) w):
  Calls Tryz.prog 101 #[.func (.yield l) #[] #[],.pointer (some ⟨b,0,none⟩)] w (Ret fun _ w'=>Hp Z ρ (Y (.next (iH p0))::L) w'):=by
 refine enter (N:=6) Tryz.func101 rfl rfl [(0,.func (.yield l) #[] #[]),(1,.pointer (some ⟨b,0,none⟩))] rfl (aY ⟨rfl,rfl,trivial⟩) fun a hE=>?_
 refine aA (V hE hp rfl (aJ rfl hE rfl (fun w hw=>aW (cs:=[(Iv p0.kind),(.string p0.text),(Iv p0.at_),(Iv p0.fin),v]) tcVN (Hp.cN 1 rfl 0 _ (aS rfl) w hw))) fun a hE=>?_)
 refine S hE 1 rfl fun a hE=>?_
 refine s_call (wk0 rfl) rfl rfl hE rfl [qL p0 v,.func (.yield l) #[] #[]] ⟨rfl,rfl,trivial⟩ tcEv (visit_c hN hY _ p0 (Nat.le_refl _) 0 _ w v hv (by omega) hp) Ret.ret ?_
 intro v2 a w hR hE
 obtain⟨rfl,hp⟩:=Ret.of hR
 refine aB ?_
 refine⟨hE.defers,_,results_none rfl _ _ _,_,rfl,?_⟩
 rw[Nat.zero_add] at hp
 exact(hp.get 1 rfl).drop
theorem aC6 {Z:World} {ρ:PH} {L:List bI} {w:World} (p0:Node) (aI:Value) (aZ:aH ρ aI p0.kids) (hp:Hp Z ρ (L) w) (r:Int) (hm:m_count p0=some r):
  Calls Tryz.prog 64 #[(.agg #[(Iv p0.kind),(.string p0.text),(Iv p0.at_),(Iv p0.fin),aI])] w (Ret fun v w'=>v=(Iv r)∧Hp Z ρ (L) w'):=by
 obtain⟨hlt,rfl⟩:iH p0<4611686018427387904∧r=(iH p0:Int):=by
  unfold m_count at hm
  split at hm
  ·exact⟨by assumption,(oj hm).symm⟩
  cases hm
 refine enterM (N:=10) Tryz.func64 rfl rfl [(0,qL p0 aI)] rfl (aY ⟨rfl,trivial⟩) fun a hE=>?_
 refine aF (aA ?_)
 refine iV (wk0 rfl) rfl rfl hE hp rfl (v:=qL p0 aI) rfl ?_
 intro a w b1 hE hp
 have hp:=r1 hp
 refine S hE 1 rfl fun a hE=>aB (aF ?_)
 refine aA ?_
 refine dH (wk0 rfl) rfl rfl hE hp rfl [.int .i64 0] (fun w=>by simp[Instr.alloc,go_sem]<;>rfl) ?_
 intro a w b2 hE hp
 refine aU (wk0 rfl) rfl hE hp rfl rfl (v:= .int .i64 0) rfl 0 rfl (by exact nH.size_) rfl (by simp[Value.cells,Value.oneCell']) [.int .i64 0] (by simp[Value.cells]) ?_
 intro w hp
 refine aB (aF ?_)
 refine aF (aA ?_)
 refine V hE hp rfl (aJ rfl hE rfl (fun w hw=>aW (cs:=[(Iv p0.kind),(.string p0.text),(Iv p0.at_),(Iv p0.fin),aI]) tcVN (Hp.cN 1 rfl 0 _ (aS rfl) w hw))) fun a hE=>?_
 refine s_call (wk0 rfl) rfl rfl hE rfl [qL p0 aI] ⟨rfl,trivial⟩ tcEn (nodes_c p0 aI hp) Ret.ret ?_
 intro v2 a w hR hE
 obtain⟨b,rfl,hp⟩:=Ret.of hR
 refine aB (dN ?_)
 refine k_rangeF (fun c:Nat=>Pt b2 (.cells #[.int .i64 (c:Int)] 3 (0,0))) (fun r:Empty=>fun k=>False) (fun x:Value=>[x]) (cntF (iH p0)) (b:= .next (iH p0)) (L':=L) (E2:=fun x=>[]) (lb:=[.pointer (some ⟨b,0,none⟩)]) (s0:=0) hE rfl tcE1 ((hp.get 2 rfl).drop.get 1 rfl) (fun _=>rfl) (by decide) ?_ ?_ ?_ ?_ ?_
 ·intro yl Y w hY hp
  refine Calls.mono (nodes1_c (by omega) hY p0 b L w aI aZ (Nat.le_refl _) hp) fun e w' he=>?_
  obtain⟨v,rfl,hh⟩:=he
  exact⟨_,rfl,hh⟩
 ·intro yl x a L w hE hp
  refine bC ?_
  exact⟨hE,hp⟩
 ·rintro yl x c st a L w hst hE hp
  have hc:c<iH p0:=by
   unfold cntF at hst
   split at hst
   ·assumption
   cases hst
  unfold cntF at hst
  rw[if_pos hc] at hst
  refine dN (aA ?_)
  refine V hE hp rfl (xl hE nH 0 rfl rfl rfl rfl) fun a hE=>V hE hp rfl (v:= .int .i64 ((c+1:Nat):Int)) (bF rfl hE rfl rfl (by rw[IntKind.wrap_i64];omega)) fun a hE=>?_
  refine aU (wk0 rfl) rfl hE hp rfl rfl (v:= .int .i64 ((c+1:Nat):Int)) rfl 0 rfl (by exact nH.size_) rfl (by simp[Value.cells,Value.oneCell']) [.int .i64 ((c+1:Nat):Int)] (by simp[Value.cells]) ?_
  intro w hp
  refine aB ?_
  exact⟨_,(oj hst).symm,hp⟩
 ·intro s hs dd a w hE hp
  obtain rfl:=Step.next.inj hs
  refine aF (aA ?_)
  refine V hE hp rfl (xl hE nH 0 rfl rfl rfl rfl) fun a hE=>S hE 1 rfl fun a hE=>aB (dD ?_)
  refine retM (.inl rfl) hE (hp.get 1 rfl) fun a w hE hp=>?_
  exact gK hE rfl rfl ⟨_,rfl,rfl,hp.drop⟩
 intro r _ dd a w hE hp
 exact r.elim
end Go.Proofs.YtopnldfjcciieaaGreat

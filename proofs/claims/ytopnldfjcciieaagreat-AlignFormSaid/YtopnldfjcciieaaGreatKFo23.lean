/- The code goes as its model: assessor/assessorref38.before, assessor/assessorref38.Sorted, assessor/assessorref38.Invert, assessor/assessorref38.Compose, assesso -/
import Derived.Test.YtopnldfjcciieaaGreatKFoT
import Derived.Test.YtopnldfjcciieaaGreatKFo4
import Derived.Test.YtopnldfjcciieaaGreatKFo5
import Derived.Test.YtopnldfjcciieaaGreatKFo6
import Derived.Test.YtopnldfjcciieaaGreatKFo10
import Derived.Test.YtopnldfjcciieaaGreatKFo15
import Derived.Test.YtopnldfjcciieaaGreatKFo17
import Derived.Test.YtopnldfjcciieaaGreatKFo16
import Derived.Test.YtopnldfjcciieaaGreatKFo22
set_option linter.unusedVariables false
set_option linter.unusedSimpArgs false
set_option maxRecDepth 100000
set_option maxHeartbeats 4000000
namespace Go.Proofs.YtopnldfjcciieaaGreat
open Go.RowKit
theorem zI {Z:World} {ρ:PH} {L:List bK} {w:World} (p0:(List Chg)) (vp0:Value) (hp0:aH ρ vp0 p0) (p1:(List Chg)) (vp1:Value) (hp1:aH ρ vp1 p1) (hp:Hp Z ρ (L) w) (r:Bool) (hm:lS p0 p1=some r):
  Calls Tryz.prog 19 #[vp0,vp1] w (Ret fun v w'=>v=(.bool r)∧Hp Z ρ (L) w'):=by
 refine enter (N:=26) Tryz.func19 rfl rfl [(0,vp0),(1,vp1)] rfl (bC ⟨rfl,rfl,trivial⟩) fun a hE=>?_
 unfold lS at hm
 refine aG (aA ?_)
 refine S hE 1 rfl fun a hE=>aB (aG ?_)
 refine aG (aA ?_)
 refine S hE 1 rfl fun a hE=>V hE hp rfl (bT rfl hE rfl (aH.len hp0 uQ)) fun a hE=>S hE 1 rfl fun a hE=>V hE hp rfl (bT rfl hE rfl (aH.len hp1 uQ)) fun a hE=>S hE 1 rfl fun a hE=>aB ?_
 refine dE hE rfl (fun hc1=>?_) (fun hc1=>?_)
 ·replace hm:=(it hc1).symm.trans hm
  refine aG (aA ?_)
  refine S hE 1 rfl fun a hE=>aB (bZ ?_)
  obtain rfl:=oj hm
  exact gJ hE rfl rfl ⟨_,rfl,rfl,hp⟩
 replace hm:=(ie hc1).symm.trans hm
 refine aZ (aG ?_)
 refine aG (aA ?_)
 refine S hE 1 rfl fun a hE=>aB ?_
 obtain⟨b1,hc2,hm⟩:=bnd hm
 refine dH (fun a w=>∃s:Unit,b1= .brk s∧(Env 26 [] a∧Hp Z ρ (L) w)) ?_ ?_
 ·refine dZ hc2 (fun s a w=>Env 26 [(0,vp0),(1,vp1),(5,(Iv s))] a∧Hp Z ρ (L) w) ?_ ?_
  ·exact⟨hE.cut ⟨rfl,rfl,rfl,trivial⟩,hp⟩
  rintro aP st a w ⟨hE,hp⟩ hl1
  unfold oH at hl1
  refine aG (aG ?_)
  refine aA (S hE 2 rfl fun a hE=>?_)
  refine V hE hp rfl (bT rfl hE rfl (aH.len hp0 uQ)) fun a hE=>S hE 1 rfl fun a hE=>aB ?_
  refine dE hE rfl (fun hc3=>?_) (fun hc3=>?_)
  ·replace hl1:=(it hc3).symm.trans hl1
   refine aZ (aG ?_)
   refine dM (aG ?_)
   refine jR (by kernel_rfl) (by kernel_rfl) hp ?_
   refine Sq hE 2 rfl fun a hE=>?_
   obtain⟨x1,ex1,hl1⟩:=bnd hl1
   obtain⟨b2,b2o,b2c,b2r,b2k,b2f⟩:=aH.at hp0 uQ ex1
   obtain rfl:b2c=Enc.enc x1:=b2k
   have b2f:AtP ρ b2 b2o [(Iv x1.op),(Iv x1.node),(Iv x1.index),(Iv x1.count),(Iv x1.kind),(.string x1.text)]:=b2f
   refine Vq hE rfl (aN rfl hE rfl rfl b2r) fun a hE=>Vq hE rfl (aK rfl hE rfl (fun w hw=>aW (cs:=[(Iv x1.op),(Iv x1.node),(Iv x1.index),(Iv x1.count),(Iv x1.kind),(.string x1.text)]) xA (fun j u hj=>cell_of hw.le (b2f j u hj)))) fun a hE=>Sq hE 2 rfl fun a hE=>?_
   obtain⟨x2,ex2,hl1⟩:=bnd hl1
   obtain⟨b3,b3o,b3c,b3r,b3k,b3f⟩:=aH.at hp1 uQ ex2
   obtain rfl:b3c=Enc.enc x2:=b3k
   have b3f:AtP ρ b3 b3o [(Iv x2.op),(Iv x2.node),(Iv x2.index),(Iv x2.count),(Iv x2.kind),(.string x2.text)]:=b3f
   refine Vq hE rfl (aN rfl hE rfl rfl b3r) fun a hE=>Vq hE rfl (aK rfl hE rfl (fun w hw=>aW (cs:=[(Iv x2.op),(Iv x2.node),(Iv x2.index),(Iv x2.count),(Iv x2.kind),(.string x2.text)]) xA (fun j u hj=>cell_of hw.le (b3f j u hj)))) fun a hE=>Vq hE rfl (v:=(.bool (!((decide (x1.op=x2.op))&&(decide (x1.node=x2.node))&&(decide (x1.index=x2.index))&&(decide (x1.count=x2.count))&&(decide (x1.kind=x2.kind))&&(decide (x1.text=x2.text)))))) (ex_stneq (eqst58 x1.op x1.node x1.index x1.count x1.kind x1.text x2.op x2.node x2.index x2.count x2.kind x2.text) rfl hE rfl rfl) fun a hE=>?_
   refine iM fun w hp=>?_
   have hp:=r0 hp
   refine dE hE rfl (fun hc4=>?_) (fun hc4=>?_)
   ·replace hl1:=(it hc4).symm.trans hl1
    refine aG (aA ?_)
    refine S hE 1 rfl fun a hE=>aB (bZ ?_)
    refine⟨_,(oj hl1).symm,fun hb=>?_⟩
    subst hb
    obtain rfl:=oj hm
    exact gJ hE rfl rfl ⟨_,rfl,rfl,hp⟩
   replace hl1:=(ie hc4).symm.trans hl1
   refine aZ (aA ?_)
   refine S hE 1 rfl fun a hE=>?_
   obtain⟨x3,ex3,hl1⟩:=bnd hl1
   refine V hE hp rfl (bF rfl hE rfl rfl (aO ex3)) fun a hE=>S hE 1 rfl fun a hE=>aB ?_
   exact⟨_,(oj hl1).symm,hE.cut ⟨rfl,rfl,rfl,trivial⟩,hp⟩
  replace hl1:=(ie hc3).symm.trans hl1
  refine dS ?_
  refine⟨_,(oj hl1).symm,fun hbb=>?_⟩
  exact⟨_,hbb.symm,hE.cut trivial,hp⟩
 rintro a w ⟨b1s,rfl,hE,hp⟩
 dsimp only at hm
 refine aG (aA ?_)
 refine S hE 1 rfl fun a hE=>aB (bZ ?_)
 obtain rfl:=oj hm
 exact gJ hE rfl rfl ⟨_,rfl,rfl,hp⟩
theorem aD2 {Z:World} {ρ:PH} {L:List bK} {w:World} (hp:Hp Z ρ (L) w) (r:Bool) (hm:qZ=some r):
  Calls Tryz.prog 10 #[] w (Ret fun v w'=>v=(.bool r)∧Hp Z ρ (L) w'):=by
 refine enter (N:=124) Tryz.func10 rfl rfl [] rfl (bC trivial) fun a hE=>?_
 unfold qZ at hm
 refine aG (aA ?_)
 refine S hE 1 rfl fun a hE=>aB (aG ?_)
 refine aA ?_
 obtain⟨x1,ex1,hm⟩:=bnd hm
 refine Cl hE rfl rfl ent36 (oZ (ByteArray.mk #[97]) hp x1 ex1) ⟨rfl,trivial⟩ fun v a w hR hE=>?_
 obtain⟨ρ1,V7,hle1,rfl,hr1_kids,hp⟩:=hR
 have hp:=r0 hp
 obtain⟨x2,ex2,hm⟩:=bnd hm
 refine Cl hE rfl rfl ent36 (oZ (ByteArray.mk #[98]) hp x2 ex2) ⟨rfl,trivial⟩ fun v a w hR hE=>?_
 obtain⟨ρ2,vr2_kids,hle2,rfl,hr2_kids,hp⟩:=hR
 have hp:=r0 hp
 obtain⟨x3,ex3,hm⟩:=bnd hm
 refine Cl hE rfl rfl ent36 (oZ (ByteArray.mk #[99]) hp x3 ex3) ⟨rfl,trivial⟩ fun v a w hR hE=>?_
 obtain⟨ρ3,vr3_kids,hle3,rfl,hr3_kids,hp⟩:=hR
 have hp:=r0 hp
 obtain⟨x4,ex4,hm⟩:=bnd hm
 refine Cl hE rfl rfl ent35 (uK (ByteArray.mk #[42]) x2 vr2_kids (aH.mono hr2_kids hle3) x3 vr3_kids hr3_kids hp x4 ex4) ⟨rfl,rfl,rfl,trivial⟩ fun v a w hR hE=>?_
 obtain⟨ρ4,vr4_kids,hle4,rfl,hr4_kids,hp⟩:=hR
 have hp:=r0 hp
 obtain⟨x5,ex5,hm⟩:=bnd hm
 refine Cl hE rfl rfl ent35 (uK (ByteArray.mk #[43]) x1 V7 (aH.mono (aH.mono (aH.mono hr1_kids hle2) hle3) hle4) x4 vr4_kids hr4_kids hp x5 ex5) ⟨rfl,rfl,rfl,trivial⟩ fun v a w hR hE=>?_
 obtain⟨ρ5,jJ,hle5,rfl,Q3,hp⟩:=hR
 have hp:=r0 hp
 obtain⟨x6,ex6,hm⟩:=bnd hm
 refine Cl hE rfl rfl ent36 (oZ (ByteArray.mk #[97]) hp x6 ex6) ⟨rfl,trivial⟩ fun v a w hR hE=>?_
 obtain⟨ρ6,vr6_kids,hle6,rfl,hr6_kids,hp⟩:=hR
 have hp:=r0 hp
 obtain⟨x7,ex7,hm⟩:=bnd hm
 refine Cl hE rfl rfl ent36 (oZ (ByteArray.mk #[99]) hp x7 ex7) ⟨rfl,trivial⟩ fun v a w hR hE=>?_
 obtain⟨ρ7,vr7_kids,hle7,rfl,hr7_kids,hp⟩:=hR
 have hp:=r0 hp
 obtain⟨x8,ex8,hm⟩:=bnd hm
 refine Cl hE rfl rfl ent35 (uK (ByteArray.mk #[42]) x6 vr6_kids (aH.mono hr6_kids hle7) x7 vr7_kids hr7_kids hp x8 ex8) ⟨rfl,rfl,rfl,trivial⟩ fun v a w hR hE=>?_
 obtain⟨ρ8,jK,hle8,rfl,Q4,hp⟩:=hR
 have hp:=r0 hp
 refine dL (wk0 rfl) rfl rfl hE hp rfl [(Iv 0),(.string ByteArray.empty),(Iv 0),(Iv 0),N0] (fun w=>by simp[Instr.alloc,go_sem]<;>rfl) ?_
 intro a w b1 hE hp
 have hp:=r1 hp
 refine dL (wk0 rfl) rfl rfl hE hp rfl [(Iv 0),(.string ByteArray.empty),(Iv 0),(Iv 0),N0] (fun w=>by simp[Instr.alloc,go_sem]<;>rfl) ?_
 intro a w b2 hE hp
 have hp:=r2 hp
 refine aX (wk0 rfl) rfl hE hp rfl rfl rfl 1 rfl bY.size_ rfl (aQ ⟨rfl,rfl,rfl,rfl,(aH.one (aH.mono (aH.mono (aH.mono Q3 hle6) hle7) hle8)),trivial⟩) [(Iv x5.kind),(.string x5.text),(Iv x5.at_),(Iv x5.fin),jJ] rfl ?_
 intro w hp
 have hp:=r2 hp
 refine aX (wk0 rfl) rfl hE hp rfl rfl rfl 0 rfl bY.size_ rfl (aQ ⟨rfl,rfl,rfl,rfl,(aH.one Q4),trivial⟩) [(Iv x8.kind),(.string x8.text),(Iv x8.at_),(Iv x8.fin),jK] rfl ?_
 intro w hp
 have hp:=r2 hp
 refine aB (aG ?_)
 refine aA (V hE hp rfl (v:=(.agg #[(Iv 0),(Iv 0)])) (lW rfl hE [(0,(Iv 0)),(1,(Iv 0))] (by exact⟨⟨rfl,rfl⟩,⟨rfl,rfl⟩,trivial⟩) (fun w=>by simp[Instr.build,Instr.fill,Value.cells,go_sem])) fun a hE=>?_)
 refine V hE hp rfl (v:=(.agg #[(Iv 1),(Iv 1)])) (lW rfl hE [(0,(Iv 1)),(1,(Iv 1))] (by exact⟨⟨rfl,rfl⟩,⟨rfl,rfl⟩,trivial⟩) (fun w=>by simp[Instr.build,Instr.fill,Value.cells,go_sem])) fun a hE=>V hE hp rfl (v:=(.agg #[(Iv 2),(Iv (-1))])) (lW rfl hE [(0,(Iv 2)),(1,(Iv (-1)))] (by exact⟨⟨rfl,rfl⟩,⟨rfl,rfl⟩,trivial⟩) (fun w=>by simp[Instr.build,Instr.fill,Value.cells,go_sem])) fun a hE=>V hE hp rfl (v:=(.agg #[(Iv 3),(Iv (-1))])) (lW rfl hE [(0,(Iv 3)),(1,(Iv (-1)))] (by exact⟨⟨rfl,rfl⟩,⟨rfl,rfl⟩,trivial⟩) (fun w=>by simp[Instr.build,Instr.fill,Value.cells,go_sem])) fun a hE=>V hE hp rfl (v:=(.agg #[(Iv 4),(Iv 2)])) (lW rfl hE [(0,(Iv 4)),(1,(Iv 2))] (by exact⟨⟨rfl,rfl⟩,⟨rfl,rfl⟩,trivial⟩) (fun w=>by simp[Instr.build,Instr.fill,Value.cells,go_sem])) fun a hE=>?_
 refine fP (wk0 rfl) rfl rfl hE hp rfl [(0,(.agg #[(Iv 0),(Iv 0)])),(1,(.agg #[(Iv 1),(Iv 1)])),(2,(.agg #[(Iv 2),(Iv (-1))])),(3,(.agg #[(Iv 3),(Iv (-1))])),(4,(.agg #[(Iv 4),(Iv 2)]))] ⟨⟨rfl,rfl⟩,⟨rfl,rfl⟩,⟨rfl,rfl⟩,⟨rfl,rfl⟩,⟨rfl,rfl⟩,trivial⟩ [(Iv 0),(Iv 0),(Iv 1),(Iv 1),(Iv 2),(Iv (-1)),(Iv 3),(Iv (-1)),(Iv 4),(Iv 2)] 46 (fun w=>by simp[Instr.buildSlice,Instr.fill,Value.cells,go_sem]) ?_
 intro a w b3 hE hp
 have hp:=r3 hp
 refine S hE 1 rfl fun a hE=>aB (aG ?_)
 refine aA (V hE hp rfl (aK rfl hE rfl (fun w hw=>aW (cs:=[(Iv x5.kind),(.string x5.text),(Iv x5.at_),(Iv x5.fin),jJ]) bY (Hp.cN 2 rfl 0 _ (aS rfl) w hw))) fun a hE=>?_)
 refine V hE hp rfl (aK rfl hE rfl (fun w hw=>aW (cs:=[(Iv x8.kind),(.string x8.text),(Iv x8.at_),(Iv x8.fin),jK]) bY (Hp.cN 1 rfl 0 _ (aS rfl) w hw))) fun a hE=>S hE 1 rfl fun a hE=>?_
 have hp:=(hp.get 0 rfl).imp (qQ (l:=(([(Opn.mk 0 0),(Opn.mk 1 1),(Opn.mk 2 (-1)),(Opn.mk 3 (-1)),(Opn.mk 4 2)]:List Opn):List Opn)) (n:=5) rfl (by decide) rfl)
 have hp:=r3 hp
 obtain⟨k1,k1a,k1d,k1h⟩:=(hp.get 0 rfl).lend
 obtain⟨x9,ex9,hm⟩:=bnd hm
 refine Cl hE rfl rfl ent15 (aI6 x5 jJ (aH.mono (aH.mono (aH.mono (aH.mono Q3 hle6) hle7) hle8) (PH.le_un _ _)) x8 jK (aH.mono Q4 (PH.le_un _ _)) ([(Opn.mk 0 0),(Opn.mk 1 1),(Opn.mk 2 (-1)),(Opn.mk 3 (-1)),(Opn.mk 4 2)]:List Opn) (.slice (some ⟨b3,0,none⟩) 5 5) (aC.ro k1d k1a) k1h x9 ex9) ⟨rfl,rfl,rfl,trivial⟩ fun v a w hR hE=>?_
 obtain⟨rfl,hp⟩:=hR
 have hp:=Hp.back k1a k1d hp
 have hp:=r3 hp
 refine S hE 5 rfl fun a hE=>aB ?_
 have hE:=hE.cut (E':=[(1,(Pv b1 0)),(2,(Pv b2 0)),(3,(.slice (some ⟨b3,0,none⟩) 5 5)),(4,(Iv x9.1)),(5,(Iv x9.2))]) ⟨rfl,rfl,rfl,rfl,rfl,trivial⟩
 refine aG (aA ?_)
 refine V hE hp rfl (aK rfl hE rfl (fun w hw=>aW (cs:=[(Iv x5.kind),(.string x5.text),(Iv x5.at_),(Iv x5.fin),jJ]) bY (Hp.cN 2 rfl 0 _ (aS rfl) w hw))) fun a hE=>V hE hp rfl (aK rfl hE rfl (fun w hw=>aW (cs:=[(Iv x8.kind),(.string x8.text),(Iv x8.at_),(Iv x8.fin),jK]) bY (Hp.cN 1 rfl 0 _ (aS rfl) w hw))) fun a hE=>S hE 1 rfl fun a hE=>?_
 obtain⟨k2,k2a,k2d,k2h⟩:=(hp.get 0 rfl).lend
 obtain⟨x10,ex10,hm⟩:=bnd hm
 refine Cl hE rfl rfl ent16 (aD0 x5 jJ (aH.mono (aH.mono (aH.mono (aH.mono Q3 hle6) hle7) hle8) (PH.le_un _ _)) x8 jK (aH.mono Q4 (PH.le_un _ _)) ([(Opn.mk 0 0),(Opn.mk 1 1),(Opn.mk 2 (-1)),(Opn.mk 3 (-1)),(Opn.mk 4 2)]:List Opn) (.slice (some ⟨b3,0,none⟩) 5 5) (aC.ro k2d k2a) k2h x10 ex10) ⟨rfl,rfl,rfl,trivial⟩ fun v a w hR hE=>?_
 obtain⟨vr11,rfl,hp⟩:=hR
 have hp:=Hp.back k2a k2d hp
 have hp:=r4 hp
 refine S hE 5 rfl fun a hE=>aB (aG ?_)
 refine aA (V hE hp rfl (aK rfl hE rfl (fun w hw=>aW (cs:=[(Iv x5.kind),(.string x5.text),(Iv x5.at_),(Iv x5.fin),jJ]) bY (Hp.cN 3 rfl 0 _ (aS rfl) w hw))) fun a hE=>?_)
 refine fP (wk0 rfl) rfl rfl hE hp rfl [(0,(.agg #[(Iv x5.kind),(.string x5.text),(Iv x5.at_),(Iv x5.fin),jJ]))] ⟨⟨rfl,rfl⟩,trivial⟩ [(Iv x5.kind),(.string x5.text),(Iv x5.at_),(Iv x5.fin),jJ] 24 (fun w=>by have hc0:=aH.cells (aH.mono (aH.mono (aH.mono Q3 hle6) hle7) hle8);simp only[Value.cells] at hc0;simp[Instr.buildSlice,Instr.fill,Value.cells,hc0,go_sem]) ?_
 intro a w b4 hE hp
 have hp:=r5 hp
 refine S hE 1 rfl fun a hE=>?_
 obtain⟨k3,k3a,k3d,hp⟩:=(hp.get 0 rfl).lend
 have f1:aH (ρ8.un k3) (.slice (some ⟨b4,0,none⟩) 1 1) ([x5]:List Node):=aH.of_all (l:=(([x5]:List Node))) k3d k3a ⟨_,_,rfl,(show NodeAt (ρ8.un k3) x5 [(Iv x5.kind),(.string x5.text),(Iv x5.at_),(Iv x5.fin),jJ] from NodeAt.shutv ((aH.mono (aH.mono (aH.mono (aH.mono Q3 hle6) hle7) hle8) (PH.le_un _ k3)))),rfl⟩
 have hp:=r4 hp
 obtain⟨k4,k4a,k4d,hp⟩:=(hp.get 1 rfl).lend
 have f2:aH ((ρ8.un k3).un k4) vr11 x10.1:=aC.ro k4d k4a
 have hp:Hp Z ((ρ8.un k3).un k4) (_::_::_::L) w:=hp
 obtain⟨x11,ex11,hm⟩:=bnd hm
 refine Cl hE rfl rfl ent24 (c_Apply ([x5]:List Node) (.slice (some ⟨b4,0,none⟩) 1 1) (aH.mono f1 (PH.le_un _ k4)) x10.1 vr11 f2 hp x11 ex11) ⟨rfl,rfl,trivial⟩ fun v a w hR hE=>?_
 obtain⟨ρ9,vr13,hle9,rfl,hr13,hp⟩:=hR
 have hp:=r3 hp
 refine S hE 5 rfl fun a hE=>aB (aG ?_)
 refine aA (V hE hp rfl (aK rfl hE rfl (fun w hw=>aW (cs:=[(Iv x5.kind),(.string x5.text),(Iv x5.at_),(Iv x5.fin),jJ]) bY (Hp.cN 2 rfl 0 _ (aS rfl) w hw))) fun a hE=>?_)
 refine V hE hp rfl (aK rfl hE rfl (fun w hw=>aW (cs:=[(Iv x8.kind),(.string x8.text),(Iv x8.at_),(Iv x8.fin),jK]) bY (Hp.cN 1 rfl 0 _ (aS rfl) w hw))) fun a hE=>?_
 obtain⟨x12,ex12,hm⟩:=bnd hm
 refine Cl hE rfl rfl ent21 (c_align_Align x5 jJ (aH.mono (aH.mono (aH.mono (aH.mono (aH.mono (aH.mono Q3 hle6) hle7) hle8) (PH.le_un _ k3)) (PH.le_un _ k4)) hle9) x8 jK (aH.mono (aH.mono (aH.mono Q4 (PH.le_un _ k3)) (PH.le_un _ k4)) hle9) hp x12 ex12) ⟨rfl,rfl,trivial⟩ fun v a w hR hE=>?_
 obtain⟨vr15,rfl,hp⟩:=hR
 have hp:=r4 hp
 refine S hE 5 rfl fun a hE=>aB ?_
 have hE:=hE.cut (E':=[(1,(Pv b1 0)),(2,(Pv b2 0)),(3,(.slice (some ⟨b3,0,none⟩) 5 5)),(4,(Iv x9.1)),(5,(Iv x9.2)),(6,vr11),(7,(Iv x10.2)),(8,vr13),(9,(Iv x11.2)),(10,vr15),(11,(Iv x12.2))]) ⟨rfl,rfl,rfl,rfl,rfl,rfl,rfl,rfl,rfl,rfl,rfl,trivial⟩
 refine aG (aA ?_)
 refine S hE 1 rfl fun a hE=>?_
 obtain⟨k5,k5a,k5d,k5h⟩:=(hp.get 1 rfl).lend
 obtain⟨x13,ex13,hm⟩:=bnd hm
 refine Cl hE rfl rfl ent13 (H9 ([(Opn.mk 0 0),(Opn.mk 1 1),(Opn.mk 2 (-1)),(Opn.mk 3 (-1)),(Opn.mk 4 2)]:List Opn) (.slice (some ⟨b3,0,none⟩) 5 5) (aC.ro k5d k5a) 4 k5h x13 ex13) ⟨rfl,rfl,trivial⟩ fun v a w hR hE=>?_
 obtain⟨rfl,hp⟩:=hR
 have hp:=Hp.back k5a k5d hp
 have hp:=r4 hp
 refine S hE 5 rfl fun a hE=>aB (aG ?_)
 refine aA (V hE hp rfl (aK rfl hE rfl (fun w hw=>aW (cs:=[(Iv x5.kind),(.string x5.text),(Iv x5.at_),(Iv x5.fin),jJ]) bY (Hp.cN 3 rfl 0 _ (aS rfl) w hw))) fun a hE=>?_)
 refine V hE hp rfl (aK rfl hE rfl (fun w hw=>aW (cs:=[(Iv x8.kind),(.string x8.text),(Iv x8.at_),(Iv x8.fin),jK]) bY (Hp.cN 2 rfl 0 _ (aS rfl) w hw))) fun a hE=>S hE 1 rfl fun a hE=>?_
 obtain⟨k6,k6a,k6d,k6h⟩:=(hp.get 0 rfl).lend
 obtain⟨x14,ex14,hm⟩:=bnd hm
 refine Cl hE rfl rfl ent17 (A8 x5 jJ (aH.mono (aH.mono (aH.mono (aH.mono (aH.mono (aH.mono (aH.mono Q3 hle6) hle7) hle8) (PH.le_un _ k3)) (PH.le_un _ k4)) hle9) (PH.le_un _ _)) x8 jK (aH.mono (aH.mono (aH.mono (aH.mono Q4 (PH.le_un _ k3)) (PH.le_un _ k4)) hle9) (PH.le_un _ _)) ([(Opn.mk 0 0),(Opn.mk 1 1),(Opn.mk 2 (-1)),(Opn.mk 3 (-1)),(Opn.mk 4 2)]:List Opn) (.slice (some ⟨b3,0,none⟩) 5 5) (aC.ro k6d k6a) k6h x14 ex14) ⟨rfl,rfl,rfl,trivial⟩ fun v a w hR hE=>?_
 obtain⟨rfl,hp⟩:=hR
 have hp:=Hp.back k6a k6d hp
 have hp:=r4 hp
 refine S hE 1 rfl fun a hE=>?_
 refine iL [_,_,_] (fun a w=>Env 124 [(67,(.bool (x14&&(decide (x9.2=0))))),(2,(Pv b2 0)),(3,(.slice (some ⟨b3,0,none⟩) 5 5)),(4,(Iv x9.1)),(6,vr11),(7,(Iv x10.2)),(8,vr13),(9,(Iv x11.2)),(10,vr15),(11,(Iv x12.2)),(12,(Iv x13.1)),(13,(.bool x13.2))] a∧Hp Z ρ9 (aC 46 (.slice (some ⟨b3,0,none⟩) 5 5) ([(Opn.mk 0 0),(Opn.mk 1 1),(Opn.mk 2 (-1)),(Opn.mk 3 (-1)),(Opn.mk 4 2)]:List Opn)::aC 46 vr15 x12.1::Pt b2 (.cells #[(Iv x8.kind),(.string x8.text),(Iv x8.at_),(Iv x8.fin),jK] 24 (0,0))::Pt b1 (.cells #[(Iv x5.kind),(.string x5.text),(Iv x5.at_),(Iv x5.fin),jJ] 24 (0,0))::L) w) ?_ ?_
 ·rcases Bool.eq_false_or_eq_true x14 with hc1|hc1
  ·
   refine Gs hE hc1 rfl rfl fun a hE=>Gs hE hc1 rfl rfl fun a hE=>pk1 hE hc1 rfl rfl rfl rfl fun a hE=>?_
   have hE:=hE.eqv (v':=(.bool (x14&&(decide (x9.2=0))))) (by rw[hc1];rfl)
   exact aB ⟨hE.cut ⟨rfl,rfl,rfl,rfl,rfl,rfl,rfl,rfl,rfl,rfl,rfl,rfl,trivial⟩,hp⟩
  refine Gk hE hc1 rfl fun a hE=>Gk hE hc1 rfl fun a hE=>pk0 hE hc1 rfl rfl rfl rfl fun a hE=>?_
  have hE:=hE.eqv (v':=(.bool (x14&&(decide (x9.2=0))))) (by rw[hc1];rfl)
  exact aB ⟨hE.cut ⟨rfl,rfl,rfl,rfl,rfl,rfl,rfl,rfl,rfl,rfl,rfl,rfl,trivial⟩,hp⟩
 rintro a w ⟨hE,hp⟩
 refine S hE 1 rfl fun a hE=>?_
 refine iL [_,_,_] (fun a w=>Env 124 [(71,(.bool ((x14&&(decide (x9.2=0)))&&(decide (x9.1=3))))),(2,(Pv b2 0)),(3,(.slice (some ⟨b3,0,none⟩) 5 5)),(6,vr11),(7,(Iv x10.2)),(8,vr13),(9,(Iv x11.2)),(10,vr15),(11,(Iv x12.2)),(12,(Iv x13.1)),(13,(.bool x13.2))] a∧Hp Z ρ9 (aC 46 (.slice (some ⟨b3,0,none⟩) 5 5) ([(Opn.mk 0 0),(Opn.mk 1 1),(Opn.mk 2 (-1)),(Opn.mk 3 (-1)),(Opn.mk 4 2)]:List Opn)::aC 46 vr15 x12.1::Pt b2 (.cells #[(Iv x8.kind),(.string x8.text),(Iv x8.at_),(Iv x8.fin),jK] 24 (0,0))::Pt b1 (.cells #[(Iv x5.kind),(.string x5.text),(Iv x5.at_),(Iv x5.fin),jJ] 24 (0,0))::L) w) ?_ ?_
 ·rcases Bool.eq_false_or_eq_true (x14&&(decide (x9.2=0))) with hc2|hc2
  ·
   refine Gs hE hc2 rfl rfl fun a hE=>Gs hE hc2 rfl rfl fun a hE=>pk1 hE hc2 rfl rfl rfl rfl fun a hE=>?_
   have hE:=hE.eqv (v':=(.bool ((x14&&(decide (x9.2=0)))&&(decide (x9.1=3))))) (by rw[hc2];rfl)
   exact aB ⟨hE.cut ⟨rfl,rfl,rfl,rfl,rfl,rfl,rfl,rfl,rfl,rfl,rfl,trivial⟩,hp⟩
  refine Gk hE hc2 rfl fun a hE=>Gk hE hc2 rfl fun a hE=>pk0 hE hc2 rfl rfl rfl rfl fun a hE=>?_
  have hE:=hE.eqv (v':=(.bool ((x14&&(decide (x9.2=0)))&&(decide (x9.1=3))))) (by rw[hc2];rfl)
  exact aB ⟨hE.cut ⟨rfl,rfl,rfl,rfl,rfl,rfl,rfl,rfl,rfl,rfl,rfl,trivial⟩,hp⟩
 rintro a w ⟨hE,hp⟩
 refine S hE 1 rfl fun a hE=>?_
 refine iL [_,_,_] (fun a w=>Env 124 [(75,(.bool (((x14&&(decide (x9.2=0)))&&(decide (x9.1=3)))&&(decide (x10.2=0))))),(2,(Pv b2 0)),(3,(.slice (some ⟨b3,0,none⟩) 5 5)),(6,vr11),(8,vr13),(9,(Iv x11.2)),(10,vr15),(11,(Iv x12.2)),(12,(Iv x13.1)),(13,(.bool x13.2))] a∧Hp Z ρ9 (aC 46 (.slice (some ⟨b3,0,none⟩) 5 5) ([(Opn.mk 0 0),(Opn.mk 1 1),(Opn.mk 2 (-1)),(Opn.mk 3 (-1)),(Opn.mk 4 2)]:List Opn)::aC 46 vr15 x12.1::Pt b2 (.cells #[(Iv x8.kind),(.string x8.text),(Iv x8.at_),(Iv x8.fin),jK] 24 (0,0))::Pt b1 (.cells #[(Iv x5.kind),(.string x5.text),(Iv x5.at_),(Iv x5.fin),jJ] 24 (0,0))::L) w) ?_ ?_
 ·rcases Bool.eq_false_or_eq_true ((x14&&(decide (x9.2=0)))&&(decide (x9.1=3))) with hc3|hc3
  ·
   refine Gs hE hc3 rfl rfl fun a hE=>Gs hE hc3 rfl rfl fun a hE=>pk1 hE hc3 rfl rfl rfl rfl fun a hE=>?_
   have hE:=hE.eqv (v':=(.bool (((x14&&(decide (x9.2=0)))&&(decide (x9.1=3)))&&(decide (x10.2=0))))) (by rw[hc3];rfl)
   exact aB ⟨hE.cut ⟨rfl,rfl,rfl,rfl,rfl,rfl,rfl,rfl,rfl,rfl,trivial⟩,hp⟩
  refine Gk hE hc3 rfl fun a hE=>Gk hE hc3 rfl fun a hE=>pk0 hE hc3 rfl rfl rfl rfl fun a hE=>?_
  have hE:=hE.eqv (v':=(.bool (((x14&&(decide (x9.2=0)))&&(decide (x9.1=3)))&&(decide (x10.2=0))))) (by rw[hc3];rfl)
  exact aB ⟨hE.cut ⟨rfl,rfl,rfl,rfl,rfl,rfl,rfl,rfl,rfl,rfl,trivial⟩,hp⟩
 rintro a w ⟨hE,hp⟩
 refine S hE 1 rfl fun a hE=>?_
 obtain⟨m1,hg1,hm⟩:=bnd hm
 refine iL [_,_,_,_,_,_,_] (fun a w=>Env 124 [(83,(.bool m1)),(2,(Pv b2 0)),(3,(.slice (some ⟨b3,0,none⟩) 5 5)),(8,vr13),(9,(Iv x11.2)),(10,vr15),(11,(Iv x12.2)),(12,(Iv x13.1)),(13,(.bool x13.2))] a∧Hp Z ρ9 (aC 46 (.slice (some ⟨b3,0,none⟩) 5 5) ([(Opn.mk 0 0),(Opn.mk 1 1),(Opn.mk 2 (-1)),(Opn.mk 3 (-1)),(Opn.mk 4 2)]:List Opn)::aC 46 vr15 x12.1::Pt b2 (.cells #[(Iv x8.kind),(.string x8.text),(Iv x8.at_),(Iv x8.fin),jK] 24 (0,0))::Pt b1 (.cells #[(Iv x5.kind),(.string x5.text),(Iv x5.at_),(Iv x5.fin),jJ] 24 (0,0))::L) w) ?_ ?_
 ·rcases Bool.eq_false_or_eq_true (((x14&&(decide (x9.2=0)))&&(decide (x9.1=3)))&&(decide (x10.2=0))) with hc4|hc4
  ·
   replace hg1:=(it hc4).symm.trans hg1
   refine Gs hE hc4 rfl rfl fun a hE=>G hE hp hc4 rfl (v:=(.agg #[(Iv 0),(Iv 0),(Iv 0),(Iv 0),(Iv 29),(.string (ByteArray.mk #[42]))])) (lW rfl hE [(0,(Iv 0)),(4,(Iv 29)),(5,(.string (ByteArray.mk #[42])))] (by exact⟨⟨rfl,rfl⟩,⟨rfl,rfl⟩,⟨rfl,rfl⟩,trivial⟩) (fun w=>by simp[Instr.build,Instr.fill,Value.cells,go_sem])) fun a hE=>G hE hp hc4 rfl (v:=(.agg #[(Iv 1),(Iv 3),(Iv 0),(Iv 0),(Iv 0),(.string ByteArray.empty)])) (lW rfl hE [(0,(Iv 1)),(1,(Iv 3))] (by exact⟨⟨rfl,rfl⟩,⟨rfl,rfl⟩,trivial⟩) (fun w=>by simp[Instr.build,Instr.fill,Value.cells,go_sem]<;>rfl)) fun a hE=>G hE hp hc4 rfl (v:=(.agg #[(Iv 1),(Iv 2),(Iv 0),(Iv 0),(Iv 0),(.string ByteArray.empty)])) (lW rfl hE [(0,(Iv 1)),(1,(Iv 2))] (by exact⟨⟨rfl,rfl⟩,⟨rfl,rfl⟩,trivial⟩) (fun w=>by simp[Instr.build,Instr.fill,Value.cells,go_sem]<;>rfl)) fun a hE=>?_
   refine fP (wk1 hE rfl rfl rfl hc4) rfl rfl hE hp rfl [(0,(.agg #[(Iv 0),(Iv 0),(Iv 0),(Iv 0),(Iv 29),(.string (ByteArray.mk #[42]))])),(1,(.agg #[(Iv 1),(Iv 3),(Iv 0),(Iv 0),(Iv 0),(.string ByteArray.empty)])),(2,(.agg #[(Iv 1),(Iv 2),(Iv 0),(Iv 0),(Iv 0),(.string ByteArray.empty)]))] ⟨⟨rfl,rfl⟩,⟨rfl,rfl⟩,⟨rfl,rfl⟩,trivial⟩ [(Iv 0),(Iv 0),(Iv 0),(Iv 0),(Iv 29),(.string (ByteArray.mk #[42])),(Iv 1),(Iv 3),(Iv 0),(Iv 0),(Iv 0),(.string ByteArray.empty),(Iv 1),(Iv 2),(Iv 0),(Iv 0),(Iv 0),(.string ByteArray.empty)] 58 (fun w=>by simp[Instr.buildSlice,Instr.fill,Value.cells,go_sem]) ?_
   intro a w b5 hE hp
   have hp:=r5 hp
   have hp:=(hp.get 0 rfl).imp (qQ (l:=(([(Chg.mk 0 0 0 0 29 (ByteArray.mk #[42])),(Chg.mk 1 3 0 0 0 ByteArray.empty),(Chg.mk 1 2 0 0 0 ByteArray.empty)]:List Chg):List Chg)) (n:=3) rfl (by decide) rfl)
   have hp:=r5 hp
   obtain⟨k7,k7a,k7d,k7h⟩:=(hp.get 0 rfl).lend
   obtain⟨x15,ex15,hg1⟩:=bnd hg1
   refine Cg hE hc4 rfl rfl ent19 (zI x10.1 vr11 (aH.mono (aH.mono f2 hle9) (PH.le_un _ _)) ([(Chg.mk 0 0 0 0 29 (ByteArray.mk #[42])),(Chg.mk 1 3 0 0 0 ByteArray.empty),(Chg.mk 1 2 0 0 0 ByteArray.empty)]:List Chg) (.slice (some ⟨b5,0,none⟩) 3 3) (aC.ro k7d k7a) k7h x15 ex15) ⟨rfl,rfl,trivial⟩ fun v a w hR hE=>?_
   obtain⟨rfl,hp⟩:=hR
   have hp:=Hp.back k7a k7d hp
   have hp:=r5 hp
   refine pk1 hE hc4 rfl rfl rfl rfl fun a hE=>?_
   obtain rfl:=oj hg1
   exact aB ⟨hE.cut ⟨rfl,rfl,rfl,rfl,rfl,rfl,rfl,rfl,rfl,trivial⟩,(hp.drop)⟩
  replace hg1:=(ie hc4).symm.trans hg1
  refine Gk hE hc4 rfl fun a hE=>Gk hE hc4 rfl fun a hE=>Gk hE hc4 rfl fun a hE=>Gk hE hc4 rfl fun a hE=>Gk hE hc4 rfl fun a hE=>Gk hE hc4 rfl fun a hE=>pk0 hE hc4 rfl rfl rfl rfl fun a hE=>?_
  obtain rfl:=oj hg1
  exact aB ⟨hE.cut ⟨rfl,rfl,rfl,rfl,rfl,rfl,rfl,rfl,rfl,trivial⟩,hp⟩
 rintro a w ⟨hE,hp⟩
 refine S hE 1 rfl fun a hE=>?_
 refine iL [_,_,_] (fun a w=>Env 124 [(87,(.bool (m1&&(decide (x11.2=0))))),(2,(Pv b2 0)),(3,(.slice (some ⟨b3,0,none⟩) 5 5)),(8,vr13),(10,vr15),(11,(Iv x12.2)),(12,(Iv x13.1)),(13,(.bool x13.2))] a∧Hp Z ρ9 (aC 46 (.slice (some ⟨b3,0,none⟩) 5 5) ([(Opn.mk 0 0),(Opn.mk 1 1),(Opn.mk 2 (-1)),(Opn.mk 3 (-1)),(Opn.mk 4 2)]:List Opn)::aC 46 vr15 x12.1::Pt b2 (.cells #[(Iv x8.kind),(.string x8.text),(Iv x8.at_),(Iv x8.fin),jK] 24 (0,0))::Pt b1 (.cells #[(Iv x5.kind),(.string x5.text),(Iv x5.at_),(Iv x5.fin),jJ] 24 (0,0))::L) w) ?_ ?_
 ·rcases Bool.eq_false_or_eq_true m1 with hc5|hc5
  ·
   refine Gs hE hc5 rfl rfl fun a hE=>Gs hE hc5 rfl rfl fun a hE=>pk1 hE hc5 rfl rfl rfl rfl fun a hE=>?_
   have hE:=hE.eqv (v':=(.bool (m1&&(decide (x11.2=0))))) (by rw[hc5];rfl)
   exact aB ⟨hE.cut ⟨rfl,rfl,rfl,rfl,rfl,rfl,rfl,rfl,trivial⟩,hp⟩
  refine Gk hE hc5 rfl fun a hE=>Gk hE hc5 rfl fun a hE=>pk0 hE hc5 rfl rfl rfl rfl fun a hE=>?_
  have hE:=hE.eqv (v':=(.bool (m1&&(decide (x11.2=0))))) (by rw[hc5];rfl)
  exact aB ⟨hE.cut ⟨rfl,rfl,rfl,rfl,rfl,rfl,rfl,rfl,trivial⟩,hp⟩
 rintro a w ⟨hE,hp⟩
 refine S hE 1 rfl fun a hE=>?_
 obtain⟨m2,hg2,hm⟩:=bnd hm
 refine iL [_,_,_,_,_] (fun a w=>Env 124 [(93,(.bool m2)),(3,(.slice (some ⟨b3,0,none⟩) 5 5)),(10,vr15),(11,(Iv x12.2)),(12,(Iv x13.1)),(13,(.bool x13.2))] a∧Hp Z ρ9 (aC 46 (.slice (some ⟨b3,0,none⟩) 5 5) ([(Opn.mk 0 0),(Opn.mk 1 1),(Opn.mk 2 (-1)),(Opn.mk 3 (-1)),(Opn.mk 4 2)]:List Opn)::aC 46 vr15 x12.1::Pt b2 (.cells #[(Iv x8.kind),(.string x8.text),(Iv x8.at_),(Iv x8.fin),jK] 24 (0,0))::Pt b1 (.cells #[(Iv x5.kind),(.string x5.text),(Iv x5.at_),(Iv x5.fin),jJ] 24 (0,0))::L) w) ?_ ?_
 ·rcases Bool.eq_false_or_eq_true (m1&&(decide (x11.2=0))) with hc6|hc6
  ·
   replace hg2:=(it hc6).symm.trans hg2
   refine Gs hE hc6 rfl rfl fun a hE=>G hE hp hc6 rfl (aK rfl hE rfl (fun w hw=>aW (cs:=[(Iv x8.kind),(.string x8.text),(Iv x8.at_),(Iv x8.fin),jK]) bY (Hp.cN 2 rfl 0 _ (aS rfl) w hw))) fun a hE=>?_
   refine fP (wk1 hE rfl rfl rfl hc6) rfl rfl hE hp rfl [(0,(.agg #[(Iv x8.kind),(.string x8.text),(Iv x8.at_),(Iv x8.fin),jK]))] ⟨⟨rfl,rfl⟩,trivial⟩ [(Iv x8.kind),(.string x8.text),(Iv x8.at_),(Iv x8.fin),jK] 24 (fun w=>by have hc0:=aH.cells (aH.mono (aH.mono (aH.mono Q4 (PH.le_un _ k3)) (PH.le_un _ k4)) hle9);simp only[Value.cells] at hc0;simp[Instr.buildSlice,Instr.fill,Value.cells,hc0,go_sem]) ?_
   intro a w b6 hE hp
   have hp:=r5 hp
   obtain⟨k8,k8a,k8d,hp⟩:=(hp.get 0 rfl).lend
   have f3:aH (ρ9.un k8) (.slice (some ⟨b6,0,none⟩) 1 1) ([x8]:List Node):=aH.of_all (l:=(([x8]:List Node))) k8d k8a ⟨_,_,rfl,(show NodeAt (ρ9.un k8) x8 [(Iv x8.kind),(.string x8.text),(Iv x8.at_),(Iv x8.fin),jK] from NodeAt.shutv ((aH.mono (aH.mono (aH.mono (aH.mono Q4 (PH.le_un _ k3)) (PH.le_un _ k4)) hle9) (PH.le_un _ k8)))),rfl⟩
   have hp:=r4 hp
   obtain⟨x16,ex16,hg2⟩:=bnd hg2
   refine Cg hE hc6 rfl rfl ent25 (Y3 x11.1 vr13 (aH.mono hr13 (PH.le_un _ k8)) ([x8]:List Node) (.slice (some ⟨b6,0,none⟩) 1 1) f3 hp x16 ex16) ⟨rfl,rfl,trivial⟩ fun v a w hR hE=>?_
   obtain⟨rfl,hp⟩:=hR
   have hp:=r4 hp
   refine pk1 hE hc6 rfl rfl rfl rfl fun a hE=>?_
   obtain rfl:=oj hg2
   exact aB ⟨hE.cut ⟨rfl,rfl,rfl,rfl,rfl,rfl,trivial⟩,(hp.less (PH.le_un _ k8))⟩
  replace hg2:=(ie hc6).symm.trans hg2
  refine Gk hE hc6 rfl fun a hE=>Gk hE hc6 rfl fun a hE=>Gk hE hc6 rfl fun a hE=>Gk hE hc6 rfl fun a hE=>pk0 hE hc6 rfl rfl rfl rfl fun a hE=>?_
  obtain rfl:=oj hg2
  exact aB ⟨hE.cut ⟨rfl,rfl,rfl,rfl,rfl,rfl,trivial⟩,hp⟩
 rintro a w ⟨hE,hp⟩
 refine S hE 1 rfl fun a hE=>?_
 refine iL [_,_,_] (fun a w=>Env 124 [(97,(.bool (m2&&(decide (x12.2=0))))),(3,(.slice (some ⟨b3,0,none⟩) 5 5)),(10,vr15),(12,(Iv x13.1)),(13,(.bool x13.2))] a∧Hp Z ρ9 (aC 46 (.slice (some ⟨b3,0,none⟩) 5 5) ([(Opn.mk 0 0),(Opn.mk 1 1),(Opn.mk 2 (-1)),(Opn.mk 3 (-1)),(Opn.mk 4 2)]:List Opn)::aC 46 vr15 x12.1::Pt b2 (.cells #[(Iv x8.kind),(.string x8.text),(Iv x8.at_),(Iv x8.fin),jK] 24 (0,0))::Pt b1 (.cells #[(Iv x5.kind),(.string x5.text),(Iv x5.at_),(Iv x5.fin),jJ] 24 (0,0))::L) w) ?_ ?_
 ·rcases Bool.eq_false_or_eq_true m2 with hc7|hc7
  ·
   refine Gs hE hc7 rfl rfl fun a hE=>Gs hE hc7 rfl rfl fun a hE=>pk1 hE hc7 rfl rfl rfl rfl fun a hE=>?_
   have hE:=hE.eqv (v':=(.bool (m2&&(decide (x12.2=0))))) (by rw[hc7];rfl)
   exact aB ⟨hE.cut ⟨rfl,rfl,rfl,rfl,rfl,trivial⟩,hp⟩
  refine Gk hE hc7 rfl fun a hE=>Gk hE hc7 rfl fun a hE=>pk0 hE hc7 rfl rfl rfl rfl fun a hE=>?_
  have hE:=hE.eqv (v':=(.bool (m2&&(decide (x12.2=0))))) (by rw[hc7];rfl)
  exact aB ⟨hE.cut ⟨rfl,rfl,rfl,rfl,rfl,trivial⟩,hp⟩
 rintro a w ⟨hE,hp⟩
 refine S hE 1 rfl fun a hE=>?_
 refine iL [_,_,_,_] (fun a w=>Env 124 [(102,(.bool ((m2&&(decide (x12.2=0)))&&(decide (0<(x12.1.length:Int)))))),(3,(.slice (some ⟨b3,0,none⟩) 5 5)),(12,(Iv x13.1)),(13,(.bool x13.2))] a∧Hp Z ρ9 (aC 46 (.slice (some ⟨b3,0,none⟩) 5 5) ([(Opn.mk 0 0),(Opn.mk 1 1),(Opn.mk 2 (-1)),(Opn.mk 3 (-1)),(Opn.mk 4 2)]:List Opn)::aC 46 vr15 x12.1::Pt b2 (.cells #[(Iv x8.kind),(.string x8.text),(Iv x8.at_),(Iv x8.fin),jK] 24 (0,0))::Pt b1 (.cells #[(Iv x5.kind),(.string x5.text),(Iv x5.at_),(Iv x5.fin),jJ] 24 (0,0))::L) w) ?_ ?_
 ·rcases Bool.eq_false_or_eq_true (m2&&(decide (x12.2=0))) with hc8|hc8
  ·
   refine Gs hE hc8 rfl rfl fun a hE=>G hE hp hc8 rfl (bT rfl hE rfl (aC.len hp 1 rfl dW)) fun a hE=>Gs hE hc8 rfl rfl fun a hE=>pk1 hE hc8 rfl rfl rfl rfl fun a hE=>?_
   have hE:=hE.eqv (v':=(.bool ((m2&&(decide (x12.2=0)))&&(decide (0<(x12.1.length:Int)))))) (by rw[hc8];rfl)
   exact aB ⟨hE.cut ⟨rfl,rfl,rfl,rfl,trivial⟩,hp⟩
  refine Gk hE hc8 rfl fun a hE=>Gk hE hc8 rfl fun a hE=>Gk hE hc8 rfl fun a hE=>pk0 hE hc8 rfl rfl rfl rfl fun a hE=>?_
  have hE:=hE.eqv (v':=(.bool ((m2&&(decide (x12.2=0)))&&(decide (0<(x12.1.length:Int)))))) (by rw[hc8];rfl)
  exact aB ⟨hE.cut ⟨rfl,rfl,rfl,rfl,trivial⟩,hp⟩
 rintro a w ⟨hE,hp⟩
 refine S hE 1 rfl fun a hE=>?_
 refine iL [_,_] (fun a w=>Env 124 [(105,(.bool (((m2&&(decide (x12.2=0)))&&(decide (0<(x12.1.length:Int))))&&x13.2))),(3,(.slice (some ⟨b3,0,none⟩) 5 5)),(12,(Iv x13.1))] a∧Hp Z ρ9 (aC 46 (.slice (some ⟨b3,0,none⟩) 5 5) ([(Opn.mk 0 0),(Opn.mk 1 1),(Opn.mk 2 (-1)),(Opn.mk 3 (-1)),(Opn.mk 4 2)]:List Opn)::aC 46 vr15 x12.1::Pt b2 (.cells #[(Iv x8.kind),(.string x8.text),(Iv x8.at_),(Iv x8.fin),jK] 24 (0,0))::Pt b1 (.cells #[(Iv x5.kind),(.string x5.text),(Iv x5.at_),(Iv x5.fin),jJ] 24 (0,0))::L) w) ?_ ?_
 ·rcases Bool.eq_false_or_eq_true ((m2&&(decide (x12.2=0)))&&(decide (0<(x12.1.length:Int)))) with hc9|hc9
  ·
   refine Gs hE hc9 rfl rfl fun a hE=>pk1 hE hc9 rfl rfl rfl rfl fun a hE=>?_
   have hE:=hE.eqv (v':=(.bool (((m2&&(decide (x12.2=0)))&&(decide (0<(x12.1.length:Int))))&&x13.2))) (by rw[hc9];rfl)
   exact aB ⟨hE.cut ⟨rfl,rfl,rfl,trivial⟩,hp⟩
  refine Gk hE hc9 rfl fun a hE=>pk0 hE hc9 rfl rfl rfl rfl fun a hE=>?_
  have hE:=hE.eqv (v':=(.bool (((m2&&(decide (x12.2=0)))&&(decide (0<(x12.1.length:Int))))&&x13.2))) (by rw[hc9];rfl)
  exact aB ⟨hE.cut ⟨rfl,rfl,rfl,trivial⟩,hp⟩
 rintro a w ⟨hE,hp⟩
 refine S hE 1 rfl fun a hE=>?_
 refine iL [_,_,_] (fun a w=>Env 124 [(109,(.bool ((((m2&&(decide (x12.2=0)))&&(decide (0<(x12.1.length:Int))))&&x13.2)&&(decide (x13.1=2))))),(3,(.slice (some ⟨b3,0,none⟩) 5 5))] a∧Hp Z ρ9 (aC 46 (.slice (some ⟨b3,0,none⟩) 5 5) ([(Opn.mk 0 0),(Opn.mk 1 1),(Opn.mk 2 (-1)),(Opn.mk 3 (-1)),(Opn.mk 4 2)]:List Opn)::aC 46 vr15 x12.1::Pt b2 (.cells #[(Iv x8.kind),(.string x8.text),(Iv x8.at_),(Iv x8.fin),jK] 24 (0,0))::Pt b1 (.cells #[(Iv x5.kind),(.string x5.text),(Iv x5.at_),(Iv x5.fin),jJ] 24 (0,0))::L) w) ?_ ?_
 ·rcases Bool.eq_false_or_eq_true (((m2&&(decide (x12.2=0)))&&(decide (0<(x12.1.length:Int))))&&x13.2) with hc10|hc10
  ·
   refine Gs hE hc10 rfl rfl fun a hE=>Gs hE hc10 rfl rfl fun a hE=>pk1 hE hc10 rfl rfl rfl rfl fun a hE=>?_
   have hE:=hE.eqv (v':=(.bool ((((m2&&(decide (x12.2=0)))&&(decide (0<(x12.1.length:Int))))&&x13.2)&&(decide (x13.1=2))))) (by rw[hc10];rfl)
   exact aB ⟨hE.cut ⟨rfl,rfl,trivial⟩,hp⟩
  refine Gk hE hc10 rfl fun a hE=>Gk hE hc10 rfl fun a hE=>pk0 hE hc10 rfl rfl rfl rfl fun a hE=>?_
  have hE:=hE.eqv (v':=(.bool ((((m2&&(decide (x12.2=0)))&&(decide (0<(x12.1.length:Int))))&&x13.2)&&(decide (x13.1=2))))) (by rw[hc10];rfl)
  exact aB ⟨hE.cut ⟨rfl,rfl,trivial⟩,hp⟩
 rintro a w ⟨hE,hp⟩
 refine S hE 1 rfl fun a hE=>?_
 obtain⟨m3,hg3,hm⟩:=bnd hm
 refine iL [_,_,_,_,_] (fun a w=>Env 124 [(115,(.bool m3)),(3,(.slice (some ⟨b3,0,none⟩) 5 5))] a∧Hp Z ρ9 (aC 46 (.slice (some ⟨b3,0,none⟩) 5 5) ([(Opn.mk 0 0),(Opn.mk 1 1),(Opn.mk 2 (-1)),(Opn.mk 3 (-1)),(Opn.mk 4 2)]:List Opn)::aC 46 vr15 x12.1::Pt b2 (.cells #[(Iv x8.kind),(.string x8.text),(Iv x8.at_),(Iv x8.fin),jK] 24 (0,0))::Pt b1 (.cells #[(Iv x5.kind),(.string x5.text),(Iv x5.at_),(Iv x5.fin),jJ] 24 (0,0))::L) w) ?_ ?_
 ·rcases Bool.eq_false_or_eq_true ((((m2&&(decide (x12.2=0)))&&(decide (0<(x12.1.length:Int))))&&x13.2)&&(decide (x13.1=2))) with hc11|hc11
  ·
   replace hg3:=(it hc11).symm.trans hg3
   refine Gs hE hc11 rfl rfl fun a hE=>?_
   obtain⟨k9,k9a,k9d,k9h⟩:=(hp.get 0 rfl).lend
   obtain⟨x17,ex17,hg3⟩:=bnd hg3
   refine s_call (wk1 hE rfl rfl rfl hc11) rfl rfl hE rfl [(.slice (some ⟨b3,0,none⟩) 5 5)] ⟨rfl,trivial⟩ ent26 (aD9 ([(Opn.mk 0 0),(Opn.mk 1 1),(Opn.mk 2 (-1)),(Opn.mk 3 (-1)),(Opn.mk 4 2)]:List Opn) (.slice (some ⟨b3,0,none⟩) 5 5) (aC.ro k9d k9a) k9h x17 ex17) Ret.ret ?_
   intro vr22 a w hR hE
   obtain⟨u,rfl,hp⟩:=Ret.of hR
   have hp:=Hp.back k9a k9d hp
   have hp:=r5 hp
   refine G hE hp hc11 rfl (bT rfl hE rfl (aC.len hp 1 rfl dW)) fun a hE=>Gs hE hc11 rfl rfl fun a hE=>pk1 hE hc11 rfl rfl rfl rfl fun a hE=>?_
   obtain rfl:=oj hg3
   exact aB ⟨hE.cut ⟨rfl,rfl,trivial⟩,((hp.get 1 rfl).drop)⟩
  replace hg3:=(ie hc11).symm.trans hg3
  refine Gk hE hc11 rfl fun a hE=>Gk hE hc11 rfl fun a hE=>Gk hE hc11 rfl fun a hE=>Gk hE hc11 rfl fun a hE=>pk0 hE hc11 rfl rfl rfl rfl fun a hE=>?_
  obtain rfl:=oj hg3
  exact aB ⟨hE.cut ⟨rfl,rfl,trivial⟩,hp⟩
 rintro a w ⟨hE,hp⟩
 refine S hE 1 rfl fun a hE=>?_
 obtain⟨m4,hg4,hm⟩:=bnd hm
 refine iL [_,_,_,_,_,_,_] (fun a w=>Env 124 [(123,(.bool m4))] a∧Hp Z ρ9 (aC 46 (.slice (some ⟨b3,0,none⟩) 5 5) ([(Opn.mk 0 0),(Opn.mk 1 1),(Opn.mk 2 (-1)),(Opn.mk 3 (-1)),(Opn.mk 4 2)]:List Opn)::aC 46 vr15 x12.1::Pt b2 (.cells #[(Iv x8.kind),(.string x8.text),(Iv x8.at_),(Iv x8.fin),jK] 24 (0,0))::Pt b1 (.cells #[(Iv x5.kind),(.string x5.text),(Iv x5.at_),(Iv x5.fin),jJ] 24 (0,0))::L) w) ?_ ?_
 ·rcases Bool.eq_false_or_eq_true m3 with hc12|hc12
  ·
   replace hg4:=(it hc12).symm.trans hg4
   refine Gs hE hc12 rfl rfl fun a hE=>Gs hE hc12 rfl rfl fun a hE=>?_
   obtain⟨k10,k10a,k10d,k10h⟩:=(hp.get 0 rfl).lend
   obtain⟨x18,ex18,hg4⟩:=bnd hg4
   refine s_call (wk1 hE rfl rfl rfl hc12) rfl rfl hE rfl [(.slice (some ⟨b3,0,none⟩) 5 5)] ⟨rfl,trivial⟩ ent26 (aD9 ([(Opn.mk 0 0),(Opn.mk 1 1),(Opn.mk 2 (-1)),(Opn.mk 3 (-1)),(Opn.mk 4 2)]:List Opn) (.slice (some ⟨b3,0,none⟩) 5 5) (aC.ro k10d k10a) k10h x18 ex18) Ret.ret ?_
   intro vr23 a w hR hE
   obtain⟨u,rfl,hp⟩:=Ret.of hR
   have hp:=Hp.back k10a k10d hp
   have hp:=r5 hp
   obtain⟨k11,k11a,k11d,k11h⟩:=(hp.get 0 rfl).lend
   obtain⟨k12,k12a,k12d,k12h⟩:=(k11h.get 0 rfl).lend
   obtain⟨x19,ex19,hg4⟩:=bnd hg4
   refine s_call (wk1 hE rfl rfl rfl hc12) rfl rfl hE rfl [(.slice (some ⟨b3,0,none⟩) 5 5),vr23] ⟨rfl,rfl,trivial⟩ ent29 (c_align_Compose ([(Opn.mk 0 0),(Opn.mk 1 1),(Opn.mk 2 (-1)),(Opn.mk 3 (-1)),(Opn.mk 4 2)]:List Opn) (.slice (some ⟨b3,0,none⟩) 5 5) (aH.mono (aC.ro k11d k11a) (PH.le_un _ _)) x18 vr23 (aC.ro k12d k12a) k12h x19 ex19) Ret.ret ?_
   intro vr24 a w hR hE
   obtain⟨u,rfl,hp⟩:=Ret.of hR
   have hp:=Hp.back k12a k12d hp
   have hp:=Hp.back k11a k11d hp
   have hp:=r6 hp
   refine G hE hp hc12 rfl (bT rfl hE rfl (aC.len hp 2 rfl dW)) fun a hE=>Gs hE hc12 rfl rfl fun a hE=>pk1 hE hc12 rfl rfl rfl rfl fun a hE=>?_
   obtain rfl:=oj hg4
   exact aB ⟨hE.cut ⟨rfl,trivial⟩,((((hp.get 2 rfl).drop).get 1 rfl).drop)⟩
  replace hg4:=(ie hc12).symm.trans hg4
  refine Gk hE hc12 rfl fun a hE=>Gk hE hc12 rfl fun a hE=>Gk hE hc12 rfl fun a hE=>Gk hE hc12 rfl fun a hE=>Gk hE hc12 rfl fun a hE=>Gk hE hc12 rfl fun a hE=>pk0 hE hc12 rfl rfl rfl rfl fun a hE=>?_
  obtain rfl:=oj hg4
  exact aB ⟨hE.cut ⟨rfl,trivial⟩,hp⟩
 rintro a w ⟨hE,hp⟩
 refine S hE 1 rfl fun a hE=>aB (bZ ?_)
 obtain rfl:=oj hm
 exact gJ hE rfl rfl ⟨_,rfl,rfl,((((((((((((((((((hp.get 3 rfl).drop).get 2 rfl).drop).get 1 rfl).drop).drop).less hle9).less (PH.le_un _ k4)).less (PH.le_un _ k3)).less hle8).less hle7).less hle6).less hle5).less hle4).less hle3).less hle2).less hle1)⟩
end Go.Proofs.YtopnldfjcciieaaGreat

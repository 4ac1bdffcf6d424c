/- The code goes as its model: assessor/assessorlaw38.AlignUndoes. (Printed by wip/sp/gen.py.) -/
import Derived.Test.YtopnldfjcciieaaGreatKUnT
import Derived.Test.YtopnldfjcciieaaGreatKUn4
import Derived.Test.YtopnldfjcciieaaGreatKUn5
import Derived.Test.YtopnldfjcciieaaGreatKUn23
import Derived.Test.YtopnldfjcciieaaGreatKUn2
import Derived.Test.YtopnldfjcciieaaGreatKUn3
import Derived.Test.YtopnldfjcciieaaGreatKUn6
set_option linter.unusedVariables false
set_option linter.unusedSimpArgs false
set_option maxRecDepth 100000
set_option maxHeartbeats 4000000
namespace Go.Proofs.YtopnldfjcciieaaGreat
open Go.RowKit
theorem c_assessorlaw38_AlignUndoes {Z:World} {ρ:PH} {L:List bI} {w:World} (p0:(List Node)) (vp0:Value) (hp0:aH ρ vp0 p0) (p1:Chg) (hp:Hp Z ρ (L) w) (r:Bool) (hm:lM p0 p1=some r):
  Calls Tryz.prog 9 #[vp0,(.agg #[(Iv p1.op),(Iv p1.node),(Iv p1.index),(Iv p1.count),(Iv p1.kind),(.string p1.text)])] w (Ret fun v w'=>v=(.bool r)∧Hp Z ρ (L) w'):=by
 refine enter (N:=159) Tryz.func9 rfl rfl [(0,vp0),(1,(.agg #[(Iv p1.op),(Iv p1.node),(Iv p1.index),(Iv p1.count),(Iv p1.kind),(.string p1.text)]))] rfl (aY ⟨rfl,rfl,trivial⟩) fun a hE=>?_
 unfold lM at hm
 refine aF (aA ?_)
 refine iV (wk0 rfl) rfl rfl hE hp rfl (v:=(.agg #[(Iv p1.op),(Iv p1.node),(Iv p1.index),(Iv p1.count),(Iv p1.kind),(.string p1.text)])) rfl ?_
 intro a w b1 hE hp
 have hp:=r1 hp
 refine S hE 1 rfl fun a hE=>aB (aF ?_)
 refine aF (aA ?_)
 obtain⟨x1,ex1,hm⟩:=bnd hm
 refine Cl hE rfl rfl ent10 (aA5 hp x1 ex1) trivial fun v a w hR hE=>?_
 obtain⟨rfl,hp⟩:=hR
 have hp:=r1 hp
 refine S hE 1 rfl fun a hE=>aB ?_
 refine dI hE rfl (fun hc1=>?_) (fun hc1=>?_)
 ·replace hm:=(it hc1).symm.trans hm
  refine aF (aA ?_)
  refine S hE 1 rfl fun a hE=>aB (dD ?_)
  obtain rfl:=oj hm
  exact gK hE rfl rfl ⟨_,rfl,rfl,(hp.drop)⟩
 replace hm:=(ie hc1).symm.trans hm
 refine bC (aF ?_)
 refine aF (aA ?_)
 refine S hE 1 rfl fun a hE=>V hE hp rfl (dB rfl hE rfl (aH.len hp0 gI)) fun a hE=>S hE 2 rfl fun a hE=>?_
 refine jE [_,_,_,_,_] (fun a w=>Env 159 [(31,(.bool ((decide (4<(p0.length:Int)))||(decide (40<(p1.text.size:Int)))))),(0,vp0),(3,(Pv b1 0))] a∧Hp Z ρ (Pt b1 (.cells #[(Iv p1.op),(Iv p1.node),(Iv p1.index),(Iv p1.count),(Iv p1.kind),(.string p1.text)] 58 (0,0))::L) w) ?_ ?_
 ·rcases Bool.eq_false_or_eq_true (decide (4<(p0.length:Int))) with hc2|hc2
  ·
   refine Gk hE hc2 rfl fun a hE=>Gk hE hc2 rfl fun a hE=>Gk hE hc2 rfl fun a hE=>Gk hE hc2 rfl fun a hE=>pk1 hE hc2 rfl rfl rfl rfl fun a hE=>?_
   have hE:=hE.eqv (v':=(.bool ((decide (4<(p0.length:Int)))||(decide (40<(p1.text.size:Int)))))) (by rw[hc2];rfl)
   exact aB ⟨hE.cut ⟨rfl,rfl,rfl,trivial⟩,hp⟩
  refine G hE hp hc2 rfl (xf hE fldty58_5 rfl rfl) fun a hE=>G hE hp hc2 rfl (xl hE U5 0 rfl rfl rfl rfl) fun a hE=>G hE hp hc2 rfl (v:=(Iv (p1.text.size:Int))) (ex_slen sty9 rfl hE rfl) fun a hE=>Gs hE hc2 rfl rfl fun a hE=>pk0 hE hc2 rfl rfl rfl rfl fun a hE=>?_
  have hE:=hE.eqv (v':=(.bool ((decide (4<(p0.length:Int)))||(decide (40<(p1.text.size:Int)))))) (by rw[hc2];rfl)
  exact aB ⟨hE.cut ⟨rfl,rfl,rfl,trivial⟩,hp⟩
 rintro a w ⟨hE,hp⟩
 refine aB ?_
 refine dI hE rfl (fun hc3=>?_) (fun hc3=>?_)
 ·replace hm:=(it hc3).symm.trans hm
  refine aF (aA ?_)
  refine S hE 1 rfl fun a hE=>aB (dD ?_)
  obtain rfl:=oj hm
  exact gK hE rfl rfl ⟨_,rfl,rfl,(hp.drop)⟩
 replace hm:=(ie hc3).symm.trans hm
 refine bC (aF ?_)
 refine aA (S hE 1 rfl fun a hE=>?_)
 refine aB (aF ?_)
 refine aF (aA ?_)
 refine S hE 1 rfl fun a hE=>V hE hp rfl (dB rfl hE rfl (aH.len hp0 gI)) fun a hE=>S hE 1 rfl fun a hE=>aB ?_
 obtain⟨b2,hc4,hm⟩:=bnd hm
 refine dJ (fun a w=>∃s:Int,b2= .brk s∧(Env 159 [(0,vp0),(3,(Pv b1 0)),(5,(Iv s))] a∧Hp Z ρ (Pt b1 (.cells #[(Iv p1.op),(Iv p1.node),(Iv p1.index),(Iv p1.count),(Iv p1.kind),(.string p1.text)] 58 (0,0))::L) w)) ?_ ?_
 ·refine dY hc4 (fun s a w=>Env 159 [(0,vp0),(3,(Pv b1 0)),(5,(Iv s.1)),(32,vp0),(33,(Iv (p0.length:Int))),(34,(Iv s.2))] a∧Hp Z ρ (Pt b1 (.cells #[(Iv p1.op),(Iv p1.node),(Iv p1.index),(Iv p1.count),(Iv p1.kind),(.string p1.text)] 58 (0,0))::L) w) ?_ ?_
  ·exact⟨hE.cut ⟨rfl,rfl,rfl,rfl,rfl,rfl,trivial⟩,hp⟩
  rintro⟨aQ,aT⟩ st a w ⟨hE,hp⟩ hl1
  dsimp only at hE hp hl1
  unfold fV at hl1
  refine aF (aA ?_)
  refine S hE 1 rfl fun a hE=>aB (aF ?_)
  refine dI hE rfl (fun hc5=>?_) (fun hc5=>?_)
  ·replace hl1:=(it hc5).symm.trans hl1
   refine bC (aF ?_)
   refine dN (aF ?_)
   refine aA ?_
   obtain⟨x2,ex2,hl1⟩:=bnd hl1
   obtain⟨b3,b3o,b3c,b3r,b3k,b3f⟩:=aH.at hp0 gI ex2
   obtain⟨fA,rfl,nC⟩:=NodeAt.opens b3k
   have b3f:AtP ρ b3 b3o [(Iv x2.kind),(.string x2.text),(Iv x2.at_),(Iv x2.fin),fA]:=b3f
   refine V hE hp rfl (aO rfl hE rfl rfl b3r) fun a hE=>V hE hp rfl (aJ rfl hE rfl (fun w hw=>aW (cs:=[(Iv x2.kind),(.string x2.text),(Iv x2.at_),(Iv x2.fin),fA]) bV (fun j u hj=>cell_of hw.le (b3f j u hj)))) fun a hE=>?_
   refine dH (wk0 rfl) rfl rfl hE hp rfl [(Iv 0),(.string ByteArray.empty),(Iv 0),(Iv 0),N0] (fun w=>by simp[Instr.alloc,go_sem]<;>rfl) ?_
   intro a w b4 hE hp
   have hp:=r2 hp
   refine aU (wk0 rfl) rfl hE hp rfl rfl rfl 0 rfl bV.size_ rfl (aN ⟨rfl,rfl,rfl,rfl,(aH.one nC),trivial⟩) [(Iv x2.kind),(.string x2.text),(Iv x2.at_),(Iv x2.fin),fA] rfl ?_
   intro w hp
   have hp:=r2 hp
   refine aB ?_
   have hE:=hE.cut (E':=[(0,vp0),(3,(Pv b1 0)),(5,(Iv aQ)),(7,(Pv b4 0)),(32,vp0),(33,(Iv (p0.length:Int))),(34,(Iv aT))]) ⟨rfl,rfl,rfl,rfl,rfl,rfl,rfl,trivial⟩
   refine aF (aF ?_)
   refine aA (V hE hp rfl (aJ rfl hE rfl (fun w hw=>aW (cs:=[(Iv x2.kind),(.string x2.text),(Iv x2.at_),(Iv x2.fin),fA]) bV (Hp.cN 0 rfl 0 _ (aS rfl) w hw))) fun a hE=>?_)
   obtain⟨x3,ex3,hl1⟩:=bnd hl1
   refine Cl hE rfl rfl ent31 (aD8 x2 fA nC 12 hp x3 ex3) ⟨rfl,rfl,trivial⟩ fun v a w hR hE=>?_
   obtain⟨rfl,hp⟩:=hR
   have hp:=r2 hp
   refine S hE 1 rfl fun a hE=>aB ?_
   refine dI hE rfl (fun hc6=>?_) (fun hc6=>?_)
   ·replace hl1:=(it hc6).symm.trans hl1
    refine aF (aA ?_)
    refine S hE 1 rfl fun a hE=>aB (dD ?_)
    refine⟨_,(oj hl1).symm,fun hb=>?_⟩
    subst hb
    obtain rfl:=oj hm
    exact gK hE rfl rfl ⟨_,rfl,rfl,(((hp.get 1 rfl).drop).drop)⟩
   replace hl1:=(ie hc6).symm.trans hl1
   refine bC (aA ?_)
   refine S hE 1 rfl fun a hE=>V hE hp rfl (aJ rfl hE rfl (fun w hw=>aW (cs:=[(Iv x2.kind),(.string x2.text),(Iv x2.at_),(Iv x2.fin),fA]) bV (Hp.cN 0 rfl 0 _ (aS rfl) w hw))) fun a hE=>?_
   obtain⟨x4,ex4,hl1⟩:=bnd hl1
   refine Cl hE rfl rfl ent23 (pR x2 fA nC hp x4 ex4) ⟨rfl,trivial⟩ fun v a w hR hE=>?_
   obtain⟨rfl,hp⟩:=hR
   have hp:=r2 hp
   obtain⟨x5,ex5,hl1⟩:=bnd hl1
   refine V hE hp rfl (bF rfl hE rfl rfl (aK ex5)) fun a hE=>S hE 1 rfl fun a hE=>aB (aA ?_)
   obtain⟨x6,ex6,hl1⟩:=bnd hl1
   refine V hE hp rfl (bF rfl hE rfl rfl (aK ex6)) fun a hE=>S hE 1 rfl fun a hE=>aB ?_
   exact⟨_,(oj hl1).symm,hE.cut ⟨rfl,rfl,rfl,rfl,rfl,rfl,trivial⟩,(hp.drop)⟩
  replace hl1:=(ie hc5).symm.trans hl1
  refine dU ?_
  refine⟨_,(oj hl1).symm,fun hbb=>?_⟩
  exact⟨_,hbb.symm,hE.cut ⟨rfl,rfl,rfl,trivial⟩,hp⟩
 rintro a w ⟨b2s,rfl,hE,hp⟩
 dsimp only at hm
 refine aF (aA ?_)
 refine S hE 1 rfl fun a hE=>V hE hp rfl (aJ rfl hE rfl (fun w hw=>aW (cs:=[(Iv p1.op),(Iv p1.node),(Iv p1.index),(Iv p1.count),(Iv p1.kind),(.string p1.text)]) vY (Hp.cN 0 rfl 0 _ (aS rfl) w hw))) fun a hE=>?_
 refine fE (wk0 rfl) rfl rfl hE hp rfl [(0,(.agg #[(Iv p1.op),(Iv p1.node),(Iv p1.index),(Iv p1.count),(Iv p1.kind),(.string p1.text)]))] ⟨⟨rfl,rfl⟩,trivial⟩ [(Iv p1.op),(Iv p1.node),(Iv p1.index),(Iv p1.count),(Iv p1.kind),(.string p1.text)] 58 (fun w=>by simp[Instr.buildSlice,Instr.fill,Value.cells,go_sem]) ?_
 intro a w b5 hE hp
 have hp:=r2 hp
 have hp:=(hp.get 0 rfl).imp (oD (l:=(([p1]:List Chg):List Chg)) (n:=1) rfl (by decide) rfl)
 have hp:=r2 hp
 obtain⟨k1,k1a,k1d,hp⟩:=(hp.get 0 rfl).lend
 have f1:aH (ρ.un k1) (.slice (some ⟨b5,0,none⟩) 1 1) ([p1]:List Chg):=aG.ro k1d k1a
 have hp:=r1 hp
 obtain⟨x7,ex7,hm⟩:=bnd hm
 refine Cl hE rfl rfl ent24 (c_Apply p0 vp0 (aH.mono hp0 (PH.le_un _ k1)) ([p1]:List Chg) (.slice (some ⟨b5,0,none⟩) 1 1) f1 hp x7 ex7) ⟨rfl,rfl,trivial⟩ fun v a w hR hE=>?_
 obtain⟨ρ1,vr4,hle1,rfl,hr4,hp⟩:=hR
 have hp:=r1 hp
 refine S hE 5 rfl fun a hE=>aB ?_
 have hE:=hE.cut (E':=[(0,vp0),(3,(Pv b1 0)),(5,(Iv b2s)),(8,vr4),(9,(Iv x7.2))]) ⟨rfl,rfl,rfl,rfl,rfl,trivial⟩
 refine aF (aF ?_)
 refine aA (S hE 2 rfl fun a hE=>?_)
 refine aB ?_
 refine dI hE rfl (fun hc7=>?_) (fun hc7=>?_)
 ·replace hm:=(it hc7).symm.trans hm
  refine aF (aA ?_)
  refine S hE 1 rfl fun a hE=>V hE hp rfl (dB rfl hE rfl (aH.len hr4 gI)) fun a hE=>S hE 2 rfl fun a hE=>aB (dD ?_)
  obtain rfl:=oj hm
  exact gK hE rfl rfl ⟨_,rfl,rfl,(((hp.drop).less hle1).less (PH.le_un _ k1))⟩
 replace hm:=(ie hc7).symm.trans hm
 refine bC (aF ?_)
 refine aA (S hE 1 rfl fun a hE=>?_)
 refine aB (aF ?_)
 refine aF (aA ?_)
 refine S hE 1 rfl fun a hE=>V hE hp rfl (dB rfl hE rfl (aH.len hr4 gI)) fun a hE=>S hE 1 rfl fun a hE=>aB ?_
 obtain⟨b6,hc8,hm⟩:=bnd hm
 refine dJ (fun a w=>Env 159 [(0,vp0),(3,(Pv b1 0)),(5,(Iv b2s)),(8,vr4),(10,(Iv b6))] a∧Hp Z ρ1 (Pt b1 (.cells #[(Iv p1.op),(Iv p1.node),(Iv p1.index),(Iv p1.count),(Iv p1.kind),(.string p1.text)] 58 (0,0))::L) w) ?_ ?_
 ·refine dY hc8 (fun s a w=>Env 159 [(0,vp0),(3,(Pv b1 0)),(5,(Iv b2s)),(8,vr4),(10,(Iv s.1)),(58,vr4),(59,(Iv (x7.1.length:Int))),(60,(Iv s.2))] a∧Hp Z ρ1 (Pt b1 (.cells #[(Iv p1.op),(Iv p1.node),(Iv p1.index),(Iv p1.count),(Iv p1.kind),(.string p1.text)] 58 (0,0))::L) w) ?_ ?_
  ·exact⟨hE.cut ⟨rfl,rfl,rfl,rfl,rfl,rfl,rfl,rfl,trivial⟩,hp⟩
  rintro⟨bK,dR⟩ st a w ⟨hE,hp⟩ hl2
  dsimp only at hE hp hl2
  unfold jI at hl2
  refine aF (aA ?_)
  refine S hE 1 rfl fun a hE=>aB (aF ?_)
  refine dI hE rfl (fun hc9=>?_) (fun hc9=>?_)
  ·replace hl2:=(it hc9).symm.trans hl2
   refine bC (aF ?_)
   refine dN (aF ?_)
   refine aA ?_
   obtain⟨x8,ex8,hl2⟩:=bnd hl2
   obtain⟨b7,b7o,b7c,b7r,b7k,b7f⟩:=aH.at hr4 gI ex8
   obtain⟨J5,rfl,hb7_kids⟩:=NodeAt.opens b7k
   have b7f:AtP ρ1 b7 b7o [(Iv x8.kind),(.string x8.text),(Iv x8.at_),(Iv x8.fin),J5]:=b7f
   refine V hE hp rfl (aO rfl hE rfl rfl b7r) fun a hE=>V hE hp rfl (aJ rfl hE rfl (fun w hw=>aW (cs:=[(Iv x8.kind),(.string x8.text),(Iv x8.at_),(Iv x8.fin),J5]) bV (fun j u hj=>cell_of hw.le (b7f j u hj)))) fun a hE=>?_
   refine dH (wk0 rfl) rfl rfl hE hp rfl [(Iv 0),(.string ByteArray.empty),(Iv 0),(Iv 0),N0] (fun w=>by simp[Instr.alloc,go_sem]<;>rfl) ?_
   intro a w b8 hE hp
   have hp:=r2 hp
   refine aU (wk0 rfl) rfl hE hp rfl rfl rfl 0 rfl bV.size_ rfl (aN ⟨rfl,rfl,rfl,rfl,(aH.one hb7_kids),trivial⟩) [(Iv x8.kind),(.string x8.text),(Iv x8.at_),(Iv x8.fin),J5] rfl ?_
   intro w hp
   have hp:=r2 hp
   refine aB (aA ?_)
   refine S hE 1 rfl fun a hE=>V hE hp rfl (aJ rfl hE rfl (fun w hw=>aW (cs:=[(Iv x8.kind),(.string x8.text),(Iv x8.at_),(Iv x8.fin),J5]) bV (Hp.cN 0 rfl 0 _ (aS rfl) w hw))) fun a hE=>?_
   obtain⟨x9,ex9,hl2⟩:=bnd hl2
   refine Cl hE rfl rfl ent23 (pR x8 J5 hb7_kids hp x9 ex9) ⟨rfl,trivial⟩ fun v a w hR hE=>?_
   obtain⟨rfl,hp⟩:=hR
   have hp:=r2 hp
   obtain⟨x10,ex10,hl2⟩:=bnd hl2
   refine V hE hp rfl (bF rfl hE rfl rfl (aK ex10)) fun a hE=>S hE 1 rfl fun a hE=>aB (aA ?_)
   obtain⟨x11,ex11,hl2⟩:=bnd hl2
   refine V hE hp rfl (bF rfl hE rfl rfl (aK ex11)) fun a hE=>S hE 1 rfl fun a hE=>aB ?_
   exact⟨_,(oj hl2).symm,hE.cut ⟨rfl,rfl,rfl,rfl,rfl,rfl,rfl,rfl,trivial⟩,(hp.drop)⟩
  replace hl2:=(ie hc9).symm.trans hl2
  refine dU ?_
  refine⟨_,(oj hl2).symm,fun hbb=>?_⟩
  subst hbb
  exact⟨hE.cut ⟨rfl,rfl,rfl,rfl,rfl,trivial⟩,hp⟩
 rintro a w ⟨hE,hp⟩
 refine aF (aF ?_)
 refine aA (V hE hp rfl (xf hE fldty58_0 rfl rfl) fun a hE=>?_)
 refine V hE hp rfl (xl hE aX 0 rfl rfl rfl rfl) fun a hE=>aB (dN ?_)
 refine aF (aA ?_)
 refine S hE 2 rfl fun a hE=>aB ?_
 refine dI hE rfl (fun hc10=>?_) (fun hc10=>?_)
 ·replace hm:=(it hc10).symm.trans hm
  refine aF (aA ?_)
  refine V hE hp rfl (xf hE sZ rfl rfl) fun a hE=>V hE hp rfl (xl hE aX 0 rfl rfl rfl rfl) fun a hE=>?_
  obtain⟨x12,ex12,hm⟩:=bnd hm
  refine V hE hp rfl (bF rfl hE rfl rfl (aK ex12)) fun a hE=>S hE 1 rfl fun a hE=>aB ?_
  have hE:=hE.cut (E':=[(0,vp0),(3,(Pv b1 0)),(5,(Iv b2s)),(8,vr4),(10,(Iv b6)),(13,(Iv x12))]) ⟨rfl,rfl,rfl,rfl,rfl,rfl,trivial⟩
  refine aF (aA ?_)
  refine S hE 2 rfl fun a hE=>aB (aF ?_)
  refine aF (aA ?_)
  refine V hE hp rfl (xf hE sZ rfl rfl) fun a hE=>V hE hp rfl (xl hE aX 0 rfl rfl rfl rfl) fun a hE=>S hE 1 rfl fun a hE=>aB ?_
  obtain⟨j1,hj1,hm⟩:=bnd hm
  refine k_cut (fun a w=>∃(ρ2:PH) (v14:Value),ρ1.le ρ2∧aH ρ2 v14 j1∧Env 159 [(0,vp0),(3,(Pv b1 0)),(5,(Iv b2s)),(8,vr4),(10,(Iv b6)),(13,(Iv x12)),(14,v14)] a∧Hp Z ρ2 (Pt b1 (.cells #[(Iv p1.op),(Iv p1.node),(Iv p1.index),(Iv p1.count),(Iv p1.kind),(.string p1.text)] 58 (0,0))::L) w) ?_ ?_
  ·
   refine dI hE rfl (fun hc11=>?_) (fun hc11=>?_)
   ·replace hj1:=(it hc11).symm.trans hj1
    refine aA (S hE 1 rfl fun a hE=>?_)
    refine V hE hp rfl (xf hE sZ rfl rfl) fun a hE=>V hE hp rfl (xl hE aX 0 rfl rfl rfl rfl) fun a hE=>?_
    obtain⟨x13,ex13,hj1⟩:=bnd hj1
    refine s_call (wk0 rfl) rfl rfl hE rfl [vp0,(Iv p1.node)] ⟨rfl,rfl,trivial⟩ ent33 (aB2 p0 vp0 (aH.mono (aH.mono hp0 (PH.le_un _ k1)) hle1) p1.node hp x13 ex13) Ret.ret ?_
    intro vr7 a w hR hE
    obtain⟨ρ3,u,hle2,rfl,hr7,hp⟩:=Ret.of hR
    have hp:=r1 hp
    refine S hE 1 rfl fun a hE=>aB ?_
    obtain rfl:=oj hj1
    exact⟨ρ3,_,hle2,hr7,hE.cut ⟨rfl,rfl,rfl,rfl,rfl,rfl,rfl,trivial⟩,hp⟩
   replace hj1:=(ie hc11).symm.trans hj1
   refine bC ?_
   obtain rfl:=oj hj1
   exact⟨ρ1,_,(PH.le.rf _),(aH.mono (aH.mono hp0 (PH.le_un _ k1)) hle1),hE.cut ⟨rfl,rfl,rfl,rfl,rfl,rfl,rfl,trivial⟩,hp⟩
  rintro a w ⟨ρ2,v14,hlg2,h14,hE,hp⟩
  refine aF (aF ?_)
  refine aA (S hE 1 rfl fun a hE=>?_)
  refine aB ?_
  obtain⟨b9,hc12,hm⟩:=bnd hm
  refine dJ (fun a w=>Env 159 [(0,vp0),(5,(Iv b2s)),(8,vr4),(10,(Iv b6)),(13,(Iv b9))] a∧Hp Z ρ2 (Pt b1 (.cells #[(Iv p1.op),(Iv p1.node),(Iv p1.index),(Iv p1.count),(Iv p1.kind),(.string p1.text)] 58 (0,0))::L) w) ?_ ?_
  ·refine dY hc12 (fun s a w=>Env 159 [(0,vp0),(3,(Pv b1 0)),(5,(Iv b2s)),(8,vr4),(10,(Iv b6)),(13,(Iv s.1)),(14,v14),(15,(Iv s.2))] a∧Hp Z ρ2 (Pt b1 (.cells #[(Iv p1.op),(Iv p1.node),(Iv p1.index),(Iv p1.count),(Iv p1.kind),(.string p1.text)] 58 (0,0))::L) w) ?_ ?_
   ·exact⟨hE.cut ⟨rfl,rfl,rfl,rfl,rfl,rfl,rfl,rfl,trivial⟩,hp⟩
   rintro⟨fK,nZ⟩ st a w ⟨hE,hp⟩ hl3
   dsimp only at hE hp hl3
   unfold iF at hl3
   refine aF (aF ?_)
   refine aA (S hE 1 rfl fun a hE=>?_)
   refine V hE hp rfl (xf hE aC8 rfl rfl) fun a hE=>V hE hp rfl (xl hE aX 0 rfl rfl rfl rfl) fun a hE=>S hE 2 rfl fun a hE=>?_
   refine jE [_,_,_,_,_] (fun a w=>Env 159 [(93,(.bool ((decide (nZ<p1.index))&&(decide (nZ<(j1.length:Int)))))),(0,vp0),(3,(Pv b1 0)),(5,(Iv b2s)),(8,vr4),(10,(Iv b6)),(13,(Iv fK)),(14,v14),(15,(Iv nZ))] a∧Hp Z ρ2 (Pt b1 (.cells #[(Iv p1.op),(Iv p1.node),(Iv p1.index),(Iv p1.count),(Iv p1.kind),(.string p1.text)] 58 (0,0))::L) w) ?_ ?_
   ·rcases Bool.eq_false_or_eq_true (decide (nZ<p1.index)) with hc13|hc13
    ·
     refine Gs hE hc13 rfl rfl fun a hE=>Gs hE hc13 rfl rfl fun a hE=>G hE hp hc13 rfl (dB rfl hE rfl (aH.len h14 gI)) fun a hE=>Gs hE hc13 rfl rfl fun a hE=>pk1 hE hc13 rfl rfl rfl rfl fun a hE=>?_
     have hE:=hE.eqv (v':=(.bool ((decide (nZ<p1.index))&&(decide (nZ<(j1.length:Int)))))) (by rw[hc13];rfl)
     exact aB ⟨hE.cut ⟨rfl,rfl,rfl,rfl,rfl,rfl,rfl,rfl,rfl,trivial⟩,hp⟩
    refine Gk hE hc13 rfl fun a hE=>Gk hE hc13 rfl fun a hE=>Gk hE hc13 rfl fun a hE=>Gk hE hc13 rfl fun a hE=>pk0 hE hc13 rfl rfl rfl rfl fun a hE=>?_
    have hE:=hE.eqv (v':=(.bool ((decide (nZ<p1.index))&&(decide (nZ<(j1.length:Int)))))) (by rw[hc13];rfl)
    exact aB ⟨hE.cut ⟨rfl,rfl,rfl,rfl,rfl,rfl,rfl,rfl,rfl,trivial⟩,hp⟩
   rintro a w ⟨hE,hp⟩
   refine aB ?_
   refine dI hE rfl (fun hc14=>?_) (fun hc14=>?_)
   ·replace hl3:=(it hc14).symm.trans hl3
    refine bC (aF ?_)
    refine dN (aA ?_)
    refine S hE 3 rfl fun a hE=>?_
    obtain⟨x14,ex14,hl3⟩:=bnd hl3
    obtain⟨b10,b10o,b10c,b10r,b10k,b10f⟩:=aH.at h14 gI ex14
    obtain⟨vb10_kids,rfl,hb10_kids⟩:=NodeAt.opens b10k
    have b10f:AtP ρ2 b10 b10o [(Iv x14.kind),(.string x14.text),(Iv x14.at_),(Iv x14.fin),vb10_kids]:=b10f
    refine V hE hp rfl (aO rfl hE rfl rfl b10r) fun a hE=>V hE hp rfl (aJ rfl hE rfl (fun w hw=>aW (cs:=[(Iv x14.kind),(.string x14.text),(Iv x14.at_),(Iv x14.fin),vb10_kids]) bV (fun j u hj=>cell_of hw.le (b10f j u hj)))) fun a hE=>?_
    obtain⟨x15,ex15,hl3⟩:=bnd hl3
    refine Cl hE rfl rfl ent23 (pR x14 vb10_kids hb10_kids hp x15 ex15) ⟨rfl,trivial⟩ fun v a w hR hE=>?_
    obtain⟨rfl,hp⟩:=hR
    have hp:=r1 hp
    obtain⟨x16,ex16,hl3⟩:=bnd hl3
    refine V hE hp rfl (bF rfl hE rfl rfl (aK ex16)) fun a hE=>S hE 1 rfl fun a hE=>aB (aA ?_)
    refine S hE 1 rfl fun a hE=>?_
    obtain⟨x17,ex17,hl3⟩:=bnd hl3
    refine V hE hp rfl (bF rfl hE rfl rfl (aK ex17)) fun a hE=>S hE 1 rfl fun a hE=>aB ?_
    exact⟨_,(oj hl3).symm,hE.cut ⟨rfl,rfl,rfl,rfl,rfl,rfl,rfl,rfl,trivial⟩,hp⟩
   replace hl3:=(ie hc14).symm.trans hl3
   refine dU ?_
   refine⟨_,(oj hl3).symm,fun hbb=>?_⟩
   subst hbb
   exact⟨hE.cut ⟨rfl,rfl,rfl,rfl,rfl,trivial⟩,hp⟩
  rintro a w ⟨hE,hp⟩
  refine aF (aA ?_)
  refine S hE 2 rfl fun a hE=>V hE hp rfl (v:=(.agg #[(Iv 1),(Iv b9),(Iv 0),(Iv 0),(Iv 0),(.string ByteArray.empty)])) (lN rfl hE [(0,(Iv 1)),(1,(Iv b9))] (by exact⟨⟨rfl,rfl⟩,⟨rfl,rfl⟩,trivial⟩) (fun w=>by simp[Instr.build,Instr.fill,Value.cells,go_sem]<;>rfl)) fun a hE=>?_
  refine fE (wk0 rfl) rfl rfl hE hp rfl [(0,(.agg #[(Iv 1),(Iv b9),(Iv 0),(Iv 0),(Iv 0),(.string ByteArray.empty)]))] ⟨⟨rfl,rfl⟩,trivial⟩ [(Iv 1),(Iv b9),(Iv 0),(Iv 0),(Iv 0),(.string ByteArray.empty)] 58 (fun w=>by simp[Instr.buildSlice,Instr.fill,Value.cells,go_sem]) ?_
  intro a w b11 hE hp
  have hp:=r2 hp
  have hp:=(hp.get 0 rfl).imp (oD (l:=(([(Chg.mk 1 b9 0 0 0 ByteArray.empty)]:List Chg):List Chg)) (n:=1) rfl (by decide) rfl)
  have hp:=r2 hp
  obtain⟨k2,k2a,k2d,hp⟩:=(hp.get 0 rfl).lend
  have f2:aH (ρ2.un k2) (.slice (some ⟨b11,0,none⟩) 1 1) ([(Chg.mk 1 b9 0 0 0 ByteArray.empty)]:List Chg):=aG.ro k2d k2a
  have hp:=r1 hp
  obtain⟨x18,ex18,hm⟩:=bnd hm
  refine Cl hE rfl rfl ent24 (c_Apply x7.1 vr4 (aH.mono (aH.mono hr4 hlg2) (PH.le_un _ k2)) ([(Chg.mk 1 b9 0 0 0 ByteArray.empty)]:List Chg) (.slice (some ⟨b11,0,none⟩) 1 1) f2 hp x18 ex18) ⟨rfl,rfl,trivial⟩ fun v a w hR hE=>?_
  obtain⟨ρ4,vr9,hle3,rfl,hr9,hp⟩:=hR
  have hp:=r1 hp
  refine S hE 5 rfl fun a hE=>aB ?_
  have hE:=hE.cut (E':=[(0,vp0),(5,(Iv b2s)),(10,(Iv b6)),(16,vr9),(17,(Iv x18.2))]) ⟨rfl,rfl,rfl,rfl,rfl,trivial⟩
  refine aF (aA ?_)
  refine S hE 2 rfl fun a hE=>?_
  obtain⟨x19,ex19,hm⟩:=bnd hm
  refine V hE hp rfl (bF rfl hE rfl rfl (aK ex19)) fun a hE=>S hE 2 rfl fun a hE=>?_
  refine jE [_,_,_] (fun a w=>Env 159 [(118,(.bool ((decide (b6=x19))&&(decide (x18.2=0))))),(0,vp0),(16,vr9)] a∧Hp Z ρ4 (Pt b1 (.cells #[(Iv p1.op),(Iv p1.node),(Iv p1.index),(Iv p1.count),(Iv p1.kind),(.string p1.text)] 58 (0,0))::L) w) ?_ ?_
  ·rcases Bool.eq_false_or_eq_true (decide (b6=x19)) with hc15|hc15
   ·
    refine Gs hE hc15 rfl rfl fun a hE=>Gs hE hc15 rfl rfl fun a hE=>pk1 hE hc15 rfl rfl rfl rfl fun a hE=>?_
    have hE:=hE.eqv (v':=(.bool ((decide (b6=x19))&&(decide (x18.2=0))))) (by rw[hc15];rfl)
    exact aB ⟨hE.cut ⟨rfl,rfl,rfl,trivial⟩,hp⟩
   refine Gk hE hc15 rfl fun a hE=>Gk hE hc15 rfl fun a hE=>pk0 hE hc15 rfl rfl rfl rfl fun a hE=>?_
   have hE:=hE.eqv (v':=(.bool ((decide (b6=x19))&&(decide (x18.2=0))))) (by rw[hc15];rfl)
   exact aB ⟨hE.cut ⟨rfl,rfl,rfl,trivial⟩,hp⟩
  rintro a w ⟨hE,hp⟩
  refine S hE 1 rfl fun a hE=>?_
  obtain⟨m1,hg1,hm⟩:=bnd hm
  refine jE [_,_,_,_] (fun a w=>Env 159 [(123,(.bool m1))] a∧Hp Z ρ4 (Pt b1 (.cells #[(Iv p1.op),(Iv p1.node),(Iv p1.index),(Iv p1.count),(Iv p1.kind),(.string p1.text)] 58 (0,0))::L) w) ?_ ?_
  ·rcases Bool.eq_false_or_eq_true ((decide (b6=x19))&&(decide (x18.2=0))) with hc16|hc16
   ·
    replace hg1:=(it hc16).symm.trans hg1
    refine Gs hE hc16 rfl rfl fun a hE=>Gs hE hc16 rfl rfl fun a hE=>?_
    obtain⟨x20,ex20,hg1⟩:=bnd hg1
    refine Cg hE hc16 rfl rfl ent25 (qO x18.1 vr9 hr9 p0 vp0 (aH.mono (aH.mono (aH.mono (aH.mono (aH.mono hp0 (PH.le_un _ k1)) hle1) hlg2) (PH.le_un _ k2)) hle3) hp x20 ex20) ⟨rfl,rfl,trivial⟩ fun v a w hR hE=>?_
    obtain⟨rfl,hp⟩:=hR
    have hp:=r1 hp
    refine pk1 hE hc16 rfl rfl rfl rfl fun a hE=>?_
    obtain rfl:=oj hg1
    exact aB ⟨hE.cut ⟨rfl,trivial⟩,hp⟩
   replace hg1:=(ie hc16).symm.trans hg1
   refine Gk hE hc16 rfl fun a hE=>Gk hE hc16 rfl fun a hE=>Gk hE hc16 rfl fun a hE=>pk0 hE hc16 rfl rfl rfl rfl fun a hE=>?_
   obtain rfl:=oj hg1
   exact aB ⟨hE.cut ⟨rfl,trivial⟩,hp⟩
  rintro a w ⟨hE,hp⟩
  refine S hE 1 rfl fun a hE=>aB (dD ?_)
  obtain rfl:=oj hm
  exact gK hE rfl rfl ⟨_,rfl,rfl,((((((hp.drop).less hle3).less (PH.le_un _ k2)).less hlg2).less hle1).less (PH.le_un _ k1))⟩
 replace hm:=(ie hc10).symm.trans hm
 refine aF (aA ?_)
 refine S hE 2 rfl fun a hE=>aB ?_
 refine dI hE rfl (fun hc17=>?_) (fun hc17=>?_)
 ·replace hm:=(it hc17).symm.trans hm
  refine aF (aA ?_)
  refine S hE 2 rfl fun a hE=>?_
  obtain⟨x21,ex21,hm⟩:=bnd hm
  refine V hE hp rfl (dO rfl hE rfl rfl (aK ex21)) fun a hE=>S hE 2 rfl fun a hE=>aB (dD ?_)
  obtain rfl:=oj hm
  exact gK hE rfl rfl ⟨_,rfl,rfl,(((hp.drop).less hle1).less (PH.le_un _ k1))⟩
 replace hm:=(ie hc17).symm.trans hm
 refine bC (aF ?_)
 refine aA (S hE 1 rfl fun a hE=>?_)
 refine V hE hp rfl (xf hE sZ rfl rfl) fun a hE=>V hE hp rfl (xl hE aX 0 rfl rfl rfl rfl) fun a hE=>?_
 obtain⟨x22,ex22,hm⟩:=bnd hm
 refine Cl hE rfl rfl ent34 (yR p0 vp0 (aH.mono (aH.mono hp0 (PH.le_un _ k1)) hle1) p1.node hp x22 ex22) ⟨rfl,rfl,trivial⟩ fun v a w hR hE=>?_
 obtain⟨ρ5,vr12_kids,hle4,rfl,hr12_kids,hp⟩:=hR
 have hp:=r1 hp
 refine dH (wk0 rfl) rfl rfl hE hp rfl [(Iv 0),(.string ByteArray.empty),(Iv 0),(Iv 0),N0] (fun w=>by simp[Instr.alloc,go_sem]<;>rfl) ?_
 intro a w b12 hE hp
 have hp:=r2 hp
 refine aU (wk0 rfl) rfl hE hp rfl rfl rfl 0 rfl bV.size_ rfl (aN ⟨rfl,rfl,rfl,rfl,(aH.one hr12_kids),trivial⟩) [(Iv x22.kind),(.string x22.text),(Iv x22.at_),(Iv x22.fin),vr12_kids] rfl ?_
 intro w hp
 have hp:=r2 hp
 refine aB (aF ?_)
 refine aA (S hE 1 rfl fun a hE=>?_)
 refine V hE hp rfl (xf hE sZ rfl rfl) fun a hE=>V hE hp rfl (xl hE aX 1 rfl rfl rfl rfl) fun a hE=>V hE hp rfl (xf hE wK rfl rfl) fun a hE=>V hE hp rfl (xl hE aX 0 rfl rfl rfl rfl) fun a hE=>V hE hp rfl (xf hE vG rfl rfl) fun a hE=>V hE hp rfl (xl hE U5 0 rfl rfl rfl rfl) fun a hE=>V hE hp rfl (v:=(.agg #[(Iv 0),(Iv p1.node),(Iv 0),(Iv 0),(Iv x22.kind),(.string x22.text)])) (lN rfl hE [(0,(Iv 0)),(1,(Iv p1.node)),(4,(Iv x22.kind)),(5,(.string x22.text))] (by exact⟨⟨rfl,rfl⟩,⟨rfl,rfl⟩,⟨rfl,rfl⟩,⟨rfl,rfl⟩,trivial⟩) (fun w=>by simp[Instr.build,Instr.fill,Value.cells,go_sem])) fun a hE=>?_
 refine fE (wk0 rfl) rfl rfl hE hp rfl [(0,(.agg #[(Iv 0),(Iv p1.node),(Iv 0),(Iv 0),(Iv x22.kind),(.string x22.text)]))] ⟨⟨rfl,rfl⟩,trivial⟩ [(Iv 0),(Iv p1.node),(Iv 0),(Iv 0),(Iv x22.kind),(.string x22.text)] 58 (fun w=>by simp[Instr.buildSlice,Instr.fill,Value.cells,go_sem]) ?_
 intro a w b13 hE hp
 have hp:=r3 hp
 have hp:=(hp.get 0 rfl).imp (oD (l:=(([(Chg.mk 0 p1.node 0 0 x22.kind x22.text)]:List Chg):List Chg)) (n:=1) rfl (by decide) rfl)
 have hp:=r3 hp
 obtain⟨k3,k3a,k3d,hp⟩:=(hp.get 0 rfl).lend
 have f3:aH (ρ5.un k3) (.slice (some ⟨b13,0,none⟩) 1 1) ([(Chg.mk 0 p1.node 0 0 x22.kind x22.text)]:List Chg):=aG.ro k3d k3a
 have hp:=r2 hp
 obtain⟨x23,ex23,hm⟩:=bnd hm
 refine Cl hE rfl rfl ent24 (c_Apply x7.1 vr4 (aH.mono (aH.mono hr4 hle4) (PH.le_un _ k3)) ([(Chg.mk 0 p1.node 0 0 x22.kind x22.text)]:List Chg) (.slice (some ⟨b13,0,none⟩) 1 1) f3 hp x23 ex23) ⟨rfl,rfl,trivial⟩ fun v a w hR hE=>?_
 obtain⟨ρ6,vr13,hle5,rfl,hr13,hp⟩:=hR
 have hp:=r2 hp
 refine S hE 5 rfl fun a hE=>aB ?_
 have hE:=hE.cut (E':=[(0,vp0),(5,(Iv b2s)),(10,(Iv b6)),(19,vr13),(20,(Iv x23.2))]) ⟨rfl,rfl,rfl,rfl,rfl,trivial⟩
 refine aF (aA ?_)
 refine S hE 4 rfl fun a hE=>?_
 refine jE [_,_,_] (fun a w=>Env 159 [(153,(.bool ((decide (b6=b2s))&&(decide (x23.2=0))))),(0,vp0),(19,vr13)] a∧Hp Z ρ6 (Pt b12 (.cells #[(Iv x22.kind),(.string x22.text),(Iv x22.at_),(Iv x22.fin),vr12_kids] 24 (0,0))::Pt b1 (.cells #[(Iv p1.op),(Iv p1.node),(Iv p1.index),(Iv p1.count),(Iv p1.kind),(.string p1.text)] 58 (0,0))::L) w) ?_ ?_
 ·rcases Bool.eq_false_or_eq_true (decide (b6=b2s)) with hc18|hc18
  ·
   refine Gs hE hc18 rfl rfl fun a hE=>Gs hE hc18 rfl rfl fun a hE=>pk1 hE hc18 rfl rfl rfl rfl fun a hE=>?_
   have hE:=hE.eqv (v':=(.bool ((decide (b6=b2s))&&(decide (x23.2=0))))) (by rw[hc18];rfl)
   exact aB ⟨hE.cut ⟨rfl,rfl,rfl,trivial⟩,hp⟩
  refine Gk hE hc18 rfl fun a hE=>Gk hE hc18 rfl fun a hE=>pk0 hE hc18 rfl rfl rfl rfl fun a hE=>?_
  have hE:=hE.eqv (v':=(.bool ((decide (b6=b2s))&&(decide (x23.2=0))))) (by rw[hc18];rfl)
  exact aB ⟨hE.cut ⟨rfl,rfl,rfl,trivial⟩,hp⟩
 rintro a w ⟨hE,hp⟩
 refine S hE 1 rfl fun a hE=>?_
 obtain⟨m2,hg2,hm⟩:=bnd hm
 refine jE [_,_,_,_] (fun a w=>Env 159 [(158,(.bool m2))] a∧Hp Z ρ6 (Pt b12 (.cells #[(Iv x22.kind),(.string x22.text),(Iv x22.at_),(Iv x22.fin),vr12_kids] 24 (0,0))::Pt b1 (.cells #[(Iv p1.op),(Iv p1.node),(Iv p1.index),(Iv p1.count),(Iv p1.kind),(.string p1.text)] 58 (0,0))::L) w) ?_ ?_
 ·rcases Bool.eq_false_or_eq_true ((decide (b6=b2s))&&(decide (x23.2=0))) with hc19|hc19
  ·
   replace hg2:=(it hc19).symm.trans hg2
   refine Gs hE hc19 rfl rfl fun a hE=>Gs hE hc19 rfl rfl fun a hE=>?_
   obtain⟨x24,ex24,hg2⟩:=bnd hg2
   refine Cg hE hc19 rfl rfl ent25 (qO x23.1 vr13 hr13 p0 vp0 (aH.mono (aH.mono (aH.mono (aH.mono (aH.mono hp0 (PH.le_un _ k1)) hle1) hle4) (PH.le_un _ k3)) hle5) hp x24 ex24) ⟨rfl,rfl,trivial⟩ fun v a w hR hE=>?_
   obtain⟨rfl,hp⟩:=hR
   have hp:=r2 hp
   refine pk1 hE hc19 rfl rfl rfl rfl fun a hE=>?_
   obtain rfl:=oj hg2
   exact aB ⟨hE.cut ⟨rfl,trivial⟩,hp⟩
  replace hg2:=(ie hc19).symm.trans hg2
  refine Gk hE hc19 rfl fun a hE=>Gk hE hc19 rfl fun a hE=>Gk hE hc19 rfl fun a hE=>pk0 hE hc19 rfl rfl rfl rfl fun a hE=>?_
  obtain rfl:=oj hg2
  exact aB ⟨hE.cut ⟨rfl,trivial⟩,hp⟩
 rintro a w ⟨hE,hp⟩
 refine S hE 1 rfl fun a hE=>aB (dD ?_)
 obtain rfl:=oj hm
 exact gK hE rfl rfl ⟨_,rfl,rfl,((((((((hp.get 1 rfl).drop).drop).less hle5).less (PH.le_un _ k3)).less hle4).less hle1).less (PH.le_un _ k1))⟩
theorem loop_at {σ β:Type} {body:σ→Option (Step σ β)} {b:β} (S:Nat→σ):∀(n:Nat),(∀k,k<n→body (S k)=some (.next (S (k+1))))→body (S n)=some (.done b)→eH body (S 0)=some b
 |0,_,h=>sK h
 |n+1,h1,h2=>by
  rw[I9 (h1 0 (by omega))]
  exact loop_at (fun k=>S (k+1)) n (fun k hk=>h1 (k+1) (by omega)) h2
theorem aD2 {σ β:Type} {body:σ→Option (Step σ β)} {b:β} {s:σ} (S:Nat→σ) (n:Nat) (h0:s=S 0) (h1:∀k,k<n→body (S k)=some (.next (S (k+1)))) (h2:body (S n)=some (.done b)):eH body s=some b:=by
 rw[h0];exact loop_at S n h1 h2
theorem bind_loop {σ β γ:Type} {body:σ→Option (Step σ β)} {s:σ} {f:β→Option γ} {r:Option γ} (S:Nat→σ) (n:Nat) (b:β) (h0:s=S 0) (h1:∀k,k<n→body (S k)=some (.next (S (k+1)))) (h2:body (S n)=some (.done b)) (hf:f b=r):(eH body s).bind f=r:=by
 rw[aD2 S n h0 h1 h2];exact hf
theorem I7 {n:Int} (h: -9223372036854775808≤n∧n≤9223372036854775807):inK .i64 n=some n:=inK_ok n h.1 h.2
theorem xJ {k:Nat} (h:k≤4611686018427387904):inK .i64 ((k:Int)+1)=some ((k+1:Nat):Int):=by
 rw[inK_ok _ (by omega) (by omega)];rfl
theorem vW {α:Type} {l:List α} {k:Nat} {a:α} (h:l[k]?=some a):idx l (k:Int)=some a:=by
 unfold idx;rw[if_pos (by omega)];simpa using h
theorem pG {α:Type} {l:List α} {k:Nat} (h:k<l.length):∃a,l[k]?=some a:=⟨_,List.getElem?_eq_getElem h⟩
theorem I64.r {n:Int} (h:(Lit.int .i64 n).wf=true): -9223372036854775808≤n∧n≤9223372036854775807:=by
 simp[Lit.wf,IntKind.min,IntKind.max,IntKind.signed,IntKind.bits] at h
 exact⟨by omega,by omega⟩
theorem U8.r {n:Int} (h:(Lit.int .u8 n).wf=true):0≤n∧n≤255:=by
 simp[Lit.wf,IntKind.min,IntKind.max,IntKind.signed,IntKind.bits] at h
 omega
theorem first_or {α:Type} (p:α→Bool):∀(l:List α),(∃k a,l[k]?=some a∧p a=true∧(∀j b,j<k→l[j]?=some b→p b=false)∧l.any p=true∧l.findIdx p=k)∨((∀a∈l,p a=false)∧l.any p=false∧l.findIdx p=l.length)
 | []=>Or.inr ⟨by simp,rfl,rfl⟩
 |x::l=>by
  cases hx:p x with
  |true=>exact Or.inl ⟨0,x,rfl,hx,fun j b hj=>by omega,by simp[hx],by simp[List.findIdx_cons,hx]⟩
  |false=>
   rcases first_or p l with⟨k,a,h1,h2,h3,h4,h5⟩|⟨h1,h2,h3⟩
   ·refine Or.inl ⟨k+1,a,by simpa using h1,h2,fun j b hj hb=>?_,by simp[hx,h4],by simp[List.findIdx_cons,hx,h5]⟩
    cases j with
    |zero=>simp at hb;subst hb;exact hx
    |succ j=>exact h3 j b (by omega) (by simpa using hb)
   refine Or.inr ⟨fun a ha=>?_,by simp[hx,h2],by simp[List.findIdx_cons,hx,h3]⟩
   rcases List.mem_cons.1 ha with rfl|ha
   ·exact hx
   exact h1 a ha
theorem scan_loop {α β:Type} {body:Int→Option (Step Int β)} (l:List α) (p:α→Bool) (hit:Nat→α→β) (miss:β)
  (h1:∀(k:Nat) a,l[k]?=some a→body k=some (if p a=true then .done (hit k a) else .next ((k+1:Nat):Int))) (h2:body (l.length:Int)=some (.done miss)):
  (∃k a,l[k]?=some a∧p a=true∧(∀j b,j<k→l[j]?=some b→p b=false)∧l.any p=true∧l.findIdx p=k∧eH body 0=some (hit k a))∨((∀a∈l,p a=false)∧l.any p=false∧l.findIdx p=l.length∧eH body 0=some miss):=by
 rcases first_or p l with⟨k,a,a1,a2,a3,a4,a5⟩|⟨a1,a2,a3⟩
 ·refine Or.inl ⟨k,a,a1,a2,a3,a4,a5,aD2 (fun j=>(j:Int)) k rfl (fun j hj=>?_) ?_⟩
  ·obtain⟨b,hb⟩:=pG (show j<l.length by have:=(List.getElem?_eq_some_iff.1 a1).1;omega)
   rw[h1 j b hb,a3 j b hj hb];rfl
  rw[h1 k a a1,a2];rfl
 refine Or.inr ⟨a1,a2,a3,aD2 (fun j=>(j:Int)) l.length rfl (fun j hj=>?_) h2⟩
 obtain⟨b,hb⟩:=pG hj
 rw[h1 j b hb,a1 b (List.mem_of_getElem? hb)];rfl
theorem any_loop {α β:Type} {body:Int→Option (Step Int β)} (l:List α) (p:α→Bool) (hit miss:β)
  (h1:∀(k:Nat) a,l[k]?=some a→body k=some (if p a=true then .done hit else .next ((k+1:Nat):Int))) (h2:body (l.length:Int)=some (.done miss)):eH body 0=some (if l.any p=true then hit else miss):=by
 rcases scan_loop l p (fun _ _=>hit) miss h1 h2 with⟨k,a,_,_,_,h,_,e⟩|⟨_,h,_,e⟩
 ·rw[e,h];rfl
 rw[e,h];rfl
theorem same_loop {α β:Type} [DecidableEq α] {body:Int→Option (Step Int β)} {a b:List α} (hl:a.length=b.length) (hit miss:β)
  (h1:∀(k:Nat) x y,a[k]?=some x→b[k]?=some y→body k=some (if x=y then .next ((k+1:Nat):Int) else .done hit)) (h2:body (a.length:Int)=some (.done miss)):eH body 0=some (if a=b then miss else hit):=by
 have hzl:(a.zip b).length=a.length:=by rw[List.length_zip];omega
 have hz:(a.zip b).any (fun p=>decide (p.1≠p.2))=decide (a≠b):=by
  clear h1 h2 hzl
  induction a generalizing b with
  |nil=>cases b with
   |nil=>simp
   |cons y b=>simp at hl
  |cons x a ih=>cases b with
   |nil=>simp at hl
   |cons y b=>
    simp only[List.length_cons,Nat.add_right_cancel_iff] at hl
    simp only[List.zip_cons_cons,List.any_cons,ih hl,ne_eq,List.cons.injEq]
    by_cases hx:x=y<;>by_cases hb:a=b<;>simp[hx,hb]
 have:=any_loop (body:=body) (a.zip b) (fun p=>decide (p.1≠p.2)) hit miss (fun k p hp=>by
  obtain⟨x,y⟩:=p
  have hk:=(List.getElem?_eq_some_iff.1 hp).1
  rw[hzl] at hk
  obtain⟨x',hx⟩:=pG hk
  obtain⟨y',hy⟩:=pG (show k<b.length by omega)
  rw[List.getElem?_zip_eq_some] at hp
  rw[h1 k x y hp.1 hp.2]
  by_cases h:x=y<;>simp[h]) (by rw[hzl];exact h2)
 rw[this,hz]
 by_cases h:a=b<;>simp[h]
theorem drop_cons_of {α:Type} {l:List α} {k:Nat} {a:α} (h:l[k]?=some a):l.drop k=a::l.drop (k+1):=by
 obtain⟨h1,h2⟩:=List.getElem?_eq_some_iff.1 h
 rw[←h2];exact List.drop_eq_getElem_cons h1
theorem bsm {α β:Type} (a:α) (f:α→Option β):(some a).bind f=f a:=rfl
mutual
def ndN:Node→Nat→Option Node
 |⟨_,_,_,_,kids⟩,k=>ndL kids k
def ndL:List Node→Nat→Option Node
 | [],_=>none
 |n::r,k=>if k=0 then some n else if k<iH n then ndN n (k-1) else ndL r (k-iH n)
end
mutual
def rpN (f:Node→List Node):Node→Nat→Node
 |⟨a,b,c,d,kids⟩,k=>⟨a,b,c,d,rpL f kids k⟩
def rpL (f:Node→List Node):List Node→Nat→List Node
 | [],_=>[]
 |n::r,k=>if k=0 then f n++r else if k<iH n then rpN f n (k-1)::r else n::rpL f r (k-iH n)
end
theorem X4 (n:Node) (r:List Node) (k:Nat):ndL (n::r) k=if k=0 then some n else if k<iH n then ndL n.kids (k-1) else ndL r (k-iH n):=by
 obtain⟨a,b,c,d,kids⟩:=n
 rw[ndL,ndN]
theorem J4 (f:Node→List Node) (n:Node) (r:List Node) (k:Nat):rpL f (n::r) k=if k=0 then f n++r else if k<iH n then n.re (rpL f n.kids (k-1))::r else n::rpL f r (k-iH n):=by
 obtain⟨a,b,c,d,kids⟩:=n
 rw[rpL,rpN];rfl
theorem aD3 (k:Nat):ndL [] k=none:=by rw[ndL]
theorem rpL_nil (f:Node→List Node) (k:Nat):rpL f [] k=[]:=by rw[rpL]
theorem xH:gB []=0:=by rw[gB]
theorem cntN_re (n:Node) (ks:List Node):iH (n.re ks)=1+gB ks:=kM _
theorem zZ (n:Node):0<iH n:=by have:=kM n;omega
theorem aC1 {P:List Node→Nat→Prop} (h0:∀k,P [] k) (h1:∀n r,P (n::r) 0) (h2:∀n r k,k<gB n.kids→P n.kids k→P (n::r) (k+1)) (h3:∀n r k,P r k→P (n::r) (iH n+k)):∀ts k,P ts k:=by
 have go:∀(m:Nat) (ts:List Node) (k:Nat),SizeOf.sizeOf ts≤m→P ts k:=by
  intro m
  induction m with
  |zero=>intro ts k h;cases ts<;>simp at h
  |succ m ih=>
   intro ts k h
   cases ts with
   |nil=>exact h0 k
   |cons n r=>
    simp only[List.cons.sizeOf_spec] at h
    by_cases hk:k=0
    ·subst hk;exact h1 n r
    have hc:=kM n
    by_cases hl:k<iH n
    ·have hs:SizeOf.sizeOf n.kids<SizeOf.sizeOf n:=by obtain⟨a,b,c,d,kids⟩:=n;simp;omega
     have:=h2 n r (k-1) (by omega) (ih n.kids (k-1) (by omega))
     rwa [show k-1+1=k by omega] at this
    have:=h3 n r (k-iH n) (ih r _ (by omega))
    rwa [show iH n+(k-iH n)=k by omega] at this
 exact fun ts k=>go _ ts k (Nat.le_refl _)
theorem nd_in {n:Node} {r:List Node} {k:Nat} (h:k<gB n.kids):ndL (n::r) (k+1)=ndL n.kids k:=by
 have:=kM n
 rw[X4,if_neg (by omega),if_pos (by omega),Nat.add_sub_cancel]
theorem nd_on {n:Node} {r:List Node} {k:Nat}:ndL (n::r) (iH n+k)=ndL r k:=by
 have:=zZ n
 rw[X4,if_neg (by omega),if_neg (by omega),Nat.add_sub_cancel_left]
theorem rp_in {f:Node→List Node} {n:Node} {r:List Node} {k:Nat} (h:k<gB n.kids):rpL f (n::r) (k+1)=n.re (rpL f n.kids k)::r:=by
 have:=kM n
 rw[J4,if_neg (by omega),if_pos (by omega),Nat.add_sub_cancel]
theorem rp_on {f:Node→List Node} {n:Node} {r:List Node} {k:Nat}:rpL f (n::r) (iH n+k)=n::rpL f r k:=by
 have:=zZ n
 rw[J4,if_neg (by omega),if_neg (by omega),Nat.add_sub_cancel_left]
theorem nd_0 (n:Node) (r:List Node):ndL (n::r) 0=some n:=by rw[X4,if_pos rfl]
theorem rp_0 (f:Node→List Node) (n:Node) (r:List Node):rpL f (n::r) 0=f n++r:=by rw[J4,if_pos rfl]
theorem nd_none:∀ts k,gB ts≤k→ndL ts k=none∧∀f,rpL f ts k=ts:=by
 refine aC1 (fun k h=>⟨aD3 k,fun f=>rpL_nil f k⟩) (fun n r h=>?_) (fun n r k hk ih h=>?_) (fun n r k ih h=>?_)
 ·rw[fF] at h;have:=zZ n;omega
 ·rw[fF] at h;have:=kM n;omega
 rw[fF] at h
 obtain⟨h1,h2⟩:=ih (by omega)
 exact⟨by rw[nd_on,h1],fun f=>by rw[rp_on,h2]⟩
theorem nd_le:∀ts k x,ndL ts k=some x→k+iH x≤gB ts:=by
 refine aC1 (fun k x h=>?_) (fun n r x h=>?_) (fun n r k hk ih x h=>?_) (fun n r k ih x h=>?_)
 ·rw[aD3] at h;cases h
 ·rw[nd_0] at h;cases h;rw[fF];omega
 ·rw[nd_in hk] at h;have:=ih x h;rw[fF,kM n];omega
 rw[nd_on] at h;have:=ih x h;rw[fF];omega
theorem rp_cnt (f:Node→List Node):∀ts k x,ndL ts k=some x→gB (rpL f ts k)+iH x=gB ts+gB (f x):=by
 refine aC1 (fun k x h=>?_) (fun n r x h=>?_) (fun n r k hk ih x h=>?_) (fun n r k ih x h=>?_)
 ·rw[aD3] at h;cases h
 ·rw[nd_0] at h;cases h;rw[rp_0,yS,fF];omega
 ·rw[nd_in hk] at h;have:=ih x h;rw[rp_in hk,fF,fF,cntN_re,kM n];omega
 rw[nd_on] at h;have:=ih x h;rw[rp_on,fF,fF];omega
theorem rp_congr (f g:Node→List Node):∀ts k,(∀x,ndL ts k=some x→f x=g x)→rpL f ts k=rpL g ts k:=by
 refine aC1 (fun k h=>?_) (fun n r h=>?_) (fun n r k hk ih h=>?_) (fun n r k ih h=>?_)
 ·rw[rpL_nil,rpL_nil]
 ·rw[rp_0,rp_0,h n (nd_0 n r)]
 ·rw[rp_in hk,rp_in hk,ih fun x hx=>h x (by rw[nd_in hk];exact hx)]
 rw[rp_on,rp_on,ih fun x hx=>h x (by rw[nd_on];exact hx)]
theorem rp_id:∀ts k,rpL (fun x=>[x]) ts k=ts:=by
 refine aC1 (fun k=>rpL_nil _ k) (fun n r=>by rw[rp_0];rfl) (fun n r k hk ih=>?_) (fun n r k ih=>?_)
 ·rw[rp_in hk,ih,re_kids]
 rw[rp_on,ih]
theorem rp_rp (f g:Node→List Node):∀ts k x y j,ndL ts k=some x→f x=[y]→j<iH y→rpL g (rpL f ts k) (k+j)=rpL (fun _=>rpL g [y] j) ts k:=by
 refine aC1 (fun k x y j h=>?_) (fun n r x y j h hf hj=>?_) (fun n r k hk ih x y j h hf hj=>?_) (fun n r k ih x y j h hf hj=>?_)
 ·rw[aD3] at h;cases h
 ·rw[nd_0] at h;cases h
  rw[rp_0,rp_0,hf,Nat.zero_add,List.singleton_append,J4,J4]
  split
  ·simp
  rfl
 ·rw[nd_in hk] at h
  have h1:=rp_cnt f _ _ _ h
  have h2:=nd_le _ _ _ h
  rw[hf,fF,xH] at h1
  rw[rp_in hk,rp_in hk,show k+1+j=(k+j)+1 by omega,rp_in (by show k+j<gB (rpL f n.kids k);omega)]
  show(n.re _).re (rpL g (rpL f n.kids k) (k+j))::r=_
  rw[ih x y j h hf hj];rfl
 rw[nd_on] at h
 rw[rp_on,rp_on,Nat.add_assoc,rp_on,ih x y j h hf hj]
theorem nd_app:∀(A B:List Node) (k:Nat),ndL (A++B) k=if k<gB A then ndL A k else ndL B (k-gB A)
 | [],B,k=>by rw[xH,if_neg (by omega)];rfl
 |n::A,B,k=>by
  rw[List.cons_append,X4,X4,fF,nd_app A B]
  have:=zZ n
  by_cases h0:k=0
  ·rw[if_pos h0,if_pos (by omega),if_pos h0]
  rw[if_neg h0,if_neg h0]
  by_cases h1:k<iH n
  ·rw[if_pos h1,if_pos (by omega),if_pos h1]
  rw[if_neg h1,if_neg h1]
  by_cases h2:k<iH n+gB A
  ·rw[if_pos (by omega),if_pos h2]
  rw[if_neg (by omega),if_neg h2,Nat.sub_sub]
theorem rp_app (f:Node→List Node):∀(A B:List Node) (k:Nat),rpL f (A++B) k=if k<gB A then rpL f A k++B else A++rpL f B (k-gB A)
 | [],B,k=>by rw[xH,if_neg (by omega)];rfl
 |n::A,B,k=>by
  rw[List.cons_append,J4,J4,fF,rp_app f A B]
  have:=zZ n
  by_cases h0:k=0
  ·rw[if_pos h0,if_pos (by omega),if_pos h0];simp
  rw[if_neg h0,if_neg h0]
  by_cases h1:k<iH n
  ·rw[if_pos h1,if_pos (by omega),if_pos h1];simp
  rw[if_neg h1,if_neg h1]
  by_cases h2:k<iH n+gB A
  ·rw[if_pos (by omega),if_pos h2];simp
  rw[if_neg (by omega),if_neg h2,Nat.sub_sub];simp
theorem at_rp:∀ts k pre,(k<gB ts→∃t i p x,atL pre ts k=some (t,i,p)∧t[i]?=some x∧ndL ts k=some x∧∀ys,p (t.take i++ys++t.drop (i+1))=pre++rpL (fun _=>ys) ts k)∧(gB ts≤k→atL pre ts k=none):=by
 refine aC1 (fun k pre=>⟨fun h=>?_,fun _=>atL_nil pre k⟩) (fun n r pre=>⟨fun _=>?_,fun h=>?_⟩) (fun n r k hk ih pre=>⟨fun _=>?_,fun h=>?_⟩) (fun n r k ih pre=>⟨fun h=>?_,fun h=>?_⟩)
 ·rw[xH] at h;omega
 ·exact⟨_,_,_,n,by rw[xE,if_pos rfl],by simp,nd_0 n r,fun ys=>by rw[rp_0,id];simp⟩
 ·rw[fF] at h;have:=zZ n;omega
 ·obtain⟨t,i,p,x,h1,h2,h3,h4⟩:=(ih []).1 hk
  have:=kM n
  refine⟨t,i,_,x,by rw[xE,if_neg (by omega),if_pos (by omega),atN_eq,Nat.add_sub_cancel,h1];rfl,h2,by rw[nd_in hk,h3],fun ys=>?_⟩
  simp only
  rw[h4,rp_in hk];simp
 ·rw[fF] at h;have:=kM n;omega
 ·rw[fF] at h
  have:=zZ n
  obtain⟨t,i,p,x,h1,h2,h3,h4⟩:=(ih (pre++[n])).1 (by omega)
  exact⟨t,i,p,x,by rw[xE,if_neg (by omega),if_neg (by omega),Nat.add_sub_cancel_left,h1],h2,by rw[nd_on,h3],fun ys=>by rw[h4,rp_on];simp⟩
 rw[fF] at h
 have:=zZ n
 rw[xE,if_neg (by omega),if_neg (by omega),Nat.add_sub_cancel_left]
 exact(ih _).2 (by omega)
def chF (c:Chg) (n:Node):List Node:=
 if c.op=0 then [⟨c.kind,c.text,n.at_,n.fin,n.kids⟩] else if c.op=1 then n.kids else [n.re ((yU n.kids c).getD n.kids)]
def okN (c:Chg) (n:Node):Bool:=decide (c.op=0)||decide (c.op=1)||(yU n.kids c).isSome
def V4 (ts:List Node) (c:Chg):Int×List Node:=
 if fieldsB c=true then
  if c.node< -1∨(c.node= -1∧c.op≠2) then(2,ts)
  else if c.node= -1 then(match yU ts c with
   |none=>(2,ts)
   |some ks=>(0,ks))
  else match ndL ts c.node.toNat with
   |none=>(2,ts)
   |some x=>if okN c x=true then(0,rpL (chF c) ts c.node.toNat) else(2,ts)
 else(1,ts)
theorem aG0 {l ks:List Node} {c:Chg} (h:yU l c=some ks):gB ks=gB l+1:=by
 unfold yU at h
 split at h
 ·cases h
 cases h
 rename_i hn
 rw[yS,fF,kM]
 simp only
 have h1:gB l=gB (l.take c.index.toNat)+(gB ((l.drop c.index.toNat).take c.count.toNat)+gB (l.drop (c.index.toNat+c.count.toNat))):=by
  conv=>lhs;rw[←List.take_append_drop c.index.toNat l,yS,←List.take_append_drop c.count.toNat (l.drop c.index.toNat),yS,List.drop_drop]
 rw[h1];omega
theorem chF_cnt (c:Chg) (n:Node):gB (chF c n)≤iH n+1:=by
 have hn:=kM n
 unfold chF
 split
 ·rw[fF,xH,kM];simp only;omega
 split
 ·omega
 rw[fF,xH,cntN_re]
 cases h:yU n.kids c with
 |none=>rw[Option.getD_none];omega
 |some ks=>rw[Option.getD_some,aG0 h];omega
theorem take_set {t:List Node} {i:Nat} {x y:Node} (h:t[i]?=some x):t.set i y=t.take i++[y]++t.drop (i+1):=by
 have:=(List.getElem?_eq_some_iff.1 h).1
 rw[List.set_eq_take_append_cons_drop,if_pos this];simp
theorem change1_m (ts:List Node) (c:Chg) (h:gB ts≤1000000) (hc:(Lit.int .i64 c.node).wf=true):lJ ts c=some (V4 ts c):=by
 unfold lJ V4
 have hb:=I64.r hc
 by_cases hf:fieldsB c=true
 ·rw[if_pos hf,if_pos hf]
  by_cases h1:c.node< -1∨(c.node= -1∧c.op≠2)
  ·rw[if_pos h1,if_pos h1]
  rw[if_neg h1,if_neg h1]
  have hl:=qH ts
  have h012:c.op=0∨c.op=1∨c.op=2:=by
   unfold fieldsB at hf
   by_cases e0:c.op=0
   ·exact Or.inl e0
   by_cases e1:c.op=1
   ·exact Or.inr (Or.inl e1)
   rw[if_neg e0,if_neg e1] at hf;exact Or.inr (Or.inr (of_decide_eq_true hf))
  by_cases hm:c.node= -1
  ·have h2:c.op=2:=Classical.byContradiction fun e=>h1 (Or.inr ⟨hm,e⟩)
   rw[if_neg (by omega),if_neg (by omega),if_pos hm]
   unfold zA
   rw[if_pos hm]
   simp only[bsm]
   rw[if_pos (by omega)]
   cases yU ts c<;>rfl
  rw[if_neg hm]
  have hat:m_at ts c.node=some (atL [] ts c.node.toNat):=by
   unfold m_at;rw[if_pos ⟨by omega,by omega,by omega⟩]
  by_cases hk:c.node.toNat<gB ts
  ·obtain⟨t,i,p,x,a1,a2,a3,a4⟩:=(at_rp ts c.node.toNat []).1 hk
   obtain⟨p1,p2⟩:=atL_plug _ ts [] _ (Nat.le_refl _) a1
   rw[a3]
   simp only
   have hx:=nd_le _ _ _ a3
   have hxk:=kM x
   have hkl:=qH x.kids
   simp only[List.length_nil] at p2
   have e1:∀ys,chF c x=ys→p (t.take i++ys++t.drop (i+1))=rpL (chF c) ts c.node.toNat:=fun ys hy=>by
    rw[a4,List.nil_append]
    exact rp_congr _ _ _ _ fun z hz=>by rw[a3] at hz;cases hz;exact hy.symm
   rcases h012 with e|e|e
   ·rw[if_pos e,if_pos (by unfold okN;simp[e])]
    unfold E8
    rw[hat,a1]
    simp only[bsm]
    rw[a2,Option.map_some,take_set a2,e1 _ (by unfold chF;rw[if_pos e])]
   ·rw[if_neg (by omega),if_pos e,if_pos (by unfold okN;simp[e])]
    unfold X0
    rw[hat,a1]
    simp only[bsm]
    rw[a2,bsm,if_pos (by omega),e1 _ (by unfold chF;rw[if_neg (by omega),if_pos e])]
   rw[if_neg (by omega),if_neg (by omega)]
   unfold zA
   rw[if_neg hm,hat,a1]
   simp only[bsm]
   rw[a2,Option.map_some,bsm]
   simp only
   rw[if_pos (by omega)]
   unfold okN
   cases hi:yU x.kids c with
   |none=>rw[if_neg (by simp[e])]
   |some ks=>rw[if_pos (by simp)];simp only;rw[take_set a2,e1 _ (by unfold chF;rw[if_neg (by omega),if_neg (by omega),hi];rfl)]
  rw[(nd_none ts _ (by omega)).1]
  have hno:=(at_rp ts c.node.toNat []).2 (by omega)
  simp only
  rcases h012 with e|e|e
  ·rw[if_pos e];unfold E8;rw[hat,hno];rfl
  ·rw[if_neg (by omega),if_pos e];unfold X0;rw[hat,hno];rfl
  rw[if_neg (by omega),if_neg (by omega)];unfold zA;rw[if_neg hm,hat,hno];rfl
 rw[if_neg hf,if_neg hf]
theorem chg1_cnt (ts:List Node) (c:Chg):gB (V4 ts c).2≤gB ts+1:=by
 unfold V4
 split
 ·split
  ·simp
  split
  ·split
   ·simp
   rename_i h;simp only;rw[aG0 h];omega
  split
  ·simp
  rename_i x hx
  split
  ·have h1:=rp_cnt (chF c) _ _ _ hx
   have h2:=chF_cnt c x
   simp only;omega
  simp
 simp
end Go.Proofs.YtopnldfjcciieaaGreat

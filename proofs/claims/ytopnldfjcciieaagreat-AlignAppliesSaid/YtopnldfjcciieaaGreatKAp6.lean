/- The code goes as its model: assessor/assessorref38.count, assessor/assessorref38.insert, assessor/assessorref38.change, assessor/assessorref38.Apply, assessor/a -/
import Derived.Test.YtopnldfjcciieaaGreatKApT
import Derived.Test.YtopnldfjcciieaaGreatKAp3
import Derived.Test.YtopnldfjcciieaaGreatKAp5
import Derived.Test.YtopnldfjcciieaaGreatKAp4
set_option linter.unusedVariables false
set_option linter.unusedSimpArgs false
set_option maxRecDepth 100000
set_option maxHeartbeats 4000000
namespace Go.Proofs.YtopnldfjcciieaaGreat
open Go.RowKit
theorem aB6 {Z:World} {ρ:PH} {L:List bI} {w:World} (p0:(List Node)) (vp0:Value) (hp0:aH ρ vp0 p0) (hp:Hp Z ρ (L) w) (r:Int) (hm:nJ p0=some r):
  Calls Tryz.prog 60 #[vp0] w (Ret fun v w'=>v=(Iv r)∧Hp Z ρ (L) w'):=by
 refine enter (N:=19) Tryz.func60 rfl rfl [(0,vp0)] rfl (aY ⟨rfl,trivial⟩) fun a hE=>?_
 unfold nJ at hm
 refine aF (aA ?_)
 refine S hE 1 rfl fun a hE=>aB (aF ?_)
 refine aA (S hE 1 rfl fun a hE=>?_)
 refine aB (aF ?_)
 refine aF (aA ?_)
 refine S hE 1 rfl fun a hE=>aB ?_
 obtain⟨b1,hc1,hm⟩:=bnd hm
 refine dK (fun a w=>Env 19 [(3,(Iv b1))] a∧Hp Z ρ (L) w) ?_ ?_
 ·refine eF hc1 (fun s a w=>Env 19 [(0,vp0),(3,(Iv s.1)),(4,(Iv s.2))] a∧Hp Z ρ (L) w) ?_ ?_
  ·exact⟨hE.cut ⟨rfl,rfl,rfl,trivial⟩,hp⟩
  rintro⟨aO,aS⟩ st a w ⟨hE,hp⟩ hl1
  dsimp only at hE hp hl1
  unfold nG at hl1
  refine aF (aF ?_)
  refine aA (S hE 2 rfl fun a hE=>?_)
  refine V hE hp rfl (bW rfl hE rfl (aH.len hp0 eH)) fun a hE=>S hE 1 rfl fun a hE=>aB ?_
  refine dG hE rfl (fun hc2=>?_) (fun hc2=>?_)
  ·replace hl1:=(it hc2).symm.trans hl1
   refine aZ (aF ?_)
   refine dO (aA ?_)
   refine S hE 3 rfl fun a hE=>?_
   obtain⟨x1,ex1,hl1⟩:=bnd hl1
   obtain⟨b2,b2o,b2c,b2r,b2k,b2f⟩:=aH.at hp0 eH ex1
   obtain⟨jJ,rfl,wG⟩:=NodeAt.opens b2k
   have b2f:AtP ρ b2 b2o [(Iv x1.kind),(.string x1.text),(Iv x1.at_),(Iv x1.fin),jJ]:=b2f
   refine V hE hp rfl (aP rfl hE rfl rfl b2r) fun a hE=>V hE hp rfl (aJ rfl hE rfl (fun w hw=>aX (cs:=[(Iv x1.kind),(.string x1.text),(Iv x1.at_),(Iv x1.fin),jJ]) dF (fun j u hj=>cell_of hw.le (b2f j u hj)))) fun a hE=>?_
   obtain⟨x2,ex2,hl1⟩:=bnd hl1
   refine Cl hE rfl rfl ent23 (yG x1 jJ wG hp x2 ex2) ⟨rfl,trivial⟩ fun v a w hR hE=>?_
   obtain⟨rfl,hp⟩:=hR
   have hp:=r0 hp
   obtain⟨x3,ex3,hl1⟩:=bnd hl1
   refine V hE hp rfl (bF rfl hE rfl rfl (aK ex3)) fun a hE=>S hE 1 rfl fun a hE=>aB ?_
   have hE:=hE.cut (E':=[(0,vp0),(3,(Iv x3)),(4,(Iv aS))]) ⟨rfl,rfl,rfl,trivial⟩
   refine aA (S hE 1 rfl fun a hE=>?_)
   obtain⟨x4,ex4,hl1⟩:=bnd hl1
   refine V hE hp rfl (bF rfl hE rfl rfl (aK ex4)) fun a hE=>S hE 1 rfl fun a hE=>aB ?_
   exact⟨_,(oj hl1).symm,hE.cut ⟨rfl,rfl,rfl,trivial⟩,hp⟩
  replace hl1:=(ie hc2).symm.trans hl1
  refine dU ?_
  refine⟨_,(oj hl1).symm,fun hbb=>?_⟩
  subst hbb
  exact⟨hE.cut ⟨rfl,trivial⟩,hp⟩
 rintro a w ⟨hE,hp⟩
 refine aF (aA ?_)
 refine S hE 2 rfl fun a hE=>aB (dB ?_)
 obtain rfl:=oj hm
 exact gW hE rfl rfl ⟨_,rfl,rfl,hp⟩
theorem xR {Z:World} {ρ:PH} {L:List bI} {w:World} (p0:(List Node)) (vp0:Value) (hp0:aH ρ vp0 p0) (p1:Chg) (hp:Hp Z ρ (L) w) (r:((List Node)×Bool)) (hm:kD p0 p1=some r):
  Calls Tryz.prog 59 #[vp0,(.agg #[(Iv p1.op),(Iv p1.node),(Iv p1.index),(Iv p1.count),(Iv p1.kind),(.string p1.text)])] w (Ret fun v w'=>∃(ρ':PH) (vr1:Value),ρ.le ρ'∧v= .tuple #[vr1,(.bool r.2)]∧aH ρ' vr1 r.1∧Hp Z ρ' (L) w'):=by
 refine enter (N:=69) Tryz.func59 rfl rfl [(0,vp0),(1,(.agg #[(Iv p1.op),(Iv p1.node),(Iv p1.index),(Iv p1.count),(Iv p1.kind),(.string p1.text)]))] rfl (aY ⟨rfl,rfl,trivial⟩) fun a hE=>?_
 unfold kD at hm
 refine aF (aA ?_)
 refine iU (wk0 rfl) rfl rfl hE hp rfl (v:=(.agg #[(Iv p1.op),(Iv p1.node),(Iv p1.index),(Iv p1.count),(Iv p1.kind),(.string p1.text)])) rfl ?_
 intro a w b1 hE hp
 have hp:=r1 hp
 refine S hE 2 rfl fun a hE=>aB (aF ?_)
 refine aF (aA ?_)
 refine V hE hp rfl (xf hE rE rfl rfl) fun a hE=>V hE hp rfl (xl hE aU 0 rfl rfl rfl rfl) fun a hE=>S hE 2 rfl fun a hE=>?_
 refine iC [_,_,_,_] (fun a w=>Env 69 [(15,(.bool ((decide (p1.index<0))||(decide (p1.count<0))))),(0,vp0),(3,(Pv b1 0))] a∧Hp Z ρ (Pt b1 (.cells #[(Iv p1.op),(Iv p1.node),(Iv p1.index),(Iv p1.count),(Iv p1.kind),(.string p1.text)] 58 (0,0))::L) w) ?_ ?_
 ·rcases Bool.eq_false_or_eq_true (decide (p1.index<0)) with hc1|hc1
  ·
   refine Gk hE hc1 rfl fun a hE=>Gk hE hc1 rfl fun a hE=>Gk hE hc1 rfl fun a hE=>pk1 hE hc1 rfl rfl rfl rfl fun a hE=>?_
   have hE:=hE.eqv (v':=(.bool ((decide (p1.index<0))||(decide (p1.count<0))))) (by rw[hc1];rfl)
   exact aB ⟨hE.cut ⟨rfl,rfl,rfl,trivial⟩,hp⟩
  refine G hE hp hc1 rfl (xf hE wU rfl rfl) fun a hE=>G hE hp hc1 rfl (xl hE aU 0 rfl rfl rfl rfl) fun a hE=>Gs hE hc1 rfl rfl fun a hE=>pk0 hE hc1 rfl rfl rfl rfl fun a hE=>?_
  have hE:=hE.eqv (v':=(.bool ((decide (p1.index<0))||(decide (p1.count<0))))) (by rw[hc1];rfl)
  exact aB ⟨hE.cut ⟨rfl,rfl,rfl,trivial⟩,hp⟩
 rintro a w ⟨hE,hp⟩
 refine S hE 1 rfl fun a hE=>?_
 refine iC [_,_,_,_,_,_] (fun a w=>Env 69 [(22,(.bool (((decide (p1.index<0))||(decide (p1.count<0)))||(decide ((p0.length:Int)<p1.index))))),(0,vp0),(3,(Pv b1 0))] a∧Hp Z ρ (Pt b1 (.cells #[(Iv p1.op),(Iv p1.node),(Iv p1.index),(Iv p1.count),(Iv p1.kind),(.string p1.text)] 58 (0,0))::L) w) ?_ ?_
 ·rcases Bool.eq_false_or_eq_true ((decide (p1.index<0))||(decide (p1.count<0))) with hc2|hc2
  ·
   refine Gk hE hc2 rfl fun a hE=>Gk hE hc2 rfl fun a hE=>Gk hE hc2 rfl fun a hE=>Gk hE hc2 rfl fun a hE=>Gk hE hc2 rfl fun a hE=>pk1 hE hc2 rfl rfl rfl rfl fun a hE=>?_
   have hE:=hE.eqv (v':=(.bool (((decide (p1.index<0))||(decide (p1.count<0)))||(decide ((p0.length:Int)<p1.index))))) (by rw[hc2];rfl)
   exact aB ⟨hE.cut ⟨rfl,rfl,rfl,trivial⟩,hp⟩
  refine G hE hp hc2 rfl (xf hE rE rfl rfl) fun a hE=>G hE hp hc2 rfl (xl hE aU 0 rfl rfl rfl rfl) fun a hE=>Gs hE hc2 rfl rfl fun a hE=>G hE hp hc2 rfl (bW rfl hE rfl (aH.len hp0 eH)) fun a hE=>Gs hE hc2 rfl rfl fun a hE=>pk0 hE hc2 rfl rfl rfl rfl fun a hE=>?_
  have hE:=hE.eqv (v':=(.bool (((decide (p1.index<0))||(decide (p1.count<0)))||(decide ((p0.length:Int)<p1.index))))) (by rw[hc2];rfl)
  exact aB ⟨hE.cut ⟨rfl,rfl,rfl,trivial⟩,hp⟩
 rintro a w ⟨hE,hp⟩
 refine S hE 1 rfl fun a hE=>?_
 obtain⟨m1,hg1,hm⟩:=bnd hm
 refine iC [_,_,_,_,_,_,_,_,_] (fun a w=>Env 69 [(32,(.bool m1)),(0,vp0),(3,(Pv b1 0))] a∧Hp Z ρ (Pt b1 (.cells #[(Iv p1.op),(Iv p1.node),(Iv p1.index),(Iv p1.count),(Iv p1.kind),(.string p1.text)] 58 (0,0))::L) w) ?_ ?_
 ·rcases Bool.eq_false_or_eq_true (((decide (p1.index<0))||(decide (p1.count<0)))||(decide ((p0.length:Int)<p1.index))) with hc3|hc3
  ·
   replace hg1:=(it hc3).symm.trans hg1
   refine Gk hE hc3 rfl fun a hE=>Gk hE hc3 rfl fun a hE=>Gk hE hc3 rfl fun a hE=>Gk hE hc3 rfl fun a hE=>Gk hE hc3 rfl fun a hE=>Gk hE hc3 rfl fun a hE=>Gk hE hc3 rfl fun a hE=>Gk hE hc3 rfl fun a hE=>pk1 hE hc3 rfl rfl rfl rfl fun a hE=>?_
   obtain rfl:=oj hg1
   exact aB ⟨hE.cut ⟨rfl,rfl,rfl,trivial⟩,hp⟩
  replace hg1:=(ie hc3).symm.trans hg1
  refine G hE hp hc3 rfl (xf hE wU rfl rfl) fun a hE=>G hE hp hc3 rfl (xl hE aU 0 rfl rfl rfl rfl) fun a hE=>Gs hE hc3 rfl rfl fun a hE=>G hE hp hc3 rfl (bW rfl hE rfl (aH.len hp0 eH)) fun a hE=>G hE hp hc3 rfl (xf hE rE rfl rfl) fun a hE=>G hE hp hc3 rfl (xl hE aU 0 rfl rfl rfl rfl) fun a hE=>?_
  obtain⟨x1,ex1,hg1⟩:=bnd hg1
  refine G hE hp hc3 rfl (dP rfl hE rfl rfl (aK ex1)) fun a hE=>Gs hE hc3 rfl rfl fun a hE=>pk0 hE hc3 rfl rfl rfl rfl fun a hE=>?_
  obtain rfl:=oj hg1
  exact aB ⟨hE.cut ⟨rfl,rfl,rfl,trivial⟩,hp⟩
 rintro a w ⟨hE,hp⟩
 refine aB ?_
 refine dG hE rfl (fun hc4=>?_) (fun hc4=>?_)
 ·replace hm:=(it hc4).symm.trans hm
  refine aF (aA ?_)
  refine S hE 3 rfl fun a hE=>aB (dB ?_)
  obtain rfl:=oj hm
  exact vF hE rfl rfl rfl ⟨_,rfl,_,_,(PH.le.rf _),rfl,hp0,(hp.drop)⟩
 replace hm:=(ie hc4).symm.trans hm
 refine aZ (aF ?_)
 obtain⟨x2,ex2,hm⟩:=bnd hm
 obtain⟨x3,ex3,hm⟩:=bnd hm
 obtain⟨x4,ex4,hm⟩:=bnd hm
 have hp:=hp.drew
 refine fP ([([],At0 Z ρ),([],At1 Z ρ (Pt b1 (.cells #[(Iv p1.op),(Iv p1.node),(Iv p1.index),(Iv p1.count),(Iv p1.kind),(.string p1.text)] 58 (0,0))))]:Facts) (fun a w=>∃y3:Nat,∃y2:Value,∃yxs2:List Value,dE ρ (x4:(List Node)) yxs2∧Env 69 [(0,vp0),(3,(Pv b1 0)),(6,(Pv y3 0))] a∧Hp Z ρ (Pt y3 (.cells #[(Iv p1.kind),(.string p1.text),(Iv 0),(Iv 0),y2] 24 (0,0))::jE 24 y2 (x4:(List Node)) yxs2::Pt b1 (.cells #[(Iv p1.op),(Iv p1.node),(Iv p1.index),(Iv p1.count),(Iv p1.kind),(.string p1.text)] 58 (0,0))::L) w) (by kernel_rfl) ⟨fun _=>⟨_,hp⟩,fun _=>⟨_,(hp.get 0 rfl)⟩,trivial⟩ (fun hS=>?_) ?_
 ·
  generalize w.drew=w at hS hp⊢
  refine T0 0 hE hS rfl rfl rfl (by kernel_rfl) (fun _=>xf hE fldty58_4 rfl rfl) fun a hE hS=>T 1 1 hE hS rfl rfl rfl (by kernel_rfl) (fun _=>xl hE aU 0 rfl rfl rfl rfl) fun a hE hS=>T0 2 hE hS rfl rfl rfl (by kernel_rfl) (fun _=>xf hE aD5 rfl rfl) fun a hE hS=>T 3 1 hE hS rfl rfl rfl (by kernel_rfl) (fun _=>xl hE yD 0 rfl rfl rfl rfl) fun a hE hS=>Ts [5] hE hS rfl rfl (by kernel_rfl) fun a hE hS=>T0 6 hE hS rfl rfl rfl (by kernel_rfl) (fun _=>xf hE rE rfl rfl) fun a hE hS=>T 7 1 hE hS rfl rfl rfl (by kernel_rfl) (fun _=>xl hE aU 0 rfl rfl rfl rfl) fun a hE hS=>T0 8 hE hS rfl rfl rfl (by kernel_rfl) (fun _=>xf hE rE rfl rfl) fun a hE hS=>T 9 1 hE hS rfl rfl rfl (by kernel_rfl) (fun _=>xl hE aU 0 rfl rfl rfl rfl) fun a hE hS=>T0 10 hE hS rfl rfl rfl (by kernel_rfl) (fun _=>xf hE wU rfl rfl) fun a hE hS=>T 11 1 hE hS rfl rfl rfl (by kernel_rfl) (fun _=>xl hE aU 0 rfl rfl rfl rfl) fun a hE hS=>T0 12 hE hS rfl rfl rfl (by kernel_rfl) (fun _=>bF rfl hE rfl rfl (aK ex2)) fun a hE hS=>?_
  obtain⟨v3,v3r,f2⟩:=aH.part hp0 eH (some (.i64,p1.index)) (some (.i64,x2)) rfl rfl ex3
  refine T0 13 hE hS rfl rfl rfl (by kernel_rfl) (v:=v3) (fun _=>nH rfl hE rfl (some (.i64,p1.index)) (some (.i64,x2)) (by exact rfl) (by exact rfl) v3r) fun a hE hS=>?_
  refine fM [4,16] (by kernel_rfl) rfl ?_
  refine List.forall_mem_cons.2 ⟨?_,List.forall_mem_cons.2 ⟨?_,fun _ h=>absurd h (by simp)⟩⟩
  ·
   refine dR rfl ?_
   refine eG (wk0 rfl) rfl rfl hE hp rfl [] trivial [] 24 (fun w=>by simp[Instr.buildSlice,Instr.fill,Value.cells,go_sem]) ?_
   intro a w b4 hE hp
   have hp:=r2 hp
   refine aB (aC ⟨gp0 hp,gp 1 hp rfl,trivial⟩ fun hS=>?_)
   refine fM [14,16] (by kernel_rfl) rfl ?_
   refine List.forall_mem_cons.2 ⟨?_,List.forall_mem_cons.2 ⟨?_,fun _ h=>absurd h (by simp)⟩⟩
   ·
    refine dR rfl ?_
    have hR4:dE ρ ([]:List Node) []:=rfl
    have hp:=(hp.get 0 rfl).imp (yS (l:=([]:List Node)) (n:=0) (cs:=[]) rfl (by decide) rfl)
    have hp:=r2 hp
    refine aA5 (wk0 rfl) rfl rfl hE hp rfl eH rfl rfl 0 rfl rfl f2 ex4 ?_
    intro v4 ys2 a w hR6 hE hp
    have hR5:dE ρ x4 (([])++ys2):=(lJ ex4).2▸dE.app hR4 hR6
    have hp:=r2 hp
    refine aB (aC ⟨gp0 hp,gp 1 hp rfl,trivial⟩ fun hS=>?_)
    refine T0 15 hE hS rfl rfl rfl (by kernel_rfl) (v:=(.agg #[(Iv p1.kind),(.string p1.text),(Iv 0),(Iv 0),v4])) (fun _=>kP rfl hE [(0,(Iv p1.kind)),(1,(.string p1.text)),(4,v4)] (by exact⟨⟨rfl,rfl⟩,⟨rfl,rfl⟩,⟨rfl,rfl⟩,trivial⟩) (fun w=>by have hc0:=jE.cells hp 0 rfl;simp only[Value.cells] at hc0;simp[Instr.build,Instr.fill,Value.cells,hc0,go_sem])) fun a hE hS=>?_
    refine W1 16 (by kernel_rfl) rfl ?_
    refine dH (wk0 rfl) rfl rfl hE hp rfl [(Iv 0),(.string ByteArray.empty),(Iv 0),(Iv 0),N0] (fun w=>by simp[Instr.alloc,go_sem]<;>rfl) ?_
    intro a w b5 hE hp
    have hp:=r3 hp
    refine aB (aC ⟨gp0 hp,gp 2 hp rfl,trivial⟩ fun hS=>?_)
    refine W1 17 (by kernel_rfl) rfl ?_
    refine aV (wk0 rfl) rfl hE hp rfl rfl rfl 0 rfl dF.size_ rfl (aN ⟨rfl,rfl,rfl,rfl,(jE.one hp 1 rfl),trivial⟩) [(Iv p1.kind),(.string p1.text),(Iv 0),(Iv 0),v4] rfl ?_
    intro w hp
    have hp:=r3 hp
    refine aB (aC ⟨gp0 hp,gp 2 hp rfl,trivial⟩ fun hS=>?_)
    exact bM (by kernel_rfl) ⟨_,_,_,hR5,hE.cut ⟨rfl,rfl,rfl,trivial⟩,hp⟩
   refine dR rfl ?_
   refine dH (wk0 rfl) rfl rfl hE hp rfl [(Iv 0),(.string ByteArray.empty),(Iv 0),(Iv 0),N0] (fun w=>by simp[Instr.alloc,go_sem]<;>rfl) ?_
   intro a w b6 hE hp
   have hp:=r3 hp
   refine aB (aC ⟨gp0 hp,gp 2 hp rfl,trivial⟩ fun hS=>?_)
   refine W1 14 (by kernel_rfl) rfl ?_
   have hR7:dE ρ ([]:List Node) []:=rfl
   have hp:=(hp.get 1 rfl).imp (yS (l:=([]:List Node)) (n:=0) (cs:=[]) rfl (by decide) rfl)
   have hp:=r3 hp
   refine aA5 (wk0 rfl) rfl rfl hE hp rfl eH rfl rfl 0 rfl rfl f2 ex4 ?_
   intro v5 ys3 a w hR9 hE hp
   have hR8:dE ρ x4 (([])++ys3):=(lJ ex4).2▸dE.app hR7 hR9
   have hp:=r3 hp
   refine aB (aC ⟨gp0 hp,gp 2 hp rfl,trivial⟩ fun hS=>?_)
   refine T0 15 hE hS rfl rfl rfl (by kernel_rfl) (v:=(.agg #[(Iv p1.kind),(.string p1.text),(Iv 0),(Iv 0),v5])) (fun _=>kP rfl hE [(0,(Iv p1.kind)),(1,(.string p1.text)),(4,v5)] (by exact⟨⟨rfl,rfl⟩,⟨rfl,rfl⟩,⟨rfl,rfl⟩,trivial⟩) (fun w=>by have hc0:=jE.cells hp 0 rfl;simp only[Value.cells] at hc0;simp[Instr.build,Instr.fill,Value.cells,hc0,go_sem])) fun a hE hS=>?_
   refine W1 17 (by kernel_rfl) rfl ?_
   refine aV (wk0 rfl) rfl hE hp rfl rfl rfl 1 rfl dF.size_ rfl (aN ⟨rfl,rfl,rfl,rfl,(jE.one hp 0 rfl),trivial⟩) [(Iv p1.kind),(.string p1.text),(Iv 0),(Iv 0),v5] rfl ?_
   intro w hp
   have hp:=r3 hp
   refine aB (aC ⟨gp0 hp,gp 2 hp rfl,trivial⟩ fun hS=>?_)
   exact bM (by kernel_rfl) ⟨_,_,_,hR8,hE.cut ⟨rfl,rfl,rfl,trivial⟩,(((hp.get 2 rfl).get 1 rfl).get 2 rfl)⟩
  refine dR rfl ?_
  refine dH (wk0 rfl) rfl rfl hE hp rfl [(Iv 0),(.string ByteArray.empty),(Iv 0),(Iv 0),N0] (fun w=>by simp[Instr.alloc,go_sem]<;>rfl) ?_
  intro a w b7 hE hp
  have hp:=r2 hp
  refine aB (aC ⟨gp0 hp,gp 1 hp rfl,trivial⟩ fun hS=>?_)
  refine W1 4 (by kernel_rfl) rfl ?_
  refine eG (wk0 rfl) rfl rfl hE hp rfl [] trivial [] 24 (fun w=>by simp[Instr.buildSlice,Instr.fill,Value.cells,go_sem]) ?_
  intro a w b8 hE hp
  have hp:=r3 hp
  refine aB (aC ⟨gp0 hp,gp 2 hp rfl,trivial⟩ fun hS=>?_)
  refine W1 14 (by kernel_rfl) rfl ?_
  have hR10:dE ρ ([]:List Node) []:=rfl
  have hp:=(hp.get 0 rfl).imp (yS (l:=([]:List Node)) (n:=0) (cs:=[]) rfl (by decide) rfl)
  have hp:=r3 hp
  refine aA5 (wk0 rfl) rfl rfl hE hp rfl eH rfl rfl 0 rfl rfl f2 ex4 ?_
  intro v6 ys4 a w hR12 hE hp
  have hR11:dE ρ x4 (([])++ys4):=(lJ ex4).2▸dE.app hR10 hR12
  have hp:=r3 hp
  refine aB (aC ⟨gp0 hp,gp 2 hp rfl,trivial⟩ fun hS=>?_)
  refine T0 15 hE hS rfl rfl rfl (by kernel_rfl) (v:=(.agg #[(Iv p1.kind),(.string p1.text),(Iv 0),(Iv 0),v6])) (fun _=>kP rfl hE [(0,(Iv p1.kind)),(1,(.string p1.text)),(4,v6)] (by exact⟨⟨rfl,rfl⟩,⟨rfl,rfl⟩,⟨rfl,rfl⟩,trivial⟩) (fun w=>by have hc0:=jE.cells hp 0 rfl;simp only[Value.cells] at hc0;simp[Instr.build,Instr.fill,Value.cells,hc0,go_sem])) fun a hE hS=>?_
  refine W1 17 (by kernel_rfl) rfl ?_
  refine aV (wk0 rfl) rfl hE hp rfl rfl rfl 1 rfl dF.size_ rfl (aN ⟨rfl,rfl,rfl,rfl,(jE.one hp 0 rfl),trivial⟩) [(Iv p1.kind),(.string p1.text),(Iv 0),(Iv 0),v6] rfl ?_
  intro w hp
  have hp:=r3 hp
  refine aB (aC ⟨gp0 hp,gp 2 hp rfl,trivial⟩ fun hS=>?_)
  exact bM (by kernel_rfl) ⟨_,_,_,hR11,hE.cut ⟨rfl,rfl,rfl,trivial⟩,(((hp.get 2 rfl).get 1 rfl).get 2 rfl)⟩
 rintro a w ⟨y3,y2,yxs2,yhR2,hE,hp⟩
 refine aF (aA ?_)
 refine eG (wk0 rfl) rfl rfl hE hp rfl [] trivial [] 24 (fun w=>by simp[Instr.buildSlice,Instr.fill,Value.cells,go_sem]) ?_
 intro a w b9 hE hp
 have hp:=r4 hp
 refine S hE 1 rfl fun a hE=>V hE hp rfl (xf hE rE rfl rfl) fun a hE=>V hE hp rfl (xl hE aU 3 rfl rfl rfl rfl) fun a hE=>?_
 obtain⟨x5,ex5,hm⟩:=bnd hm
 obtain⟨v7,v7r,f3⟩:=aH.part hp0 eH none (some (.i64,p1.index)) rfl rfl ex5
 refine V hE hp rfl (v:=v7) (nH rfl hE rfl none (some (.i64,p1.index)) (by exact trivial) (by exact rfl) v7r) fun a hE=>?_
 have hR13:dE ρ ([]:List Node) []:=rfl
 have hp:=(hp.get 0 rfl).imp (yS (l:=([]:List Node)) (n:=0) (cs:=[]) rfl (by decide) rfl)
 have hp:=r4 hp
 obtain⟨x6,ex6,hm⟩:=bnd hm
 refine aA5 (wk0 rfl) rfl rfl hE hp rfl eH rfl rfl 0 rfl rfl f3 ex6 ?_
 intro v8 ys5 a w hR15 hE hp
 have hR14:dE ρ x6 (([])++ys5):=(lJ ex6).2▸dE.app hR13 hR15
 have hp:=r4 hp
 refine S hE 1 rfl fun a hE=>aB (aF ?_)
 refine aA (S hE 1 rfl fun a hE=>?_)
 refine V hE hp rfl (aJ rfl hE rfl (fun w hw=>aX (cs:=[(Iv p1.kind),(.string p1.text),(Iv 0),(Iv 0),y2]) dF (Hp.cN 1 rfl 0 _ (aT rfl) w hw))) fun a hE=>?_
 obtain⟨k1,k1a,k1d,hp⟩:=(hp.get 2 rfl).lend
 have f4:aH (ρ.un k1) y2 x4:=jE.ro k1d k1a yhR2
 have hp:=r3 hp
 refine eG (wk0 rfl) rfl rfl hE hp rfl [(0,(.agg #[(Iv p1.kind),(.string p1.text),(Iv 0),(Iv 0),y2]))] ⟨⟨rfl,rfl⟩,trivial⟩ [(Iv p1.kind),(.string p1.text),(Iv 0),(Iv 0),y2] 24 (fun w=>by have hc0:=aH.cells f4;simp only[Value.cells] at hc0;simp[Instr.buildSlice,Instr.fill,Value.cells,hc0,go_sem]) ?_
 intro a w b10 hE hp
 have hp:=r4 hp
 obtain⟨x7,ex7,hm⟩:=bnd hm
 have hR17:dE (ρ.un k1) ([(Node.mk p1.kind p1.text 0 0 x4)]:List Node) [(Iv p1.kind),(.string p1.text),(Iv 0),(Iv 0),y2]:=⟨_,_,rfl,(show NodeAt (ρ.un k1) (Node.mk p1.kind p1.text 0 0 x4) [(Iv p1.kind),(.string p1.text),(Iv 0),(Iv 0),y2] from NodeAt.shut (f4)),rfl⟩
 have hR16:dE (ρ.un k1) x7 ((([])++ys5)++[(Iv p1.kind),(.string p1.text),(Iv 0),(Iv 0),y2]):=(lJ ex7).2▸dE.app (dE.mono (PH.le_un _ k1) hR14) hR17
 refine aA4 (wk0 rfl) rfl rfl hE hp rfl eH rfl rfl 1 rfl rfl (l2:=[(Node.mk p1.kind p1.text 0 0 x4)]) (ys:=[(Iv p1.kind),(.string p1.text),(Iv 0),(Iv 0),y2]) rfl hR17 (fun j u hj=>by have:=Hp.cN 0 rfl 0 _ (aT rfl) w hp j u hj;simpa using this) ex7 ?_
 intro v9 a w hE hp
 have hp:=r4 hp
 refine S hE 1 rfl fun a hE=>aB (aF ?_)
 refine aA (S hE 2 rfl fun a hE=>?_)
 refine V hE hp rfl (xf hE rE rfl rfl) fun a hE=>V hE hp rfl (xl hE aU 3 rfl rfl rfl rfl) fun a hE=>V hE hp rfl (xf hE wU rfl rfl) fun a hE=>V hE hp rfl (xl hE aU 3 rfl rfl rfl rfl) fun a hE=>?_
 obtain⟨x8,ex8,hm⟩:=bnd hm
 refine V hE hp rfl (bF rfl hE rfl rfl (aK ex8)) fun a hE=>?_
 obtain⟨x9,ex9,hm⟩:=bnd hm
 obtain⟨v10,v10r,f5⟩:=aH.part (aH.mono hp0 (PH.le_un _ k1)) eH (some (.i64,x8)) none rfl rfl ex9
 refine V hE hp rfl (v:=v10) (nH rfl hE rfl (some (.i64,x8)) none (by exact rfl) (by exact trivial) v10r) fun a hE=>?_
 obtain⟨x10,ex10,hm⟩:=bnd hm
 refine aA5 (wk0 rfl) rfl rfl hE hp rfl eH rfl rfl 1 rfl rfl f5 ex10 ?_
 intro v11 ys6 a w hR19 hE hp
 have hR18:dE (ρ.un k1) x10 (((([])++ys5)++[(Iv p1.kind),(.string p1.text),(Iv 0),(Iv 0),y2])++ys6):=(lJ ex10).2▸dE.app hR16 hR19
 have hp:=r4 hp
 refine S hE 2 rfl fun a hE=>aB ?_
 have hE:=hE.cut (E':=[(4,v11),(5,(.bool true))]) ⟨rfl,rfl,trivial⟩
 refine dB ?_
 obtain⟨k2,k2a,k2d,hp⟩:=(hp.get 1 rfl).lend
 have f6:aH ((ρ.un k1).un k2) v11 x10:=jE.ro k2d k2a hR18
 have hp:Hp Z ((ρ.un k1).un k2) (_::_::_::L) w:=hp
 obtain rfl:=oj hm
 exact vF hE rfl rfl rfl ⟨_,rfl,_,_,(PH.le.tr (PH.le_un _ k1) (PH.le_un _ k2)),rfl,f6,(((((hp.get 2 rfl).drop).get 1 rfl).drop).drop)⟩
theorem F6 (self:(List Node)→Int→Chg→Option ((List Node)×Bool)) (hself:∀{Z:World} {ρ:PH} {L:List bI} {w:World} (p0:(List Node)) (vp0:Value) (hp0:aH ρ vp0 p0) (p1:Int) (p2:Chg) (hp:Hp Z ρ (L) w) (r:((List Node)×Bool)) (hm:self p0 p1 p2=some r),Calls Tryz.prog 61 #[vp0,(Iv p1),(.agg #[(Iv p2.op),(Iv p2.node),(Iv p2.index),(Iv p2.count),(Iv p2.kind),(.string p2.text)])] w (Ret fun v w'=>∃(ρ':PH) (vr1:Value),ρ.le ρ'∧v= .tuple #[vr1,(.bool r.2)]∧aH ρ' vr1 r.1∧Hp Z ρ' (L) w')) {Z:World} {ρ:PH} {L:List bI} {w:World} (p0:(List Node)) (vp0:Value) (hp0:aH ρ vp0 p0) (p1:Int) (p2:Chg) (hp:Hp Z ρ (L) w) (r:((List Node)×Bool)) (hm:lT self p0 p1 p2=some r):
  Calls Tryz.prog 61 #[vp0,(Iv p1),(.agg #[(Iv p2.op),(Iv p2.node),(Iv p2.index),(Iv p2.count),(Iv p2.kind),(.string p2.text)])] w (Ret fun v w'=>∃(ρ':PH) (vr1:Value),ρ.le ρ'∧v= .tuple #[vr1,(.bool r.2)]∧aH ρ' vr1 r.1∧Hp Z ρ' (L) w'):=by
 refine enter (N:=141) Tryz.func61 rfl rfl [(0,vp0),(1,(Iv p1)),(2,(.agg #[(Iv p2.op),(Iv p2.node),(Iv p2.index),(Iv p2.count),(Iv p2.kind),(.string p2.text)]))] rfl (aY ⟨rfl,rfl,rfl,trivial⟩) fun a hE=>?_
 unfold lT at hm
 refine aF (aA ?_)
 refine iU (wk0 rfl) rfl rfl hE hp rfl (v:=(.agg #[(Iv p2.op),(Iv p2.node),(Iv p2.index),(Iv p2.count),(Iv p2.kind),(.string p2.text)])) rfl ?_
 intro a w b1 hE hp
 have hp:=r1 hp
 refine S hE 2 rfl fun a hE=>aB (aF ?_)
 refine aA ?_
 refine eG (wk0 rfl) rfl rfl hE hp rfl [] trivial [] 24 (fun w=>by simp[Instr.buildSlice,Instr.fill,Value.cells,go_sem]) ?_
 intro a w b2 hE hp
 have hp:=r2 hp
 refine S hE 1 rfl fun a hE=>aB (aF ?_)
 refine aA (S hE 1 rfl fun a hE=>?_)
 refine aB (aF ?_)
 refine aF (aA ?_)
 refine S hE 1 rfl fun a hE=>aB ?_
 have hR1:dE ρ ([]:List Node) []:=rfl
 have hp:=(hp.get 0 rfl).imp (yS (l:=([]:List Node)) (n:=0) (cs:=[]) rfl (by decide) rfl)
 have hp:=r2 hp
 obtain⟨b3,hc1,hm⟩:=bnd hm
 refine dK (fun a w=>∃(ρ1:PH) (w2:Value) (xs2:List Value),ρ.le ρ1∧dE ρ1 (b3.2:(List Node)) xs2∧Env 141 [(8,w2),(9,(.bool b3.1))] a∧Hp Z ρ1 (jE 24 w2 (b3.2:(List Node)) xs2::Pt b1 (.cells #[(Iv p2.op),(Iv p2.node),(Iv p2.index),(Iv p2.count),(Iv p2.kind),(.string p2.text)] 58 (0,0))::L) w) ?_ ?_
 ·refine eF hc1 (fun s a w=>∃(ρ1:PH) (w2:Value) (xs2:List Value),ρ.le ρ1∧dE ρ1 (s.2.2.2:(List Node)) xs2∧Env 141 [(0,vp0),(1,(Iv s.1)),(5,(Pv b1 0)),(8,w2),(9,(.bool s.2.1)),(10,(Iv s.2.2.1))] a∧Hp Z ρ1 (jE 24 w2 (s.2.2.2:(List Node)) xs2::Pt b1 (.cells #[(Iv p2.op),(Iv p2.node),(Iv p2.index),(Iv p2.count),(Iv p2.kind),(.string p2.text)] 58 (0,0))::L) w) ?_ ?_
  ·exact⟨ρ,_,_,(PH.le.rf _),hR1,hE.cut ⟨rfl,rfl,rfl,rfl,rfl,rfl,trivial⟩,hp⟩
  rintro⟨aO,aS,dS,fK⟩ st a w ⟨ρ1,w2,xs2,hlg1,hR2w,hE,hp⟩ hl1
  dsimp only at hE hp hlg1 hR2w hl1
  unfold jM at hl1
  refine aF (aF ?_)
  refine aA (S hE 2 rfl fun a hE=>?_)
  refine V hE hp rfl (bW rfl hE rfl (aH.len (aH.mono hp0 hlg1) eH)) fun a hE=>S hE 1 rfl fun a hE=>aB ?_
  refine dG hE rfl (fun hc2=>?_) (fun hc2=>?_)
  ·replace hl1:=(it hc2).symm.trans hl1
   refine aZ (aF ?_)
   refine dO (aF ?_)
   refine aA (S hE 2 rfl fun a hE=>?_)
   obtain⟨x1,ex1,hl1⟩:=bnd hl1
   obtain⟨b4,b4o,b4c,b4r,b4k,b4f⟩:=aH.at (aH.mono hp0 hlg1) eH ex1
   obtain⟨fA,rfl,qN⟩:=NodeAt.opens b4k
   have b4f:AtP ρ1 b4 b4o [(Iv x1.kind),(.string x1.text),(Iv x1.at_),(Iv x1.fin),fA]:=b4f
   refine V hE hp rfl (aP rfl hE rfl rfl b4r) fun a hE=>V hE hp rfl (aJ rfl hE rfl (fun w hw=>aX (cs:=[(Iv x1.kind),(.string x1.text),(Iv x1.at_),(Iv x1.fin),fA]) dF (fun j u hj=>cell_of hw.le (b4f j u hj)))) fun a hE=>?_
   refine dH (wk0 rfl) rfl rfl hE hp rfl [(Iv 0),(.string ByteArray.empty),(Iv 0),(Iv 0),N0] (fun w=>by simp[Instr.alloc,go_sem]<;>rfl) ?_
   intro a w b5 hE hp
   have hp:=r3 hp
   refine aV (wk0 rfl) rfl hE hp rfl rfl rfl 0 rfl dF.size_ rfl (aN ⟨rfl,rfl,rfl,rfl,(aH.one qN),trivial⟩) [(Iv x1.kind),(.string x1.text),(Iv x1.at_),(Iv x1.fin),fA] rfl ?_
   intro w hp
   have hp:=r3 hp
   refine aB (aF ?_)
   refine aA (V hE hp rfl (aJ rfl hE rfl (fun w hw=>aX (cs:=[(Iv x1.kind),(.string x1.text),(Iv x1.at_),(Iv x1.fin),fA]) dF (Hp.cN 0 rfl 0 _ (aT rfl) w hw))) fun a hE=>?_)
   obtain⟨x2,ex2,hl1⟩:=bnd hl1
   refine Cl hE rfl rfl ent23 (yG x1 fA qN hp x2 ex2) ⟨rfl,trivial⟩ fun v a w hR hE=>?_
   obtain⟨rfl,hp⟩:=hR
   have hp:=r3 hp
   refine S hE 1 rfl fun a hE=>aB ?_
   have hE:=hE.cut (E':=[(0,vp0),(1,(Iv aO)),(5,(Pv b1 0)),(8,w2),(9,(.bool aS)),(10,(Iv dS)),(11,(Pv b5 0)),(12,(Iv x2))]) ⟨rfl,rfl,rfl,rfl,rfl,rfl,rfl,rfl,trivial⟩
   refine aF (aF ?_)
   refine aA (V hE hp rfl (xf hE pO rfl rfl) fun a hE=>?_)
   refine V hE hp rfl (xl hE aU 2 rfl rfl rfl rfl) fun a hE=>S hE 3 rfl fun a hE=>?_
   refine iC [_,_,_,_] (fun a w=>Env 141 [(38,(.bool ((decide (p2.node=aO))&&(decide (p2.op=0))))),(0,vp0),(1,(Iv aO)),(5,(Pv b1 0)),(8,w2),(9,(.bool aS)),(10,(Iv dS)),(11,(Pv b5 0)),(12,(Iv x2))] a∧Hp Z ρ1 (Pt b5 (.cells #[(Iv x1.kind),(.string x1.text),(Iv x1.at_),(Iv x1.fin),fA] 24 (0,0))::jE 24 w2 (fK:(List Node)) xs2::Pt b1 (.cells #[(Iv p2.op),(Iv p2.node),(Iv p2.index),(Iv p2.count),(Iv p2.kind),(.string p2.text)] 58 (0,0))::L) w) ?_ ?_
   ·rcases Bool.eq_false_or_eq_true (decide (p2.node=aO)) with hc3|hc3
    ·
     refine G hE hp hc3 rfl (xf hE wS rfl rfl) fun a hE=>G hE hp hc3 rfl (xl hE aU 2 rfl rfl rfl rfl) fun a hE=>Gs hE hc3 rfl rfl fun a hE=>pk1 hE hc3 rfl rfl rfl rfl fun a hE=>?_
     have hE:=hE.eqv (v':=(.bool ((decide (p2.node=aO))&&(decide (p2.op=0))))) (by rw[hc3];rfl)
     exact aB ⟨hE.cut ⟨rfl,rfl,rfl,rfl,rfl,rfl,rfl,rfl,rfl,trivial⟩,hp⟩
    refine Gk hE hc3 rfl fun a hE=>Gk hE hc3 rfl fun a hE=>Gk hE hc3 rfl fun a hE=>pk0 hE hc3 rfl rfl rfl rfl fun a hE=>?_
    have hE:=hE.eqv (v':=(.bool ((decide (p2.node=aO))&&(decide (p2.op=0))))) (by rw[hc3];rfl)
    exact aB ⟨hE.cut ⟨rfl,rfl,rfl,rfl,rfl,rfl,rfl,rfl,rfl,trivial⟩,hp⟩
   rintro a w ⟨hE,hp⟩
   refine aB ?_
   obtain⟨j1,hj1,hl1⟩:=bnd hl1
   refine k_cut (fun a w=>∃(ρ2:PH) (w2:Value) (xs2:List Value),ρ1.le ρ2∧dE ρ2 (j1.2:(List Node)) xs2∧Env 141 [(0,vp0),(1,(Iv aO)),(5,(Pv b1 0)),(8,w2),(9,(.bool j1.1)),(10,(Iv dS)),(12,(Iv x2))] a∧Hp Z ρ2 (Pt b5 (.cells #[(Iv x1.kind),(.string x1.text),(Iv x1.at_),(Iv x1.fin),fA] 24 (0,0))::jE 24 w2 (j1.2:(List Node)) xs2::Pt b1 (.cells #[(Iv p2.op),(Iv p2.node),(Iv p2.index),(Iv p2.count),(Iv p2.kind),(.string p2.text)] 58 (0,0))::L) w) ?_ ?_
   ·
    refine dG hE rfl (fun hc4=>?_) (fun hc4=>?_)
    ·replace hj1:=(it hc4).symm.trans hj1
     refine aA (S hE 1 rfl fun a hE=>?_)
     refine V hE hp rfl (xf hE fldty58_4 rfl rfl) fun a hE=>V hE hp rfl (xl hE aU 2 rfl rfl rfl rfl) fun a hE=>V hE hp rfl (xf hE aD5 rfl rfl) fun a hE=>V hE hp rfl (xl hE yD 2 rfl rfl rfl rfl) fun a hE=>V hE hp rfl (xf hE fldty24_2 rfl rfl) fun a hE=>V hE hp rfl (xl hE aU 0 rfl rfl rfl rfl) fun a hE=>V hE hp rfl (xf hE fldty24_3 rfl rfl) fun a hE=>V hE hp rfl (xl hE aU 0 rfl rfl rfl rfl) fun a hE=>V hE hp rfl (xf hE nK rfl rfl) fun a hE=>V hE hp rfl (xl hE gX 0 rfl rfl rfl rfl) fun a hE=>V hE hp rfl (v:=(.agg #[(Iv p2.kind),(.string p2.text),(Iv x1.at_),(Iv x1.fin),fA])) (kP rfl hE [(0,(Iv p2.kind)),(1,(.string p2.text)),(2,(Iv x1.at_)),(3,(Iv x1.fin)),(4,fA)] (by exact⟨⟨rfl,rfl⟩,⟨rfl,rfl⟩,⟨rfl,rfl⟩,⟨rfl,rfl⟩,⟨rfl,rfl⟩,trivial⟩) (fun w=>by have hc0:=aH.cells qN;simp only[Value.cells] at hc0;simp[Instr.build,Instr.fill,Value.cells,hc0,go_sem])) fun a hE=>?_
     refine eG (wk0 rfl) rfl rfl hE hp rfl [(0,(.agg #[(Iv p2.kind),(.string p2.text),(Iv x1.at_),(Iv x1.fin),fA]))] ⟨⟨rfl,rfl⟩,trivial⟩ [(Iv p2.kind),(.string p2.text),(Iv x1.at_),(Iv x1.fin),fA] 24 (fun w=>by have hc0:=aH.cells qN;simp only[Value.cells] at hc0;simp[Instr.buildSlice,Instr.fill,Value.cells,hc0,go_sem]) ?_
     intro a w b6 hE hp
     have hp:=r4 hp
     obtain⟨x3,ex3,hj1⟩:=bnd hj1
     have hR3:dE ρ1 ([(Node.mk p2.kind p2.text x1.at_ x1.fin x1.kids)]:List Node) [(Iv p2.kind),(.string p2.text),(Iv x1.at_),(Iv x1.fin),fA]:=⟨_,_,rfl,(show NodeAt ρ1 (Node.mk p2.kind p2.text x1.at_ x1.fin x1.kids) [(Iv p2.kind),(.string p2.text),(Iv x1.at_),(Iv x1.fin),fA] from NodeAt.shut (qN)),rfl⟩
     have hR2:dE ρ1 x3 (xs2++[(Iv p2.kind),(.string p2.text),(Iv x1.at_),(Iv x1.fin),fA]):=(lJ ex3).2▸dE.app hR2w hR3
     refine aA4 (wk0 rfl) rfl rfl hE hp rfl eH rfl rfl 2 rfl rfl (l2:=[(Node.mk p2.kind p2.text x1.at_ x1.fin x1.kids)]) (ys:=[(Iv p2.kind),(.string p2.text),(Iv x1.at_),(Iv x1.fin),fA]) rfl hR3 (fun j u hj=>by have:=Hp.cN 0 rfl 0 _ (aT rfl) w hp j u hj;simpa using this) ex3 ?_
     intro v1 a w hE hp
     have hp:=r4 hp
     refine S hE 1 rfl fun a hE=>aB ?_
     obtain rfl:=oj hj1
     exact⟨ρ1,_,_,(PH.le.rf _),hR2,hE.cut ⟨rfl,rfl,rfl,rfl,rfl,rfl,rfl,trivial⟩,(hp.drop)⟩
    replace hj1:=(ie hc4).symm.trans hj1
    refine aF (aA ?_)
    refine V hE hp rfl (xf hE pO rfl rfl) fun a hE=>V hE hp rfl (xl hE aU 2 rfl rfl rfl rfl) fun a hE=>S hE 3 rfl fun a hE=>?_
    refine iC [_,_,_,_] (fun a w=>Env 141 [(61,(.bool ((decide (p2.node=aO))&&(decide (p2.op=1))))),(0,vp0),(1,(Iv aO)),(5,(Pv b1 0)),(8,w2),(9,(.bool aS)),(10,(Iv dS)),(11,(Pv b5 0)),(12,(Iv x2))] a∧Hp Z ρ1 (Pt b5 (.cells #[(Iv x1.kind),(.string x1.text),(Iv x1.at_),(Iv x1.fin),fA] 24 (0,0))::jE 24 w2 (fK:(List Node)) xs2::Pt b1 (.cells #[(Iv p2.op),(Iv p2.node),(Iv p2.index),(Iv p2.count),(Iv p2.kind),(.string p2.text)] 58 (0,0))::L) w) ?_ ?_
    ·rcases Bool.eq_false_or_eq_true (decide (p2.node=aO)) with hc5|hc5
     ·
      refine G hE hp hc5 rfl (xf hE wS rfl rfl) fun a hE=>G hE hp hc5 rfl (xl hE aU 2 rfl rfl rfl rfl) fun a hE=>Gs hE hc5 rfl rfl fun a hE=>pk1 hE hc5 rfl rfl rfl rfl fun a hE=>?_
      have hE:=hE.eqv (v':=(.bool ((decide (p2.node=aO))&&(decide (p2.op=1))))) (by rw[hc5];rfl)
      exact aB ⟨hE.cut ⟨rfl,rfl,rfl,rfl,rfl,rfl,rfl,rfl,rfl,trivial⟩,hp⟩
     refine Gk hE hc5 rfl fun a hE=>Gk hE hc5 rfl fun a hE=>Gk hE hc5 rfl fun a hE=>pk0 hE hc5 rfl rfl rfl rfl fun a hE=>?_
     have hE:=hE.eqv (v':=(.bool ((decide (p2.node=aO))&&(decide (p2.op=1))))) (by rw[hc5];rfl)
     exact aB ⟨hE.cut ⟨rfl,rfl,rfl,rfl,rfl,rfl,rfl,rfl,rfl,trivial⟩,hp⟩
    rintro a w ⟨hE,hp⟩
    refine aB ?_
    refine dG hE rfl (fun hc6=>?_) (fun hc6=>?_)
    ·replace hj1:=(it hc6).symm.trans hj1
     refine aA (S hE 1 rfl fun a hE=>?_)
     refine V hE hp rfl (xf hE nK rfl rfl) fun a hE=>V hE hp rfl (xl hE gX 0 rfl rfl rfl rfl) fun a hE=>?_
     obtain⟨x4,ex4,hj1⟩:=bnd hj1
     refine aA5 (wk0 rfl) rfl rfl hE hp rfl eH rfl rfl 1 rfl rfl qN ex4 ?_
     intro v2 ys1 a w hR5 hE hp
     have hR4:dE ρ1 x4 (xs2++ys1):=(lJ ex4).2▸dE.app hR2w hR5
     have hp:=r3 hp
     refine S hE 1 rfl fun a hE=>aB ?_
     obtain rfl:=oj hj1
     exact⟨ρ1,_,_,(PH.le.rf _),hR4,hE.cut ⟨rfl,rfl,rfl,rfl,rfl,rfl,rfl,trivial⟩,hp⟩
    replace hj1:=(ie hc6).symm.trans hj1
    refine aF (aA ?_)
    refine V hE hp rfl (xf hE pO rfl rfl) fun a hE=>V hE hp rfl (xl hE aU 2 rfl rfl rfl rfl) fun a hE=>S hE 2 rfl fun a hE=>aB ?_
    refine dG hE rfl (fun hc7=>?_) (fun hc7=>?_)
    ·replace hj1:=(it hc7).symm.trans hj1
     refine aF (aA ?_)
     refine V hE hp rfl (xf hE nK rfl rfl) fun a hE=>V hE hp rfl (xl hE gX 0 rfl rfl rfl rfl) fun a hE=>V hE hp rfl (aJ rfl hE rfl (fun w hw=>aX (cs:=[(Iv p2.op),(Iv p2.node),(Iv p2.index),(Iv p2.count),(Iv p2.kind),(.string p2.text)]) pK (Hp.cN 2 rfl 0 _ (aT rfl) w hw))) fun a hE=>?_
     obtain⟨x5,ex5,hj1⟩:=bnd hj1
     refine Cl hE rfl rfl ent59 (xR x1.kids fA qN p2 hp x5 ex5) ⟨rfl,rfl,trivial⟩ fun v a w hR hE=>?_
     obtain⟨ρ3,vr2,hle1,rfl,hr2,hp⟩:=hR
     have hp:=r3 hp
     refine S hE 5 rfl fun a hE=>aB ?_
     have hE:=hE.cut (E':=[(0,vp0),(1,(Iv aO)),(5,(Pv b1 0)),(8,w2),(9,(.bool aS)),(10,(Iv dS)),(11,(Pv b5 0)),(12,(Iv x2)),(13,vr2),(14,(.bool x5.2))]) ⟨rfl,rfl,rfl,rfl,rfl,rfl,rfl,rfl,rfl,rfl,trivial⟩
     refine aF (aA ?_)
     refine S hE 2 rfl fun a hE=>?_
     refine iC [_,_] (fun a w=>Env 141 [(80,(.bool (aS&&x5.2))),(0,vp0),(1,(Iv aO)),(5,(Pv b1 0)),(8,w2),(10,(Iv dS)),(11,(Pv b5 0)),(12,(Iv x2)),(13,vr2)] a∧Hp Z ρ3 (Pt b5 (.cells #[(Iv x1.kind),(.string x1.text),(Iv x1.at_),(Iv x1.fin),fA] 24 (0,0))::jE 24 w2 (fK:(List Node)) xs2::Pt b1 (.cells #[(Iv p2.op),(Iv p2.node),(Iv p2.index),(Iv p2.count),(Iv p2.kind),(.string p2.text)] 58 (0,0))::L) w) ?_ ?_
     ·rcases Bool.eq_false_or_eq_true aS with hc8|hc8
      ·
       refine Gs hE hc8 rfl rfl fun a hE=>pk1 hE hc8 rfl rfl rfl rfl fun a hE=>?_
       have hE:=hE.eqv (v':=(.bool (aS&&x5.2))) (by rw[hc8];rfl)
       exact aB ⟨hE.cut ⟨rfl,rfl,rfl,rfl,rfl,rfl,rfl,rfl,rfl,trivial⟩,hp⟩
      refine Gk hE hc8 rfl fun a hE=>pk0 hE hc8 rfl rfl rfl rfl fun a hE=>?_
      have hE:=hE.eqv (v':=(.bool (aS&&x5.2))) (by rw[hc8];rfl)
      exact aB ⟨hE.cut ⟨rfl,rfl,rfl,rfl,rfl,rfl,rfl,rfl,rfl,trivial⟩,hp⟩
     rintro a w ⟨hE,hp⟩
     refine S hE 1 rfl fun a hE=>aB (aA ?_)
     refine S hE 1 rfl fun a hE=>V hE hp rfl (xf hE vN rfl rfl) fun a hE=>V hE hp rfl (xl hE aU 0 rfl rfl rfl rfl) fun a hE=>V hE hp rfl (xf hE tN rfl rfl) fun a hE=>V hE hp rfl (xl hE yD 0 rfl rfl rfl rfl) fun a hE=>V hE hp rfl (xf hE fldty24_2 rfl rfl) fun a hE=>V hE hp rfl (xl hE aU 0 rfl rfl rfl rfl) fun a hE=>V hE hp rfl (xf hE fldty24_3 rfl rfl) fun a hE=>V hE hp rfl (xl hE aU 0 rfl rfl rfl rfl) fun a hE=>S hE 1 rfl fun a hE=>V hE hp rfl (v:=(.agg #[(Iv x1.kind),(.string x1.text),(Iv x1.at_),(Iv x1.fin),vr2])) (kP rfl hE [(0,(Iv x1.kind)),(1,(.string x1.text)),(2,(Iv x1.at_)),(3,(Iv x1.fin)),(4,vr2)] (by exact⟨⟨rfl,rfl⟩,⟨rfl,rfl⟩,⟨rfl,rfl⟩,⟨rfl,rfl⟩,⟨rfl,rfl⟩,trivial⟩) (fun w=>by have hc0:=aH.cells hr2;simp only[Value.cells] at hc0;simp[Instr.build,Instr.fill,Value.cells,hc0,go_sem])) fun a hE=>?_
     refine eG (wk0 rfl) rfl rfl hE hp rfl [(0,(.agg #[(Iv x1.kind),(.string x1.text),(Iv x1.at_),(Iv x1.fin),vr2]))] ⟨⟨rfl,rfl⟩,trivial⟩ [(Iv x1.kind),(.string x1.text),(Iv x1.at_),(Iv x1.fin),vr2] 24 (fun w=>by have hc0:=aH.cells hr2;simp only[Value.cells] at hc0;simp[Instr.buildSlice,Instr.fill,Value.cells,hc0,go_sem]) ?_
     intro a w b7 hE hp
     have hp:=r4 hp
     obtain⟨x6,ex6,hj1⟩:=bnd hj1
     have hR7:dE ρ3 ([(Node.mk x1.kind x1.text x1.at_ x1.fin x5.1)]:List Node) [(Iv x1.kind),(.string x1.text),(Iv x1.at_),(Iv x1.fin),vr2]:=⟨_,_,rfl,(show NodeAt ρ3 (Node.mk x1.kind x1.text x1.at_ x1.fin x5.1) [(Iv x1.kind),(.string x1.text),(Iv x1.at_),(Iv x1.fin),vr2] from NodeAt.shut (hr2)),rfl⟩
     have hR6:dE ρ3 x6 (xs2++[(Iv x1.kind),(.string x1.text),(Iv x1.at_),(Iv x1.fin),vr2]):=(lJ ex6).2▸dE.app (dE.mono hle1 hR2w) hR7
     refine aA4 (wk0 rfl) rfl rfl hE hp rfl eH rfl rfl 2 rfl rfl (l2:=[(Node.mk x1.kind x1.text x1.at_ x1.fin x5.1)]) (ys:=[(Iv x1.kind),(.string x1.text),(Iv x1.at_),(Iv x1.fin),vr2]) rfl hR7 (fun j u hj=>by have:=Hp.cN 0 rfl 0 _ (aT rfl) w hp j u hj;simpa using this) ex6 ?_
     intro v3 a w hE hp
     have hp:=r4 hp
     refine S hE 1 rfl fun a hE=>aB ?_
     obtain rfl:=oj hj1
     exact⟨ρ3,_,_,hle1,hR6,hE.cut ⟨rfl,rfl,rfl,rfl,rfl,rfl,rfl,trivial⟩,(hp.drop)⟩
    replace hj1:=(ie hc7).symm.trans hj1
    refine aF (aA ?_)
    refine V hE hp rfl (xf hE pO rfl rfl) fun a hE=>V hE hp rfl (xl hE aU 2 rfl rfl rfl rfl) fun a hE=>S hE 3 rfl fun a hE=>?_
    obtain⟨m1,hg1,hj1⟩:=bnd hj1
    refine iC [_,_,_,_,_,_,_] (fun a w=>Env 141 [(105,(.bool m1)),(0,vp0),(1,(Iv aO)),(5,(Pv b1 0)),(8,w2),(9,(.bool aS)),(10,(Iv dS)),(11,(Pv b5 0)),(12,(Iv x2))] a∧Hp Z ρ1 (Pt b5 (.cells #[(Iv x1.kind),(.string x1.text),(Iv x1.at_),(Iv x1.fin),fA] 24 (0,0))::jE 24 w2 (fK:(List Node)) xs2::Pt b1 (.cells #[(Iv p2.op),(Iv p2.node),(Iv p2.index),(Iv p2.count),(Iv p2.kind),(.string p2.text)] 58 (0,0))::L) w) ?_ ?_
    ·rcases Bool.eq_false_or_eq_true (decide (aO<p2.node)) with hc9|hc9
     ·
      replace hg1:=(it hc9).symm.trans hg1
      refine G hE hp hc9 rfl (xf hE pO rfl rfl) fun a hE=>G hE hp hc9 rfl (xl hE aU 2 rfl rfl rfl rfl) fun a hE=>Gs hE hc9 rfl rfl fun a hE=>Gs hE hc9 rfl rfl fun a hE=>?_
      obtain⟨x7,ex7,hg1⟩:=bnd hg1
      refine G hE hp hc9 rfl (bF rfl hE rfl rfl (aK ex7)) fun a hE=>Gs hE hc9 rfl rfl fun a hE=>pk1 hE hc9 rfl rfl rfl rfl fun a hE=>?_
      obtain rfl:=oj hg1
      exact aB ⟨hE.cut ⟨rfl,rfl,rfl,rfl,rfl,rfl,rfl,rfl,rfl,trivial⟩,hp⟩
     replace hg1:=(ie hc9).symm.trans hg1
     refine Gk hE hc9 rfl fun a hE=>Gk hE hc9 rfl fun a hE=>Gk hE hc9 rfl fun a hE=>Gk hE hc9 rfl fun a hE=>Gk hE hc9 rfl fun a hE=>Gk hE hc9 rfl fun a hE=>pk0 hE hc9 rfl rfl rfl rfl fun a hE=>?_
     obtain rfl:=oj hg1
     exact aB ⟨hE.cut ⟨rfl,rfl,rfl,rfl,rfl,rfl,rfl,rfl,rfl,trivial⟩,hp⟩
    rintro a w ⟨hE,hp⟩
    refine aB ?_
    refine dG hE rfl (fun hc10=>?_) (fun hc10=>?_)
    ·replace hj1:=(it hc10).symm.trans hj1
     refine aF (aA ?_)
     refine V hE hp rfl (xf hE nK rfl rfl) fun a hE=>V hE hp rfl (xl hE gX 0 rfl rfl rfl rfl) fun a hE=>S hE 1 rfl fun a hE=>?_
     obtain⟨x8,ex8,hj1⟩:=bnd hj1
     refine V hE hp rfl (bF rfl hE rfl rfl (aK ex8)) fun a hE=>V hE hp rfl (aJ rfl hE rfl (fun w hw=>aX (cs:=[(Iv p2.op),(Iv p2.node),(Iv p2.index),(Iv p2.count),(Iv p2.kind),(.string p2.text)]) pK (Hp.cN 2 rfl 0 _ (aT rfl) w hw))) fun a hE=>?_
     obtain⟨x9,ex9,hj1⟩:=bnd hj1
     refine Cl hE rfl rfl ent61 (hself x1.kids fA qN x8 p2 hp x9 ex9) ⟨rfl,rfl,rfl,trivial⟩ fun v a w hR hE=>?_
     obtain⟨ρ4,vr4,hle2,rfl,hr4,hp⟩:=hR
     have hp:=r3 hp
     refine S hE 5 rfl fun a hE=>aB (aF ?_)
     refine aA (S hE 2 rfl fun a hE=>?_)
     refine iC [_,_] (fun a w=>Env 141 [(118,(.bool (aS&&x9.2))),(0,vp0),(1,(Iv aO)),(5,(Pv b1 0)),(8,w2),(10,(Iv dS)),(11,(Pv b5 0)),(12,(Iv x2)),(15,vr4)] a∧Hp Z ρ4 (Pt b5 (.cells #[(Iv x1.kind),(.string x1.text),(Iv x1.at_),(Iv x1.fin),fA] 24 (0,0))::jE 24 w2 (fK:(List Node)) xs2::Pt b1 (.cells #[(Iv p2.op),(Iv p2.node),(Iv p2.index),(Iv p2.count),(Iv p2.kind),(.string p2.text)] 58 (0,0))::L) w) ?_ ?_
     ·rcases Bool.eq_false_or_eq_true aS with hc11|hc11
      ·
       refine Gs hE hc11 rfl rfl fun a hE=>pk1 hE hc11 rfl rfl rfl rfl fun a hE=>?_
       have hE:=hE.eqv (v':=(.bool (aS&&x9.2))) (by rw[hc11];rfl)
       exact aB ⟨hE.cut ⟨rfl,rfl,rfl,rfl,rfl,rfl,rfl,rfl,rfl,trivial⟩,hp⟩
      refine Gk hE hc11 rfl fun a hE=>pk0 hE hc11 rfl rfl rfl rfl fun a hE=>?_
      have hE:=hE.eqv (v':=(.bool (aS&&x9.2))) (by rw[hc11];rfl)
      exact aB ⟨hE.cut ⟨rfl,rfl,rfl,rfl,rfl,rfl,rfl,rfl,rfl,trivial⟩,hp⟩
     rintro a w ⟨hE,hp⟩
     refine S hE 1 rfl fun a hE=>aB (aA ?_)
     refine S hE 1 rfl fun a hE=>V hE hp rfl (xf hE vN rfl rfl) fun a hE=>V hE hp rfl (xl hE aU 0 rfl rfl rfl rfl) fun a hE=>V hE hp rfl (xf hE tN rfl rfl) fun a hE=>V hE hp rfl (xl hE yD 0 rfl rfl rfl rfl) fun a hE=>V hE hp rfl (xf hE fldty24_2 rfl rfl) fun a hE=>V hE hp rfl (xl hE aU 0 rfl rfl rfl rfl) fun a hE=>V hE hp rfl (xf hE fldty24_3 rfl rfl) fun a hE=>V hE hp rfl (xl hE aU 0 rfl rfl rfl rfl) fun a hE=>S hE 1 rfl fun a hE=>V hE hp rfl (v:=(.agg #[(Iv x1.kind),(.string x1.text),(Iv x1.at_),(Iv x1.fin),vr4])) (kP rfl hE [(0,(Iv x1.kind)),(1,(.string x1.text)),(2,(Iv x1.at_)),(3,(Iv x1.fin)),(4,vr4)] (by exact⟨⟨rfl,rfl⟩,⟨rfl,rfl⟩,⟨rfl,rfl⟩,⟨rfl,rfl⟩,⟨rfl,rfl⟩,trivial⟩) (fun w=>by have hc0:=aH.cells hr4;simp only[Value.cells] at hc0;simp[Instr.build,Instr.fill,Value.cells,hc0,go_sem])) fun a hE=>?_
     refine eG (wk0 rfl) rfl rfl hE hp rfl [(0,(.agg #[(Iv x1.kind),(.string x1.text),(Iv x1.at_),(Iv x1.fin),vr4]))] ⟨⟨rfl,rfl⟩,trivial⟩ [(Iv x1.kind),(.string x1.text),(Iv x1.at_),(Iv x1.fin),vr4] 24 (fun w=>by have hc0:=aH.cells hr4;simp only[Value.cells] at hc0;simp[Instr.buildSlice,Instr.fill,Value.cells,hc0,go_sem]) ?_
     intro a w b8 hE hp
     have hp:=r4 hp
     obtain⟨x10,ex10,hj1⟩:=bnd hj1
     have hR9:dE ρ4 ([(Node.mk x1.kind x1.text x1.at_ x1.fin x9.1)]:List Node) [(Iv x1.kind),(.string x1.text),(Iv x1.at_),(Iv x1.fin),vr4]:=⟨_,_,rfl,(show NodeAt ρ4 (Node.mk x1.kind x1.text x1.at_ x1.fin x9.1) [(Iv x1.kind),(.string x1.text),(Iv x1.at_),(Iv x1.fin),vr4] from NodeAt.shut (hr4)),rfl⟩
     have hR8:dE ρ4 x10 (xs2++[(Iv x1.kind),(.string x1.text),(Iv x1.at_),(Iv x1.fin),vr4]):=(lJ ex10).2▸dE.app (dE.mono hle2 hR2w) hR9
     refine aA4 (wk0 rfl) rfl rfl hE hp rfl eH rfl rfl 2 rfl rfl (l2:=[(Node.mk x1.kind x1.text x1.at_ x1.fin x9.1)]) (ys:=[(Iv x1.kind),(.string x1.text),(Iv x1.at_),(Iv x1.fin),vr4]) rfl hR9 (fun j u hj=>by have:=Hp.cN 0 rfl 0 _ (aT rfl) w hp j u hj;simpa using this) ex10 ?_
     intro v4 a w hE hp
     have hp:=r4 hp
     refine S hE 1 rfl fun a hE=>aB ?_
     obtain rfl:=oj hj1
     exact⟨ρ4,_,_,hle2,hR8,hE.cut ⟨rfl,rfl,rfl,rfl,rfl,rfl,rfl,trivial⟩,(hp.drop)⟩
    replace hj1:=(ie hc10).symm.trans hj1
    refine aA (S hE 1 rfl fun a hE=>?_)
    refine V hE hp rfl (aJ rfl hE rfl (fun w hw=>aX (cs:=[(Iv x1.kind),(.string x1.text),(Iv x1.at_),(Iv x1.fin),fA]) dF (Hp.cN 0 rfl 0 _ (aT rfl) w hw))) fun a hE=>?_
    refine eG (wk0 rfl) rfl rfl hE hp rfl [(0,(.agg #[(Iv x1.kind),(.string x1.text),(Iv x1.at_),(Iv x1.fin),fA]))] ⟨⟨rfl,rfl⟩,trivial⟩ [(Iv x1.kind),(.string x1.text),(Iv x1.at_),(Iv x1.fin),fA] 24 (fun w=>by have hc0:=aH.cells qN;simp only[Value.cells] at hc0;simp[Instr.buildSlice,Instr.fill,Value.cells,hc0,go_sem]) ?_
    intro a w b9 hE hp
    have hp:=r4 hp
    obtain⟨x11,ex11,hj1⟩:=bnd hj1
    have hR11:dE ρ1 ([x1]:List Node) [(Iv x1.kind),(.string x1.text),(Iv x1.at_),(Iv x1.fin),fA]:=⟨_,_,rfl,(show NodeAt ρ1 x1 [(Iv x1.kind),(.string x1.text),(Iv x1.at_),(Iv x1.fin),fA] from NodeAt.shutv (qN)),rfl⟩
    have hR10:dE ρ1 x11 (xs2++[(Iv x1.kind),(.string x1.text),(Iv x1.at_),(Iv x1.fin),fA]):=(lJ ex11).2▸dE.app hR2w hR11
    refine aA4 (wk0 rfl) rfl rfl hE hp rfl eH rfl rfl 2 rfl rfl (l2:=[x1]) (ys:=[(Iv x1.kind),(.string x1.text),(Iv x1.at_),(Iv x1.fin),fA]) rfl hR11 (fun j u hj=>by have:=Hp.cN 0 rfl 0 _ (aT rfl) w hp j u hj;simpa using this) ex11 ?_
    intro v5 a w hE hp
    have hp:=r4 hp
    refine S hE 1 rfl fun a hE=>aB ?_
    have hE:=hE.cut (E':=[(0,vp0),(1,(Iv aO)),(5,(Pv b1 0)),(8,v5),(9,(.bool aS)),(10,(Iv dS)),(12,(Iv x2))]) ⟨rfl,rfl,rfl,rfl,rfl,rfl,rfl,trivial⟩
    obtain rfl:=oj hj1
    exact⟨ρ1,_,_,(PH.le.rf _),hR10,hE.cut ⟨rfl,rfl,rfl,rfl,rfl,rfl,rfl,trivial⟩,(hp.drop)⟩
   rintro a w ⟨ρ2,w2,xs2,hlg2,hR2w,hE,hp⟩
   refine aA (S hE 2 rfl fun a hE=>?_)
   obtain⟨x12,ex12,hl1⟩:=bnd hl1
   refine V hE hp rfl (bF rfl hE rfl rfl (aK ex12)) fun a hE=>S hE 1 rfl fun a hE=>aB (aA ?_)
   refine S hE 1 rfl fun a hE=>?_
   obtain⟨x13,ex13,hl1⟩:=bnd hl1
   refine V hE hp rfl (bF rfl hE rfl rfl (aK ex13)) fun a hE=>S hE 1 rfl fun a hE=>aB ?_
   exact⟨_,(oj hl1).symm,ρ2,_,_,(PH.le.tr hlg1 hlg2),hR2w,hE.cut ⟨rfl,rfl,rfl,rfl,rfl,rfl,trivial⟩,(hp.drop)⟩
  replace hl1:=(ie hc2).symm.trans hl1
  refine dU ?_
  refine⟨_,(oj hl1).symm,fun hbb=>?_⟩
  subst hbb
  exact⟨ρ1,_,_,hlg1,hR2w,hE.cut ⟨rfl,rfl,trivial⟩,hp⟩
 rintro a w ⟨ρ1,w2,xs2,hlg1,hR2w,hE,hp⟩
 refine aF (aA ?_)
 refine S hE 4 rfl fun a hE=>aB (dB ?_)
 obtain⟨k1,k1a,k1d,hp⟩:=(hp.get 0 rfl).lend
 have f1:aH (ρ1.un k1) w2 b3.2:=jE.ro k1d k1a hR2w
 have hp:=r1 hp
 obtain rfl:=oj hm
 exact vF hE rfl rfl rfl ⟨_,rfl,_,_,(PH.le.tr hlg1 (PH.le_un _ k1)),rfl,f1,(hp.drop)⟩
theorem U7:∀(n:Nat),∀{Z:World} {ρ:PH} {L:List bI} {w:World} (p0:(List Node)) (vp0:Value) (hp0:aH ρ vp0 p0) (p1:Int) (p2:Chg) (hp:Hp Z ρ (L) w) (r:((List Node)×Bool)) (hm:jC n p0 p1 p2=some r),Calls Tryz.prog 61 #[vp0,(Iv p1),(.agg #[(Iv p2.op),(Iv p2.node),(Iv p2.index),(Iv p2.count),(Iv p2.kind),(.string p2.text)])] w (Ret fun v w'=>∃(ρ':PH) (vr1:Value),ρ.le ρ'∧v= .tuple #[vr1,(.bool r.2)]∧aH ρ' vr1 r.1∧Hp Z ρ' (L) w'):=by
 intro n
 induction n with
 |zero=>intro Z ρ L w p0 vp0 hp0 p1 p2 hp r hm;cases hm
 |succ n ih=>intro Z ρ L w p0 vp0 hp0 p1 p2 hp r hm;exact F6 (jC n) ih p0 vp0 hp0 p1 p2 hp r hm
theorem Y9 {Z:World} {ρ:PH} {L:List bI} {w:World} (p0:(List Node)) (vp0:Value) (hp0:aH ρ vp0 p0) (p1:Int) (p2:Chg) (hp:Hp Z ρ (L) w) (r:((List Node)×Bool)) (hm:sV p0 p1 p2=some r):
  Calls Tryz.prog 61 #[vp0,(Iv p1),(.agg #[(Iv p2.op),(Iv p2.node),(Iv p2.index),(Iv p2.count),(Iv p2.kind),(.string p2.text)])] w (Ret fun v w'=>∃(ρ':PH) (vr1:Value),ρ.le ρ'∧v= .tuple #[vr1,(.bool r.2)]∧aH ρ' vr1 r.1∧Hp Z ρ' (L) w'):=U7 _ p0 vp0 hp0 p1 p2 hp r hm
theorem aB4 {Z:World} {ρ:PH} {L:List bI} {w:World} (p0:(List Node)) (vp0:Value) (hp0:aH ρ vp0 p0) (p1:(List Chg)) (vp1:Value) (hp1:aH ρ vp1 p1) (hp:Hp Z ρ (L) w) (r:((List Node)×Int)) (hm:nI p0 p1=some r):
  Calls Tryz.prog 32 #[vp0,vp1] w (Ret fun v w'=>∃(ρ':PH) (vr1:Value),ρ.le ρ'∧v= .tuple #[vr1,(Iv r.2)]∧aH ρ' vr1 r.1∧Hp Z ρ' (L) w'):=by
 refine enter (N:=105) Tryz.func32 rfl rfl [(0,vp0),(1,vp1)] rfl (aY ⟨rfl,rfl,trivial⟩) fun a hE=>?_
 unfold nI at hm
 refine aF (aA ?_)
 refine S hE 2 rfl fun a hE=>aB (aF ?_)
 refine aA ?_
 refine eG (wk0 rfl) rfl rfl hE hp rfl [] trivial [] 24 (fun w=>by simp[Instr.buildSlice,Instr.fill,Value.cells,go_sem]) ?_
 intro a w b1 hE hp
 have hp:=r1 hp
 refine S hE 1 rfl fun a hE=>?_
 have hR1:dE ρ ([]:List Node) []:=rfl
 have hp:=(hp.get 0 rfl).imp (yS (l:=([]:List Node)) (n:=0) (cs:=[]) rfl (by decide) rfl)
 have hp:=r1 hp
 obtain⟨x1,ex1,hm⟩:=bnd hm
 refine aA5 (wk0 rfl) rfl rfl hE hp rfl eH rfl rfl 0 rfl rfl hp0 ex1 ?_
 intro v1 ys1 a w hR3 hE hp
 have hR2:dE ρ x1 (([])++ys1):=(lJ ex1).2▸dE.app hR1 hR3
 have hp:=r1 hp
 refine S hE 1 rfl fun a hE=>aB (aF ?_)
 refine aF (aA ?_)
 obtain⟨k1,k1a,k1d,hp⟩:=(hp.get 0 rfl).lend
 have f1:aH (ρ.un k1) v1 x1:=jE.ro k1d k1a hR2
 have hp:=r0 hp
 refine S hE 1 rfl fun a hE=>aB ?_
 obtain⟨b2,hc1,hm⟩:=bnd hm
 refine dK (fun a w=>∃s:(List Node),b2= .brk s∧(∃(ρ1:PH) (v6:Value),(ρ.un k1).le ρ1∧aH ρ1 v6 s∧Env 105 [(6,v6)] a∧Hp Z ρ1 (L) w)) ?_ ?_
 ·refine eF hc1 (fun s a w=>∃(ρ1:PH) (v6:Value),(ρ.un k1).le ρ1∧aH ρ1 v6 s.1∧Env 105 [(1,vp1),(6,v6),(7,(Iv s.2))] a∧Hp Z ρ1 (L) w) ?_ ?_
  ·exact⟨(ρ.un k1),_,(PH.le.rf _),f1,hE.cut ⟨rfl,rfl,rfl,trivial⟩,hp⟩
  rintro⟨aO,aS⟩ st a w ⟨ρ1,v6,hlg1,h6,hE,hp⟩ hl1
  dsimp only at hE hp hlg1 h6 hl1
  unfold iP at hl1
  refine aF (aF ?_)
  refine aA (S hE 2 rfl fun a hE=>?_)
  refine V hE hp rfl (bW rfl hE rfl (aH.len (aH.mono (aH.mono hp1 (PH.le_un _ k1)) hlg1) rU)) fun a hE=>S hE 1 rfl fun a hE=>aB ?_
  refine dG hE rfl (fun hc2=>?_) (fun hc2=>?_)
  ·replace hl1:=(it hc2).symm.trans hl1
   refine aZ (aF ?_)
   obtain⟨j1,hj1,hl1⟩:=bnd hl1
   refine dK (fun a w=>∃s:(List Node),j1= .brk s∧(∃(ρ2:PH) (v6:Value),ρ1.le ρ2∧aH ρ2 v6 s∧Env 105 [(1,vp1),(6,v6),(7,(Iv aS))] a∧Hp Z ρ2 (L) w)) ?_ ?_
   ·
    refine aF (aA ?_)
    refine S hE 2 rfl fun a hE=>?_
    obtain⟨x2,ex2,hj1⟩:=bnd hj1
    obtain⟨b3,b3o,b3c,b3r,b3k,b3f⟩:=aH.at (aH.mono (aH.mono hp1 (PH.le_un _ k1)) hlg1) rU ex2
    obtain rfl:b3c=Enc.enc x2:=b3k
    have b3f:AtP ρ1 b3 b3o [(Iv x2.op),(Iv x2.node),(Iv x2.index),(Iv x2.count),(Iv x2.kind),(.string x2.text)]:=b3f
    refine V hE hp rfl (aP rfl hE rfl rfl b3r) fun a hE=>V hE hp rfl (aJ rfl hE rfl (fun w hw=>aX (cs:=[(Iv x2.op),(Iv x2.node),(Iv x2.index),(Iv x2.count),(Iv x2.kind),(.string x2.text)]) pK (fun j u hj=>cell_of hw.le (b3f j u hj)))) fun a hE=>?_
    refine dH (wk0 rfl) rfl rfl hE hp rfl [(Iv 0),(Iv 0),(Iv 0),(Iv 0),(Iv 0),(.string ByteArray.empty)] (fun w=>by simp[Instr.alloc,go_sem]<;>rfl) ?_
    intro a w b4 hE hp
    have hp:=r1 hp
    refine aV (wk0 rfl) rfl hE hp rfl rfl rfl 0 rfl pK.size_ rfl (aN ⟨rfl,rfl,rfl,rfl,rfl,rfl,trivial⟩) [(Iv x2.op),(Iv x2.node),(Iv x2.index),(Iv x2.count),(Iv x2.kind),(.string x2.text)] rfl ?_
    intro w hp
    have hp:=r1 hp
    refine aB ?_
    have hE:=hE.cut (E':=[(1,vp1),(6,v6),(7,(Iv aS)),(8,(Pv b4 0))]) ⟨rfl,rfl,rfl,rfl,trivial⟩
    refine aF (aF ?_)
    refine aA (V hE hp rfl (xf hE wS rfl rfl) fun a hE=>?_)
    refine V hE hp rfl (xl hE aU 0 rfl rfl rfl rfl) fun a hE=>S hE 2 rfl fun a hE=>?_
    refine iC [_,_,_,_] (fun a w=>Env 105 [(33,(.bool ((decide (x2.op<0))||(decide (2<x2.op))))),(1,vp1),(6,v6),(7,(Iv aS)),(8,(Pv b4 0))] a∧Hp Z ρ1 (Pt b4 (.cells #[(Iv x2.op),(Iv x2.node),(Iv x2.index),(Iv x2.count),(Iv x2.kind),(.string x2.text)] 58 (0,0))::L) w) ?_ ?_
    ·rcases Bool.eq_false_or_eq_true (decide (x2.op<0)) with hc3|hc3
     ·
      refine Gk hE hc3 rfl fun a hE=>Gk hE hc3 rfl fun a hE=>Gk hE hc3 rfl fun a hE=>pk1 hE hc3 rfl rfl rfl rfl fun a hE=>?_
      have hE:=hE.eqv (v':=(.bool ((decide (x2.op<0))||(decide (2<x2.op))))) (by rw[hc3];rfl)
      exact aB ⟨hE.cut ⟨rfl,rfl,rfl,rfl,rfl,trivial⟩,hp⟩
     refine G hE hp hc3 rfl (xf hE wS rfl rfl) fun a hE=>G hE hp hc3 rfl (xl hE aU 0 rfl rfl rfl rfl) fun a hE=>Gs hE hc3 rfl rfl fun a hE=>pk0 hE hc3 rfl rfl rfl rfl fun a hE=>?_
     have hE:=hE.eqv (v':=(.bool ((decide (x2.op<0))||(decide (2<x2.op))))) (by rw[hc3];rfl)
     exact aB ⟨hE.cut ⟨rfl,rfl,rfl,rfl,rfl,trivial⟩,hp⟩
    rintro a w ⟨hE,hp⟩
    refine S hE 1 rfl fun a hE=>?_
    refine iC [_,_,_,_,_,_,_,_,_,_,_,_,_,_] (fun a w=>Env 105 [(48,(.bool (((decide (x2.op<0))||(decide (2<x2.op)))||((!decide (x2.op=2))&&((!decide (x2.index=0))||(!decide (x2.count=0))))))),(1,vp1),(6,v6),(7,(Iv aS)),(8,(Pv b4 0))] a∧Hp Z ρ1 (Pt b4 (.cells #[(Iv x2.op),(Iv x2.node),(Iv x2.index),(Iv x2.count),(Iv x2.kind),(.string x2.text)] 58 (0,0))::L) w) ?_ ?_
    ·rcases Bool.eq_false_or_eq_true ((decide (x2.op<0))||(decide (2<x2.op))) with hc4|hc4
     ·
      refine Gk hE hc4 rfl fun a hE=>Gk hE hc4 rfl fun a hE=>Gk hE hc4 rfl fun a hE=>Gk hE hc4 rfl fun a hE=>?_
      refine iH (wk3 hE rfl rfl rfl) rfl rfl hE ?_
      intro a hE
      refine iH (wk3 hE rfl rfl rfl) rfl rfl hE ?_
      intro a hE
      refine iH (wk3 hE rfl rfl rfl) rfl rfl hE ?_
      intro a hE
      refine iH (wk3 hE rfl rfl rfl) rfl rfl hE ?_
      intro a hE
      refine iH (wk3 hE rfl rfl rfl) rfl rfl hE ?_
      intro a hE
      refine iH (wk3 hE rfl rfl rfl) rfl rfl hE ?_
      intro a hE
      refine iH (wk3 hE rfl rfl rfl) rfl rfl hE ?_
      intro a hE
      refine iH (wk3 hE rfl rfl rfl) rfl rfl hE ?_
      intro a hE
      refine Gk hE hc4 rfl fun a hE=>pk1 hE hc4 rfl rfl rfl rfl fun a hE=>?_
      have hE:=hE.eqv (v':=(.bool (((decide (x2.op<0))||(decide (2<x2.op)))||((!decide (x2.op=2))&&((!decide (x2.index=0))||(!decide (x2.count=0))))))) (by rw[hc4];rfl)
      exact aB ⟨hE.cut ⟨rfl,rfl,rfl,rfl,rfl,trivial⟩,hp⟩
     refine G hE hp hc4 rfl (xf hE wS rfl rfl) fun a hE=>G hE hp hc4 rfl (xl hE aU 0 rfl rfl rfl rfl) fun a hE=>Gs hE hc4 rfl rfl fun a hE=>Gs hE hc4 rfl rfl fun a hE=>?_
     refine iC [_,_,_,_,_,_,_,_,_] (fun a w=>Env 105 [(47,(.bool ((!decide (x2.op=2))&&((!decide (x2.index=0))||(!decide (x2.count=0)))))),(1,vp1),(6,v6),(7,(Iv aS)),(8,(Pv b4 0)),(34,(.bool ((decide (x2.op<0))||(decide (2<x2.op))))),(35,(Pv b4 0)),(36,(Iv x2.op)),(37,(.bool (!decide (x2.op=2)))),(38,(.bool (!decide (x2.op=2))))] a∧Hp Z ρ1 (Pt b4 (.cells #[(Iv x2.op),(Iv x2.node),(Iv x2.index),(Iv x2.count),(Iv x2.kind),(.string x2.text)] 58 (0,0))::L) w) ?_ ?_
     ·rcases Bool.eq_false_or_eq_true (!decide (x2.op=2)) with hc5|hc5
      ·
       refine G hE hp hc5 rfl (xf hE rE rfl rfl) fun a hE=>G hE hp hc5 rfl (xl hE aU 0 rfl rfl rfl rfl) fun a hE=>Gs hE hc5 rfl rfl fun a hE=>Gs hE hc5 rfl rfl fun a hE=>?_
       refine iC [_,_,_,_] (fun a w=>Env 105 [(46,(.bool ((!decide (x2.index=0))||(!decide (x2.count=0))))),(1,vp1),(6,v6),(7,(Iv aS)),(8,(Pv b4 0)),(34,(.bool ((decide (x2.op<0))||(decide (2<x2.op))))),(35,(Pv b4 0)),(36,(Iv x2.op)),(37,(.bool (!decide (x2.op=2)))),(38,(.bool (!decide (x2.op=2)))),(39,(Pv b4 2)),(40,(Iv x2.index)),(41,(.bool (!decide (x2.index=0)))),(42,(.bool (!decide (x2.index=0))))] a∧Hp Z ρ1 (Pt b4 (.cells #[(Iv x2.op),(Iv x2.node),(Iv x2.index),(Iv x2.count),(Iv x2.kind),(.string x2.text)] 58 (0,0))::L) w) ?_ ?_
       ·rcases Bool.eq_false_or_eq_true (!decide (x2.index=0)) with hc6|hc6
        ·
         refine Gk hE hc6 rfl fun a hE=>Gk hE hc6 rfl fun a hE=>Gk hE hc6 rfl fun a hE=>G hE hp hc5 rfl (iK rfl hE rfl hc6 rfl) fun a hE=>?_
         have hE:=hE.eqv (v':=(.bool ((!decide (x2.index=0))||(!decide (x2.count=0))))) (by rw[hc6];rfl)
         exact aB ⟨hE.cut ⟨rfl,rfl,rfl,rfl,rfl,rfl,rfl,rfl,rfl,rfl,rfl,rfl,rfl,rfl,trivial⟩,hp⟩
        refine G hE hp hc6 rfl (xf hE wU rfl rfl) fun a hE=>G hE hp hc6 rfl (xl hE aU 0 rfl rfl rfl rfl) fun a hE=>Gs hE hc6 rfl rfl fun a hE=>G hE hp hc5 rfl (gZ rfl hE rfl hc6 rfl) fun a hE=>?_
        have hE:=hE.eqv (v':=(.bool ((!decide (x2.index=0))||(!decide (x2.count=0))))) (by rw[hc6];rfl)
        exact aB ⟨hE.cut ⟨rfl,rfl,rfl,rfl,rfl,rfl,rfl,rfl,rfl,rfl,rfl,rfl,rfl,rfl,trivial⟩,hp⟩
       rintro a w ⟨hE,hp⟩
       refine G hE hp hc4 rfl (iK rfl hE rfl hc5 rfl) fun a hE=>?_
       have hE:=hE.eqv (v':=(.bool ((!decide (x2.op=2))&&((!decide (x2.index=0))||(!decide (x2.count=0)))))) (by rw[hc5];rfl)
       exact aB ⟨hE.cut ⟨rfl,rfl,rfl,rfl,rfl,rfl,rfl,rfl,rfl,rfl,trivial⟩,hp⟩
      refine Gk hE hc5 rfl fun a hE=>Gk hE hc5 rfl fun a hE=>Gk hE hc5 rfl fun a hE=>Gk hE hc5 rfl fun a hE=>?_
      refine iH (wk3 hE rfl rfl rfl) rfl rfl hE ?_
      intro a hE
      refine iH (wk3 hE rfl rfl rfl) rfl rfl hE ?_
      intro a hE
      refine iH (wk3 hE rfl rfl rfl) rfl rfl hE ?_
      intro a hE
      refine Gk hE hc5 rfl fun a hE=>G hE hp hc4 rfl (gZ rfl hE rfl hc5 rfl) fun a hE=>?_
      have hE:=hE.eqv (v':=(.bool ((!decide (x2.op=2))&&((!decide (x2.index=0))||(!decide (x2.count=0)))))) (by rw[hc5];rfl)
      exact aB ⟨hE.cut ⟨rfl,rfl,rfl,rfl,rfl,rfl,rfl,rfl,rfl,rfl,trivial⟩,hp⟩
     rintro a w ⟨hE,hp⟩
     refine pk0 hE hc4 rfl rfl rfl rfl fun a hE=>?_
     have hE:=hE.eqv (v':=(.bool (((decide (x2.op<0))||(decide (2<x2.op)))||((!decide (x2.op=2))&&((!decide (x2.index=0))||(!decide (x2.count=0))))))) (by rw[hc4];rfl)
     exact aB ⟨hE.cut ⟨rfl,rfl,rfl,rfl,rfl,trivial⟩,hp⟩
    rintro a w ⟨hE,hp⟩
    refine S hE 1 rfl fun a hE=>?_
    refine iC [_,_,_,_,_,_,_,_,_,_,_,_,_,_] (fun a w=>Env 105 [(63,(.bool ((((decide (x2.op<0))||(decide (2<x2.op)))||((!decide (x2.op=2))&&((!decide (x2.index=0))||(!decide (x2.count=0)))))||((decide (x2.op=1))&&((!decide (x2.kind=0))||(!decide (x2.text=(ByteArray.mk #[])))))))),(1,vp1),(6,v6),(7,(Iv aS)),(8,(Pv b4 0))] a∧Hp Z ρ1 (Pt b4 (.cells #[(Iv x2.op),(Iv x2.node),(Iv x2.index),(Iv x2.count),(Iv x2.kind),(.string x2.text)] 58 (0,0))::L) w) ?_ ?_
    ·rcases Bool.eq_false_or_eq_true (((decide (x2.op<0))||(decide (2<x2.op)))||((!decide (x2.op=2))&&((!decide (x2.index=0))||(!decide (x2.count=0))))) with hc7|hc7
     ·
      refine Gk hE hc7 rfl fun a hE=>Gk hE hc7 rfl fun a hE=>Gk hE hc7 rfl fun a hE=>Gk hE hc7 rfl fun a hE=>?_
      refine iH (wk3 hE rfl rfl rfl) rfl rfl hE ?_
      intro a hE
      refine iH (wk3 hE rfl rfl rfl) rfl rfl hE ?_
      intro a hE
      refine iH (wk3 hE rfl rfl rfl) rfl rfl hE ?_
      intro a hE
      refine iH (wk3 hE rfl rfl rfl) rfl rfl hE ?_
      intro a hE
      refine iH (wk3 hE rfl rfl rfl) rfl rfl hE ?_
      intro a hE
      refine iH (wk3 hE rfl rfl rfl) rfl rfl hE ?_
      intro a hE
      refine iH (wk3 hE rfl rfl rfl) rfl rfl hE ?_
      intro a hE
      refine iH (wk3 hE rfl rfl rfl) rfl rfl hE ?_
      intro a hE
      refine Gk hE hc7 rfl fun a hE=>pk1 hE hc7 rfl rfl rfl rfl fun a hE=>?_
      have hE:=hE.eqv (v':=(.bool ((((decide (x2.op<0))||(decide (2<x2.op)))||((!decide (x2.op=2))&&((!decide (x2.index=0))||(!decide (x2.count=0)))))||((decide (x2.op=1))&&((!decide (x2.kind=0))||(!decide (x2.text=(ByteArray.mk #[])))))))) (by rw[hc7];rfl)
      exact aB ⟨hE.cut ⟨rfl,rfl,rfl,rfl,rfl,trivial⟩,hp⟩
     refine G hE hp hc7 rfl (xf hE wS rfl rfl) fun a hE=>G hE hp hc7 rfl (xl hE aU 0 rfl rfl rfl rfl) fun a hE=>Gs hE hc7 rfl rfl fun a hE=>Gs hE hc7 rfl rfl fun a hE=>?_
     refine iC [_,_,_,_,_,_,_,_,_] (fun a w=>Env 105 [(62,(.bool ((decide (x2.op=1))&&((!decide (x2.kind=0))||(!decide (x2.text=(ByteArray.mk #[]))))))),(1,vp1),(6,v6),(7,(Iv aS)),(8,(Pv b4 0)),(49,(.bool (((decide (x2.op<0))||(decide (2<x2.op)))||((!decide (x2.op=2))&&((!decide (x2.index=0))||(!decide (x2.count=0))))))),(50,(Pv b4 0)),(51,(Iv x2.op)),(52,(.bool (decide (x2.op=1)))),(53,(.bool (decide (x2.op=1))))] a∧Hp Z ρ1 (Pt b4 (.cells #[(Iv x2.op),(Iv x2.node),(Iv x2.index),(Iv x2.count),(Iv x2.kind),(.string x2.text)] 58 (0,0))::L) w) ?_ ?_
     ·rcases Bool.eq_false_or_eq_true (decide (x2.op=1)) with hc8|hc8
      ·
       refine G hE hp hc8 rfl (xf hE fldty58_4 rfl rfl) fun a hE=>G hE hp hc8 rfl (xl hE aU 0 rfl rfl rfl rfl) fun a hE=>Gs hE hc8 rfl rfl fun a hE=>Gs hE hc8 rfl rfl fun a hE=>?_
       refine iC [_,_,_,_] (fun a w=>Env 105 [(61,(.bool ((!decide (x2.kind=0))||(!decide (x2.text=(ByteArray.mk #[])))))),(1,vp1),(6,v6),(7,(Iv aS)),(8,(Pv b4 0)),(49,(.bool (((decide (x2.op<0))||(decide (2<x2.op)))||((!decide (x2.op=2))&&((!decide (x2.index=0))||(!decide (x2.count=0))))))),(50,(Pv b4 0)),(51,(Iv x2.op)),(52,(.bool (decide (x2.op=1)))),(53,(.bool (decide (x2.op=1)))),(54,(Pv b4 4)),(55,(Iv x2.kind)),(56,(.bool (!decide (x2.kind=0)))),(57,(.bool (!decide (x2.kind=0))))] a∧Hp Z ρ1 (Pt b4 (.cells #[(Iv x2.op),(Iv x2.node),(Iv x2.index),(Iv x2.count),(Iv x2.kind),(.string x2.text)] 58 (0,0))::L) w) ?_ ?_
       ·rcases Bool.eq_false_or_eq_true (!decide (x2.kind=0)) with hc9|hc9
        ·
         refine Gk hE hc9 rfl fun a hE=>Gk hE hc9 rfl fun a hE=>Gk hE hc9 rfl fun a hE=>G hE hp hc8 rfl (iK rfl hE rfl hc9 rfl) fun a hE=>?_
         have hE:=hE.eqv (v':=(.bool ((!decide (x2.kind=0))||(!decide (x2.text=(ByteArray.mk #[])))))) (by rw[hc9];rfl)
         exact aB ⟨hE.cut ⟨rfl,rfl,rfl,rfl,rfl,rfl,rfl,rfl,rfl,rfl,rfl,rfl,rfl,rfl,trivial⟩,hp⟩
        refine G hE hp hc9 rfl (xf hE aD5 rfl rfl) fun a hE=>G hE hp hc9 rfl (xl hE yD 0 rfl rfl rfl rfl) fun a hE=>G hE hp hc9 rfl (v:=(.bool (!decide (x2.text=(ByteArray.mk #[]))))) (ex_sneq rfl hE rfl rfl) fun a hE=>G hE hp hc8 rfl (gZ rfl hE rfl hc9 rfl) fun a hE=>?_
        have hE:=hE.eqv (v':=(.bool ((!decide (x2.kind=0))||(!decide (x2.text=(ByteArray.mk #[])))))) (by rw[hc9];rfl)
        exact aB ⟨hE.cut ⟨rfl,rfl,rfl,rfl,rfl,rfl,rfl,rfl,rfl,rfl,rfl,rfl,rfl,rfl,trivial⟩,hp⟩
       rintro a w ⟨hE,hp⟩
       refine G hE hp hc7 rfl (iK rfl hE rfl hc8 rfl) fun a hE=>?_
       have hE:=hE.eqv (v':=(.bool ((decide (x2.op=1))&&((!decide (x2.kind=0))||(!decide (x2.text=(ByteArray.mk #[]))))))) (by rw[hc8];rfl)
       exact aB ⟨hE.cut ⟨rfl,rfl,rfl,rfl,rfl,rfl,rfl,rfl,rfl,rfl,trivial⟩,hp⟩
      refine Gk hE hc8 rfl fun a hE=>Gk hE hc8 rfl fun a hE=>Gk hE hc8 rfl fun a hE=>Gk hE hc8 rfl fun a hE=>?_
      refine iH (wk3 hE rfl rfl rfl) rfl rfl hE ?_
      intro a hE
      refine iH (wk3 hE rfl rfl rfl) rfl rfl hE ?_
      intro a hE
      refine iH (wk3 hE rfl rfl rfl) rfl rfl hE ?_
      intro a hE
      refine Gk hE hc8 rfl fun a hE=>G hE hp hc7 rfl (gZ rfl hE rfl hc8 rfl) fun a hE=>?_
      have hE:=hE.eqv (v':=(.bool ((decide (x2.op=1))&&((!decide (x2.kind=0))||(!decide (x2.text=(ByteArray.mk #[]))))))) (by rw[hc8];rfl)
      exact aB ⟨hE.cut ⟨rfl,rfl,rfl,rfl,rfl,rfl,rfl,rfl,rfl,rfl,trivial⟩,hp⟩
     rintro a w ⟨hE,hp⟩
     refine pk0 hE hc7 rfl rfl rfl rfl fun a hE=>?_
     have hE:=hE.eqv (v':=(.bool ((((decide (x2.op<0))||(decide (2<x2.op)))||((!decide (x2.op=2))&&((!decide (x2.index=0))||(!decide (x2.count=0)))))||((decide (x2.op=1))&&((!decide (x2.kind=0))||(!decide (x2.text=(ByteArray.mk #[])))))))) (by rw[hc7];rfl)
     exact aB ⟨hE.cut ⟨rfl,rfl,rfl,rfl,rfl,trivial⟩,hp⟩
    rintro a w ⟨hE,hp⟩
    refine aB ?_
    refine dG hE rfl (fun hc10=>?_) (fun hc10=>?_)
    ·replace hj1:=(it hc10).symm.trans hj1
     refine aF (aA ?_)
     refine eG (wk0 rfl) rfl rfl hE hp rfl [] trivial [] 24 (fun w=>by simp[Instr.buildSlice,Instr.fill,Value.cells,go_sem]) ?_
     intro a w b5 hE hp
     have hp:=r2 hp
     refine S hE 2 rfl fun a hE=>aB (dB ?_)
     obtain rfl:=oj hj1
     refine⟨_,(oj hl1).symm,fun hb=>?_⟩
     subst hb
     obtain⟨k2,k2a,k2d,hp⟩:=(hp.get 0 rfl).lend
     have f2:aH (ρ1.un k2) (.slice (some ⟨b5,0,none⟩) 0 0) ([]:List Node):=aH.of_all (l:=(([]:List Node))) k2d k2a rfl
     have hp:=r1 hp
     obtain rfl:=oj hm
     exact vF hE rfl rfl rfl ⟨_,rfl,_,_,(PH.le.tr (PH.le.tr (PH.le_un _ k1) hlg1) (PH.le_un _ k2)),rfl,f2,(hp.drop)⟩
    replace hj1:=(ie hc10).symm.trans hj1
    refine aZ (aF ?_)
    refine aF (aA ?_)
    refine V hE hp rfl (xf hE wS rfl rfl) fun a hE=>V hE hp rfl (xl hE aU 0 rfl rfl rfl rfl) fun a hE=>S hE 2 rfl fun a hE=>?_
    refine iC [_,_,_,_] (fun a w=>Env 105 [(72,(.bool ((decide (x2.op=2))&&(decide (x2.node=(-1)))))),(1,vp1),(6,v6),(7,(Iv aS)),(8,(Pv b4 0))] a∧Hp Z ρ1 (Pt b4 (.cells #[(Iv x2.op),(Iv x2.node),(Iv x2.index),(Iv x2.count),(Iv x2.kind),(.string x2.text)] 58 (0,0))::L) w) ?_ ?_
    ·rcases Bool.eq_false_or_eq_true (decide (x2.op=2)) with hc11|hc11
     ·
      refine G hE hp hc11 rfl (xf hE pO rfl rfl) fun a hE=>G hE hp hc11 rfl (xl hE aU 0 rfl rfl rfl rfl) fun a hE=>Gs hE hc11 rfl rfl fun a hE=>pk1 hE hc11 rfl rfl rfl rfl fun a hE=>?_
      have hE:=hE.eqv (v':=(.bool ((decide (x2.op=2))&&(decide (x2.node=(-1)))))) (by rw[hc11];rfl)
      exact aB ⟨hE.cut ⟨rfl,rfl,rfl,rfl,rfl,trivial⟩,hp⟩
     refine Gk hE hc11 rfl fun a hE=>Gk hE hc11 rfl fun a hE=>Gk hE hc11 rfl fun a hE=>pk0 hE hc11 rfl rfl rfl rfl fun a hE=>?_
     have hE:=hE.eqv (v':=(.bool ((decide (x2.op=2))&&(decide (x2.node=(-1)))))) (by rw[hc11];rfl)
     exact aB ⟨hE.cut ⟨rfl,rfl,rfl,rfl,rfl,trivial⟩,hp⟩
    rintro a w ⟨hE,hp⟩
    refine aB ?_
    refine dG hE rfl (fun hc12=>?_) (fun hc12=>?_)
    ·replace hj1:=(it hc12).symm.trans hj1
     refine aF (aA ?_)
     refine S hE 1 rfl fun a hE=>V hE hp rfl (aJ rfl hE rfl (fun w hw=>aX (cs:=[(Iv x2.op),(Iv x2.node),(Iv x2.index),(Iv x2.count),(Iv x2.kind),(.string x2.text)]) pK (Hp.cN 0 rfl 0 _ (aT rfl) w hw))) fun a hE=>?_
     obtain⟨x3,ex3,hj1⟩:=bnd hj1
     refine Cl hE rfl rfl ent59 (xR aO v6 h6 x2 hp x3 ex3) ⟨rfl,rfl,trivial⟩ fun v a w hR hE=>?_
     obtain⟨ρ3,vr1,hle1,rfl,hr1,hp⟩:=hR
     have hp:=r1 hp
     refine S hE 5 rfl fun a hE=>aB (aF ?_)
     refine aF (aA ?_)
     refine S hE 2 rfl fun a hE=>aB ?_
     refine dG hE rfl (fun hc13=>?_) (fun hc13=>?_)
     ·replace hj1:=(it hc13).symm.trans hj1
      refine aF (aA ?_)
      refine eG (wk0 rfl) rfl rfl hE hp rfl [] trivial [] 24 (fun w=>by simp[Instr.buildSlice,Instr.fill,Value.cells,go_sem]) ?_
      intro a w b6 hE hp
      have hp:=r2 hp
      refine S hE 2 rfl fun a hE=>aB (dB ?_)
      obtain rfl:=oj hj1
      refine⟨_,(oj hl1).symm,fun hb=>?_⟩
      subst hb
      obtain⟨k3,k3a,k3d,hp⟩:=(hp.get 0 rfl).lend
      have f3:aH (ρ3.un k3) (.slice (some ⟨b6,0,none⟩) 0 0) ([]:List Node):=aH.of_all (l:=(([]:List Node))) k3d k3a rfl
      have hp:=r1 hp
      obtain rfl:=oj hm
      exact vF hE rfl rfl rfl ⟨_,rfl,_,_,(PH.le.tr (PH.le.tr (PH.le.tr (PH.le_un _ k1) hlg1) hle1) (PH.le_un _ k3)),rfl,f3,(hp.drop)⟩
     replace hj1:=(ie hc13).symm.trans hj1
     refine aZ (aF ?_)
     refine aA (S hE 2 rfl fun a hE=>?_)
     refine aB ?_
     refine dU ?_
     obtain rfl:=oj hj1
     exact⟨_,rfl,ρ3,_,hle1,hr1,hE.cut ⟨rfl,rfl,rfl,trivial⟩,(hp.drop)⟩
    replace hj1:=(ie hc12).symm.trans hj1
    refine aZ (aF ?_)
    refine aF ?_
    refine kV (by kernel_rfl) (by kernel_rfl) hp ?_
    refine Vq hE rfl (xf hE pO rfl rfl) fun a hE=>Vq hE rfl (xl hE aU 0 rfl rfl rfl rfl) fun a hE=>Sq hE 2 rfl fun a hE=>?_
    obtain⟨m1,hg1,hj1⟩:=bnd hj1
    refine q_cut [_,_,_,_,_,_] (fun a=>Env 105 [(92,(.bool m1)),(1,vp1),(6,v6),(7,(Iv aS)),(8,(Pv b4 0))] a) ?_ ?_
    ·rcases Bool.eq_false_or_eq_true (decide (x2.node<0)) with hc14|hc14
     ·
      replace hg1:=(it hc14).symm.trans hg1
      refine Gkq hE hc14 rfl fun a hE=>Gkq hE hc14 rfl fun a hE=>Gkq hE hc14 rfl fun a hE=>Gkq hE hc14 rfl fun a hE=>Gkq hE hc14 rfl fun a hE=>?_
      refine Vq hE rfl (v:=(.bool true)) (iK rfl hE rfl hc14 rfl) fun a hE=>?_
      obtain rfl:=oj hg1
      exact lG (hE.cut ⟨rfl,rfl,rfl,rfl,rfl,trivial⟩)
     replace hg1:=(ie hc14).symm.trans hg1
     refine Gq hE hc14 rfl (xf hE pO rfl rfl) fun a hE=>Gq hE hc14 rfl (xl hE aU 0 rfl rfl rfl rfl) fun a hE=>Gq hE hc14 rfl (kS rfl hE rfl) fun a hE=>?_
     obtain⟨x4,ex4,hg1⟩:=bnd hg1
     refine J9 (wk1 hE rfl rfl rfl hc14) rfl rfl hE rfl [v6] ⟨rfl,trivial⟩ ent60 (v:=(Iv x4)) (fun w hw=>Calls.mono (aB6 aO v6 h6 hw x4 ex4) fun e w' ⟨v,he,hv,hh⟩=>⟨by rw[he,hv],hh⟩) ?_
     intro a hE
     refine Gq hE hc14 rfl (ex_geq rfl hE rfl rfl) fun a hE=>Vq hE rfl (v:=(.bool (decide (x4≤x2.node)))) (gZ rfl hE rfl hc14 rfl) fun a hE=>?_
     obtain rfl:=oj hg1
     exact lG (hE.cut ⟨rfl,rfl,rfl,rfl,rfl,trivial⟩)
    intro a hE
    refine lG fun w hp=>?_
    have hp:=r1 hp
    refine dG hE rfl (fun hc15=>?_) (fun hc15=>?_)
    ·replace hj1:=(it hc15).symm.trans hj1
     refine aF (aA ?_)
     refine eG (wk0 rfl) rfl rfl hE hp rfl [] trivial [] 24 (fun w=>by simp[Instr.buildSlice,Instr.fill,Value.cells,go_sem]) ?_
     intro a w b7 hE hp
     have hp:=r2 hp
     refine S hE 2 rfl fun a hE=>aB (dB ?_)
     obtain rfl:=oj hj1
     refine⟨_,(oj hl1).symm,fun hb=>?_⟩
     subst hb
     obtain⟨k4,k4a,k4d,hp⟩:=(hp.get 0 rfl).lend
     have f4:aH (ρ1.un k4) (.slice (some ⟨b7,0,none⟩) 0 0) ([]:List Node):=aH.of_all (l:=(([]:List Node))) k4d k4a rfl
     have hp:=r1 hp
     obtain rfl:=oj hm
     exact vF hE rfl rfl rfl ⟨_,rfl,_,_,(PH.le.tr (PH.le.tr (PH.le_un _ k1) hlg1) (PH.le_un _ k4)),rfl,f4,(hp.drop)⟩
    replace hj1:=(ie hc15).symm.trans hj1
    refine aZ (aF ?_)
    refine aA (S hE 1 rfl fun a hE=>?_)
    refine V hE hp rfl (aJ rfl hE rfl (fun w hw=>aX (cs:=[(Iv x2.op),(Iv x2.node),(Iv x2.index),(Iv x2.count),(Iv x2.kind),(.string x2.text)]) pK (Hp.cN 0 rfl 0 _ (aT rfl) w hw))) fun a hE=>?_
    obtain⟨x5,ex5,hj1⟩:=bnd hj1
    refine Cl hE rfl rfl ent61 (Y9 aO v6 h6 0 x2 hp x5 ex5) ⟨rfl,rfl,rfl,trivial⟩ fun v a w hR hE=>?_
    obtain⟨ρ4,vr3,hle2,rfl,hr3,hp⟩:=hR
    have hp:=r1 hp
    refine S hE 5 rfl fun a hE=>aB (aF ?_)
    refine aF (aA ?_)
    refine S hE 2 rfl fun a hE=>aB ?_
    refine dG hE rfl (fun hc16=>?_) (fun hc16=>?_)
    ·replace hj1:=(it hc16).symm.trans hj1
     refine aF (aA ?_)
     refine eG (wk0 rfl) rfl rfl hE hp rfl [] trivial [] 24 (fun w=>by simp[Instr.buildSlice,Instr.fill,Value.cells,go_sem]) ?_
     intro a w b8 hE hp
     have hp:=r2 hp
     refine S hE 2 rfl fun a hE=>aB (dB ?_)
     obtain rfl:=oj hj1
     refine⟨_,(oj hl1).symm,fun hb=>?_⟩
     subst hb
     obtain⟨k5,k5a,k5d,hp⟩:=(hp.get 0 rfl).lend
     have f5:aH (ρ4.un k5) (.slice (some ⟨b8,0,none⟩) 0 0) ([]:List Node):=aH.of_all (l:=(([]:List Node))) k5d k5a rfl
     have hp:=r1 hp
     obtain rfl:=oj hm
     exact vF hE rfl rfl rfl ⟨_,rfl,_,_,(PH.le.tr (PH.le.tr (PH.le.tr (PH.le_un _ k1) hlg1) hle2) (PH.le_un _ k5)),rfl,f5,(hp.drop)⟩
    replace hj1:=(ie hc16).symm.trans hj1
    refine aZ (aA ?_)
    refine S hE 2 rfl fun a hE=>aB ?_
    obtain rfl:=oj hj1
    exact⟨_,rfl,ρ4,_,hle2,hr3,hE.cut ⟨rfl,rfl,rfl,trivial⟩,(hp.drop)⟩
   rintro a w ⟨j1s,rfl,ρ2,v6,hlg2,h6,hE,hp⟩
   dsimp only at hl1
   refine aA (S hE 1 rfl fun a hE=>?_)
   obtain⟨x6,ex6,hl1⟩:=bnd hl1
   refine V hE hp rfl (bF rfl hE rfl rfl (aK ex6)) fun a hE=>S hE 1 rfl fun a hE=>aB ?_
   have hE:=hE.cut (E':=[(1,vp1),(6,v6),(7,(Iv x6))]) ⟨rfl,rfl,rfl,trivial⟩
   exact⟨_,(oj hl1).symm,ρ2,_,(PH.le.tr hlg1 hlg2),h6,hE.cut ⟨rfl,rfl,rfl,trivial⟩,hp⟩
  replace hl1:=(ie hc2).symm.trans hl1
  refine dU ?_
  refine⟨_,(oj hl1).symm,fun hbb=>?_⟩
  exact⟨_,hbb.symm,ρ1,_,hlg1,h6,hE.cut ⟨rfl,trivial⟩,hp⟩
 rintro a w ⟨b2s,rfl,ρ1,v6,hlg1,h6,hE,hp⟩
 dsimp only at hm
 refine aF (aA ?_)
 refine S hE 3 rfl fun a hE=>aB (dB ?_)
 obtain rfl:=oj hm
 exact vF hE rfl rfl rfl ⟨_,rfl,_,_,(PH.le.tr (PH.le_un _ k1) hlg1),rfl,h6,hp⟩
theorem wE {Z:World} {ρ:PH} {L:List bI} {w:World} (p0:(List Node)) (vp0:Value) (hp0:aH ρ vp0 p0) (p1:(List Node)) (vp1:Value) (hp1:aH ρ vp1 p1) (hp:Hp Z ρ (L) w) (r:Bool) (hm:iG p0 p1=some r):
  Calls Tryz.prog 25 #[vp0,vp1] w (Ret fun v w'=>v=(.bool r)∧Hp Z ρ (L) w'):=by
 refine enter (N:=27) Tryz.func25 rfl rfl [(0,vp0),(1,vp1)] rfl (aY ⟨rfl,rfl,trivial⟩) fun a hE=>?_
 unfold iG at hm
 refine aF (aA ?_)
 refine S hE 1 rfl fun a hE=>aB (aF ?_)
 refine aF (aA ?_)
 refine S hE 1 rfl fun a hE=>V hE hp rfl (bW rfl hE rfl (aH.len hp0 eH)) fun a hE=>S hE 1 rfl fun a hE=>V hE hp rfl (bW rfl hE rfl (aH.len hp1 eH)) fun a hE=>S hE 1 rfl fun a hE=>aB ?_
 refine dG hE rfl (fun hc1=>?_) (fun hc1=>?_)
 ·replace hm:=(it hc1).symm.trans hm
  refine aF (aA ?_)
  refine S hE 1 rfl fun a hE=>aB (dB ?_)
  obtain rfl:=oj hm
  exact gW hE rfl rfl ⟨_,rfl,rfl,hp⟩
 replace hm:=(ie hc1).symm.trans hm
 refine aZ (aF ?_)
 refine aF (aA ?_)
 refine S hE 1 rfl fun a hE=>aB ?_
 obtain⟨b1,hc2,hm⟩:=bnd hm
 refine dK (fun a w=>∃s:Unit,b1= .brk s∧(Env 27 [] a∧Hp Z ρ (L) w)) ?_ ?_
 ·refine eF hc2 (fun s a w=>Env 27 [(0,vp0),(1,vp1),(5,(Iv s))] a∧Hp Z ρ (L) w) ?_ ?_
  ·exact⟨hE.cut ⟨rfl,rfl,rfl,trivial⟩,hp⟩
  rintro aO st a w ⟨hE,hp⟩ hl1
  unfold iW at hl1
  refine aF (aF ?_)
  refine aA (S hE 2 rfl fun a hE=>?_)
  refine V hE hp rfl (bW rfl hE rfl (aH.len hp0 eH)) fun a hE=>S hE 1 rfl fun a hE=>aB ?_
  refine dG hE rfl (fun hc3=>?_) (fun hc3=>?_)
  ·replace hl1:=(it hc3).symm.trans hl1
   refine aZ (aF ?_)
   refine dO (aF ?_)
   refine kV (by kernel_rfl) (by kernel_rfl) hp ?_
   refine Sq hE 2 rfl fun a hE=>?_
   obtain⟨x1,ex1,hl1⟩:=bnd hl1
   obtain⟨b2,b2o,b2c,b2r,b2k,b2f⟩:=aH.at hp0 eH ex1
   obtain⟨jJ,rfl,wG⟩:=NodeAt.opens b2k
   have b2f:AtP ρ b2 b2o [(Iv x1.kind),(.string x1.text),(Iv x1.at_),(Iv x1.fin),jJ]:=b2f
   refine Vq hE rfl (aP rfl hE rfl rfl b2r) fun a hE=>Vq hE rfl (aJ rfl hE rfl (fun w hw=>aX (cs:=[(Iv x1.kind),(.string x1.text),(Iv x1.at_),(Iv x1.fin),jJ]) dF (fun j u hj=>cell_of hw.le (b2f j u hj)))) fun a hE=>Sq hE 2 rfl fun a hE=>?_
   obtain⟨x2,ex2,hl1⟩:=bnd hl1
   obtain⟨b3,b3o,b3c,b3r,b3k,b3f⟩:=aH.at hp1 eH ex2
   obtain⟨lY,rfl,zF⟩:=NodeAt.opens b3k
   have b3f:AtP ρ b3 b3o [(Iv x2.kind),(.string x2.text),(Iv x2.at_),(Iv x2.fin),lY]:=b3f
   refine Vq hE rfl (aP rfl hE rfl rfl b3r) fun a hE=>Vq hE rfl (aJ rfl hE rfl (fun w hw=>aX (cs:=[(Iv x2.kind),(.string x2.text),(Iv x2.at_),(Iv x2.fin),lY]) dF (fun j u hj=>cell_of hw.le (b3f j u hj)))) fun a hE=>?_
   obtain⟨x3,ex3,hl1⟩:=bnd hl1
   refine J9 (wk0 rfl) rfl rfl hE rfl [(.agg #[(Iv x1.kind),(.string x1.text),(Iv x1.at_),(Iv x1.fin),jJ]),(.agg #[(Iv x2.kind),(.string x2.text),(Iv x2.at_),(Iv x2.fin),lY])] ⟨rfl,rfl,trivial⟩ ent55 (v:=(.bool x3)) (fun w hw=>Calls.mono (aC0 x1 jJ wG x2 lY zF hw x3 ex3) fun e w' ⟨v,he,hv,hh⟩=>⟨by rw[he,hv],hh⟩) ?_
   intro a hE
   refine Sq hE 1 rfl fun a hE=>?_
   refine lG fun w hp=>?_
   have hp:=r0 hp
   refine dG hE rfl (fun hc4=>?_) (fun hc4=>?_)
   ·replace hl1:=(it hc4).symm.trans hl1
    refine aF (aA ?_)
    refine S hE 1 rfl fun a hE=>aB (dB ?_)
    refine⟨_,(oj hl1).symm,fun hb=>?_⟩
    subst hb
    obtain rfl:=oj hm
    exact gW hE rfl rfl ⟨_,rfl,rfl,hp⟩
   replace hl1:=(ie hc4).symm.trans hl1
   refine aZ (aA ?_)
   refine S hE 1 rfl fun a hE=>?_
   obtain⟨x4,ex4,hl1⟩:=bnd hl1
   refine V hE hp rfl (bF rfl hE rfl rfl (aK ex4)) fun a hE=>S hE 1 rfl fun a hE=>aB ?_
   exact⟨_,(oj hl1).symm,hE.cut ⟨rfl,rfl,rfl,trivial⟩,hp⟩
  replace hl1:=(ie hc3).symm.trans hl1
  refine dU ?_
  refine⟨_,(oj hl1).symm,fun hbb=>?_⟩
  exact⟨_,hbb.symm,hE.cut trivial,hp⟩
 rintro a w ⟨b1s,rfl,hE,hp⟩
 dsimp only at hm
 refine aF (aA ?_)
 refine S hE 1 rfl fun a hE=>aB (dB ?_)
 obtain rfl:=oj hm
 exact gW hE rfl rfl ⟨_,rfl,rfl,hp⟩
end Go.Proofs.YtopnldfjcciieaaGreat

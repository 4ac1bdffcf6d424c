/- The code goes as its model: (assessor/align.numbered).insertion, slices.Reverse[[]assessor/api.Change,assessor/api.Change], slices.Concat[[]assessor/api.Change, -/
import Derived.Test.YtopnldfjcciieaaGreatKFoT
import Derived.Test.YtopnldfjcciieaaGreatKFo3
import Derived.Test.YtopnldfjcciieaaGreatKFo5
import Derived.Test.YtopnldfjcciieaaGreatKFo8
import Derived.Test.YtopnldfjcciieaaGreatKFo9
set_option linter.unusedVariables false
set_option linter.unusedSimpArgs false
set_option maxRecDepth 100000
set_option maxHeartbeats 4000000
namespace Go.Proofs.YtopnldfjcciieaaGreat
open Go.RowKit
theorem O9 {Z:World} {ρ:PH} {L:List bK} {w:World} (p0:Nmb) (fK:Value) (zQ:aH ρ fK p0.nodes) (fM:Value) (N7:aH ρ fM p0.sizes) (eG:Value) (pV:aH ρ eG p0.parent) (p1:Int) (p2:(List Bool)) (vp2:Value) (hp2:aH ρ vp2 p2) (hp:Hp Z ρ (L) w) (r:Chg) (hm:kD p0 p1 p2=some r):
  Calls Tryz.prog 42 #[(.agg #[fK,fM,eG]),(Iv p1),vp2] w (Ret fun v w'=>v=(.agg #[(Iv r.op),(Iv r.node),(Iv r.index),(Iv r.count),(Iv r.kind),(.string r.text)])∧Hp Z ρ (L) w'):=by
 refine enter (N:=132) Tryz.func42 rfl rfl [(0,(.agg #[fK,fM,eG])),(1,(Iv p1)),(2,vp2)] rfl (bC ⟨rfl,rfl,rfl,trivial⟩) fun a hE=>?_
 unfold kD at hm
 refine aG (aA ?_)
 refine iI (wk0 rfl) rfl rfl hE hp rfl (v:=(.agg #[fK,fM,eG])) rfl ?_
 intro a w b1 hE hp
 have hp:=r1 hp
 refine dL (wk0 rfl) rfl rfl hE hp rfl [(Iv 0),(Iv 0),(Iv 0),(Iv 0),(Iv 0),(.string ByteArray.empty)] (fun w=>by simp[Instr.alloc,go_sem]<;>rfl) ?_
 intro a w b2 hE hp
 have hp:=r2 hp
 refine aB (aG ?_)
 obtain⟨x1,ex1,hm⟩:=bnd hm
 obtain⟨x2,ex2,hm⟩:=bnd hm
 have hp:=hp.drew
 refine fG ([([],At0 Z ρ),([],At1 Z ρ (Pt b1 (.cells #[fK,fM,eG] 75 (0,0))))]:Facts) (fun a w=>∃y3:Nat,Env 132 [(1,(Iv p1)),(2,vp2),(3,(Pv b1 0)),(6,(Pv b2 0)),(7,(Pv y3 0))] a∧Hp Z ρ (Pt y3 (.cells #[(Iv 2),(Iv (-1)),(Iv 0),(Iv 0),(Iv x1.kind),(.string x2.text)] 58 (0,0))::Pt b2 (.cells #[(Iv 0),(Iv 0),(Iv 0),(Iv 0),(Iv 0),(.string ByteArray.empty)] 58 (0,0))::Pt b1 (.cells #[fK,fM,eG] 75 (0,0))::L) w) (by kernel_rfl) ⟨fun _=>⟨_,hp⟩,fun _=>⟨_,(hp.get 1 rfl)⟩,trivial⟩ (fun hS=>?_) ?_
 ·
  generalize w.drew=w at hS hp⊢
  refine T0 0 hE hS rfl rfl rfl (by kernel_rfl) (fun _=>xf hE kK rfl rfl) fun a hE hS=>T 1 1 hE hS rfl rfl rfl (by kernel_rfl) (fun _=>xl hE iT 0 rfl rfl rfl rfl) fun a hE hS=>Ts [2] hE hS rfl rfl (by kernel_rfl) fun a hE hS=>?_
  obtain⟨b6,b6o,b6c,b6r,b6k,b6f⟩:=aH.at zQ jI ex1
  obtain⟨vb6_kids,rfl,hb6_kids⟩:=NodeAt.opens b6k
  have b6f:AtP ρ b6 b6o [(Iv x1.kind),(.string x1.text),(Iv x1.at_),(Iv x1.fin),vb6_kids]:=b6f
  refine T0 3 hE hS rfl rfl rfl (by kernel_rfl) (fun _=>aN rfl hE rfl rfl b6r) fun a hE hS=>T0 4 hE hS rfl rfl rfl (by kernel_rfl) (fun _=>xf hE yD rfl rfl) fun a hE hS=>T0 5 hE hS rfl rfl rfl (by kernel_rfl) (fun _=>aK rfl hE rfl (fun w hw=>aV aT (b6f.c 0 rfl w hw))) fun a hE hS=>T0 6 hE hS rfl rfl rfl (by kernel_rfl) (fun _=>xf hE kK rfl rfl) fun a hE hS=>T 7 1 hE hS rfl rfl rfl (by kernel_rfl) (fun _=>xl hE iT 0 rfl rfl rfl rfl) fun a hE hS=>Ts [8] hE hS rfl rfl (by kernel_rfl) fun a hE hS=>?_
  obtain⟨b7,b7o,b7c,b7r,b7k,b7f⟩:=aH.at zQ jI ex2
  obtain⟨vb7_kids,rfl,hb7_kids⟩:=NodeAt.opens b7k
  have b7f:AtP ρ b7 b7o [(Iv x2.kind),(.string x2.text),(Iv x2.at_),(Iv x2.fin),vb7_kids]:=b7f
  refine T0 9 hE hS rfl rfl rfl (by kernel_rfl) (fun _=>aN rfl hE rfl rfl b7r) fun a hE hS=>T0 10 hE hS rfl rfl rfl (by kernel_rfl) (fun _=>xf hE wV rfl rfl) fun a hE hS=>T0 11 hE hS rfl rfl rfl (by kernel_rfl) (fun _=>aK rfl hE rfl (fun w hw=>aV xR (b7f.c 1 rfl w hw))) fun a hE hS=>T0 12 hE hS rfl rfl rfl (by kernel_rfl) (v:=(.agg #[(Iv 2),(Iv (-1)),(Iv 0),(Iv 0),(Iv x1.kind),(.string x2.text)])) (fun _=>lW rfl hE [(0,(Iv 2)),(1,(Iv (-1))),(4,(Iv x1.kind)),(5,(.string x2.text))] (by exact⟨⟨rfl,rfl⟩,⟨rfl,rfl⟩,⟨rfl,rfl⟩,⟨rfl,rfl⟩,trivial⟩) (fun w=>by simp[Instr.build,Instr.fill,Value.cells,go_sem])) fun a hE hS=>?_
  refine W1 13 (by kernel_rfl) rfl ?_
  refine dL (wk0 rfl) rfl rfl hE hp rfl [(Iv 0),(Iv 0),(Iv 0),(Iv 0),(Iv 0),(.string ByteArray.empty)] (fun w=>by simp[Instr.alloc,go_sem]<;>rfl) ?_
  intro a w b8 hE hp
  have hp:=r3 hp
  refine aB (aF ⟨gp0 hp,gp 2 hp rfl,trivial⟩ fun hS=>?_)
  refine W1 14 (by kernel_rfl) rfl ?_
  refine aX (wk0 rfl) rfl hE hp rfl rfl rfl 0 rfl xA.size_ rfl (aQ ⟨rfl,rfl,rfl,rfl,rfl,rfl,trivial⟩) [(Iv 2),(Iv (-1)),(Iv 0),(Iv 0),(Iv x1.kind),(.string x2.text)] rfl ?_
  intro w hp
  have hp:=r3 hp
  refine aB (aF ⟨gp0 hp,gp 2 hp rfl,trivial⟩ fun hS=>?_)
  exact bP (by kernel_rfl) ⟨_,hE.cut ⟨rfl,rfl,rfl,rfl,rfl,trivial⟩,hp⟩
 rintro a w ⟨y3,hE,hp⟩
 refine aG (aG ?_)
 refine aA (S hE 1 rfl fun a hE=>?_)
 refine V hE hp rfl (bT rfl hE rfl (aH.len hp2 rH)) fun a hE=>S hE 1 rfl fun a hE=>aB ?_
 obtain⟨b9,hc1,hm⟩:=bnd hm
 refine dH (fun a w=>Env 132 [(1,(Iv p1)),(2,vp2),(3,(Pv b1 0)),(6,(Pv b2 0)),(7,(Pv y3 0))] a∧Hp Z ρ (Pt y3 (.cells #[(Iv 2),(Iv b9),(Iv 0),(Iv 0),(Iv x1.kind),(.string x2.text)] 58 (0,0))::Pt b2 (.cells #[(Iv 0),(Iv 0),(Iv 0),(Iv 0),(Iv 0),(.string ByteArray.empty)] 58 (0,0))::Pt b1 (.cells #[fK,fM,eG] 75 (0,0))::L) w) ?_ ?_
 ·refine dZ hc1 (fun s a w=>Env 132 [(1,(Iv p1)),(2,vp2),(3,(Pv b1 0)),(6,(Pv b2 0)),(7,(Pv y3 0)),(26,vp2),(27,(Iv (p2.length:Int))),(28,(Iv s.1))] a∧Hp Z ρ (Pt y3 (.cells #[(Iv 2),(Iv s.2),(Iv 0),(Iv 0),(Iv x1.kind),(.string x2.text)] 58 (0,0))::Pt b2 (.cells #[(Iv 0),(Iv 0),(Iv 0),(Iv 0),(Iv 0),(.string ByteArray.empty)] 58 (0,0))::Pt b1 (.cells #[fK,fM,eG] 75 (0,0))::L) w) ?_ ?_
  ·exact⟨hE.cut ⟨rfl,rfl,rfl,rfl,rfl,rfl,rfl,rfl,trivial⟩,hp⟩
  rintro⟨aP,aU⟩ st a w ⟨hE,hp⟩ hl1
  dsimp only at hE hp hl1
  unfold fZ at hl1
  refine aG (aA ?_)
  refine S hE 1 rfl fun a hE=>aB (aG ?_)
  refine dE hE rfl (fun hc2=>?_) (fun hc2=>?_)
  ·replace hl1:=(it hc2).symm.trans hl1
   refine aZ (aG ?_)
   refine dM (aG ?_)
   refine aA (S hE 1 rfl fun a hE=>?_)
   obtain⟨x3,ex3,hl1⟩:=bnd hl1
   obtain⟨b10,b10o,b10c,b10r,b10k,b10f⟩:=aH.at hp2 rH ex3
   obtain rfl:b10c=Enc.enc x3:=b10k
   have b10f:AtP ρ b10 b10o [(.bool x3)]:=b10f
   refine V hE hp rfl (aN rfl hE rfl rfl b10r) fun a hE=>V hE hp rfl (aK rfl hE rfl (fun w hw=>aV vH (b10f.c 0 rfl w hw))) fun a hE=>S hE 2 rfl fun a hE=>aB (aG ?_)
   refine aG (aA ?_)
   refine S hE 1 rfl fun a hE=>V hE hp rfl (xf hE pO rfl rfl) fun a hE=>V hE hp rfl (xl hE aY 2 rfl rfl rfl rfl) fun a hE=>S hE 1 rfl fun a hE=>?_
   obtain⟨x4,ex4,hl1⟩:=bnd hl1
   obtain⟨b11,b11o,b11c,b11r,b11k,b11f⟩:=aH.at pV bI ex4
   obtain rfl:b11c=Enc.enc x4:=b11k
   have b11f:AtP ρ b11 b11o [(Iv x4)]:=b11f
   refine V hE hp rfl (aN rfl hE rfl rfl b11r) fun a hE=>V hE hp rfl (aK rfl hE rfl (fun w hw=>aV aT (b11f.c 0 rfl w hw))) fun a hE=>S hE 1 rfl fun a hE=>aB ?_
   have hE:=hE.cut (E':=[(1,(Iv p1)),(2,vp2),(3,(Pv b1 0)),(6,(Pv b2 0)),(7,(Pv y3 0)),(9,(.bool x3)),(26,vp2),(27,(Iv (p2.length:Int))),(28,(Iv aP)),(39,(.bool (decide (aP=x4))))]) ⟨rfl,rfl,rfl,rfl,rfl,rfl,rfl,rfl,rfl,rfl,trivial⟩
   refine dE hE rfl (fun hc3=>?_) (fun hc3=>?_)
   ·replace hl1:=(it hc3).symm.trans hl1
    refine aG (aA ?_)
    refine V hE hp rfl (xf hE aA3 rfl rfl) fun a hE=>V hE hp rfl (xl hE aT 0 rfl rfl rfl rfl) fun a hE=>?_
    obtain⟨x5,ex5,hl1⟩:=bnd hl1
    refine V hE hp rfl (bF rfl hE rfl rfl (aO ex5)) fun a hE=>V hE hp rfl (xf hE aA3 rfl rfl) fun a hE=>?_
    refine aX (wk0 rfl) rfl hE hp rfl rfl rfl 0 rfl aT.size_ rfl (aQ ⟨rfl,trivial⟩) [(Iv 2),(Iv x5),(Iv 0),(Iv 0),(Iv x1.kind),(.string x2.text)] rfl ?_
    intro w hp
    have hp:=r3 hp
    refine aB ?_
    refine dS ?_
    refine⟨_,(oj hl1).symm,fun hbb=>?_⟩
    subst hbb
    exact⟨hE.cut ⟨rfl,rfl,rfl,rfl,rfl,trivial⟩,hp⟩
   replace hl1:=(ie hc3).symm.trans hl1
   refine aZ (aG ?_)
   refine aA (S hE 2 rfl fun a hE=>?_)
   obtain⟨m1,hg1,hl1⟩:=bnd hl1
   refine iL [_,_,_,_,_,_,_] (fun a w=>Env 132 [(52,(.bool m1)),(1,(Iv p1)),(2,vp2),(3,(Pv b1 0)),(6,(Pv b2 0)),(7,(Pv y3 0)),(26,vp2),(27,(Iv (p2.length:Int))),(28,(Iv aP))] a∧Hp Z ρ (Pt y3 (.cells #[(Iv 2),(Iv aU),(Iv 0),(Iv 0),(Iv x1.kind),(.string x2.text)] 58 (0,0))::Pt b2 (.cells #[(Iv 0),(Iv 0),(Iv 0),(Iv 0),(Iv 0),(.string ByteArray.empty)] 58 (0,0))::Pt b1 (.cells #[fK,fM,eG] 75 (0,0))::L) w) ?_ ?_
   ·rcases Bool.eq_false_or_eq_true x3 with hc4|hc4
    ·
     replace hg1:=(it hc4).symm.trans hg1
     refine G hE hp hc4 rfl (xf hE pO rfl rfl) fun a hE=>G hE hp hc4 rfl (xl hE aY 2 rfl rfl rfl rfl) fun a hE=>Gs hE hc4 rfl rfl fun a hE=>?_
     obtain⟨x6,ex6,hg1⟩:=bnd hg1
     obtain⟨b12,b12o,b12c,b12r,b12k,b12f⟩:=aH.at pV bI ex6
     obtain rfl:b12c=Enc.enc x6:=b12k
     have b12f:AtP ρ b12 b12o [(Iv x6)]:=b12f
     refine G hE hp hc4 rfl (aN rfl hE rfl rfl b12r) fun a hE=>G hE hp hc4 rfl (aK rfl hE rfl (fun w hw=>aV aT (b12f.c 0 rfl w hw))) fun a hE=>Gs hE hc4 rfl rfl fun a hE=>pk1 hE hc4 rfl rfl rfl rfl fun a hE=>?_
     obtain rfl:=oj hg1
     exact aB ⟨hE.cut ⟨rfl,rfl,rfl,rfl,rfl,rfl,rfl,rfl,rfl,trivial⟩,hp⟩
    replace hg1:=(ie hc4).symm.trans hg1
    refine Gk hE hc4 rfl fun a hE=>Gk hE hc4 rfl fun a hE=>Gk hE hc4 rfl fun a hE=>Gk hE hc4 rfl fun a hE=>Gk hE hc4 rfl fun a hE=>Gk hE hc4 rfl fun a hE=>pk0 hE hc4 rfl rfl rfl rfl fun a hE=>?_
    obtain rfl:=oj hg1
    exact aB ⟨hE.cut ⟨rfl,rfl,rfl,rfl,rfl,rfl,rfl,rfl,rfl,trivial⟩,hp⟩
   rintro a w ⟨hE,hp⟩
   refine aB ?_
   refine dE hE rfl (fun hc5=>?_) (fun hc5=>?_)
   ·replace hl1:=(it hc5).symm.trans hl1
    refine aA (V hE hp rfl (xf hE aA3 rfl rfl) fun a hE=>?_)
    refine V hE hp rfl (xl hE aT 0 rfl rfl rfl rfl) fun a hE=>?_
    obtain⟨x7,ex7,hl1⟩:=bnd hl1
    refine V hE hp rfl (bF rfl hE rfl rfl (aO ex7)) fun a hE=>V hE hp rfl (xf hE aA3 rfl rfl) fun a hE=>?_
    refine aX (wk0 rfl) rfl hE hp rfl rfl rfl 0 rfl aT.size_ rfl (aQ ⟨rfl,trivial⟩) [(Iv 2),(Iv x7),(Iv 0),(Iv 0),(Iv x1.kind),(.string x2.text)] rfl ?_
    intro w hp
    have hp:=r3 hp
    refine aB (aA ?_)
    obtain⟨x8,ex8,hl1⟩:=bnd hl1
    refine V hE hp rfl (bF rfl hE rfl rfl (aO ex8)) fun a hE=>S hE 1 rfl fun a hE=>aB ?_
    exact⟨_,(oj hl1).symm,hE.cut ⟨rfl,rfl,rfl,rfl,rfl,rfl,rfl,rfl,trivial⟩,hp⟩
   replace hl1:=(ie hc5).symm.trans hl1
   refine aZ (aA ?_)
   obtain⟨x9,ex9,hl1⟩:=bnd hl1
   refine V hE hp rfl (bF rfl hE rfl rfl (aO ex9)) fun a hE=>S hE 1 rfl fun a hE=>aB ?_
   exact⟨_,(oj hl1).symm,hE.cut ⟨rfl,rfl,rfl,rfl,rfl,rfl,rfl,rfl,trivial⟩,hp⟩
  replace hl1:=(ie hc2).symm.trans hl1
  refine dS ?_
  refine⟨_,(oj hl1).symm,fun hbb=>?_⟩
  subst hbb
  exact⟨hE.cut ⟨rfl,rfl,rfl,rfl,rfl,trivial⟩,hp⟩
 rintro a w ⟨hE,hp⟩
 refine aG (aG ?_)
 refine aA (S hE 1 rfl fun a hE=>?_)
 refine V hE hp rfl (bT rfl hE rfl (aH.len hp2 rH)) fun a hE=>S hE 1 rfl fun a hE=>aB ?_
 obtain⟨b13,hc6,hm⟩:=bnd hm
 refine dH (fun a w=>Env 132 [(6,(Pv b2 0)),(7,(Pv y3 0))] a∧Hp Z ρ (Pt y3 (.cells #[(Iv 2),(Iv b9),(Iv b13.1),(Iv b13.2),(Iv x1.kind),(.string x2.text)] 58 (0,0))::Pt b2 (.cells #[(Iv 0),(Iv 0),(Iv 0),(Iv 0),(Iv 0),(.string ByteArray.empty)] 58 (0,0))::Pt b1 (.cells #[fK,fM,eG] 75 (0,0))::L) w) ?_ ?_
 ·refine dZ hc6 (fun s a w=>Env 132 [(1,(Iv p1)),(2,vp2),(3,(Pv b1 0)),(6,(Pv b2 0)),(7,(Pv y3 0)),(58,vp2),(59,(Iv (p2.length:Int))),(60,(Iv s.1))] a∧Hp Z ρ (Pt y3 (.cells #[(Iv 2),(Iv b9),(Iv s.2.1),(Iv s.2.2),(Iv x1.kind),(.string x2.text)] 58 (0,0))::Pt b2 (.cells #[(Iv 0),(Iv 0),(Iv 0),(Iv 0),(Iv 0),(.string ByteArray.empty)] 58 (0,0))::Pt b1 (.cells #[fK,fM,eG] 75 (0,0))::L) w) ?_ ?_
  ·exact⟨hE.cut ⟨rfl,rfl,rfl,rfl,rfl,rfl,rfl,rfl,trivial⟩,hp⟩
  rintro⟨bJ,dY,zA⟩ st a w ⟨hE,hp⟩ hl2
  dsimp only at hE hp hl2
  unfold iU at hl2
  refine aG (aA ?_)
  refine S hE 1 rfl fun a hE=>aB (aG ?_)
  refine dE hE rfl (fun hc7=>?_) (fun hc7=>?_)
  ·replace hl2:=(it hc7).symm.trans hl2
   refine aZ (aG ?_)
   obtain⟨j1,hj1,hl2⟩:=bnd hl2
   refine dH (fun a w=>Env 132 [(1,(Iv p1)),(2,vp2),(3,(Pv b1 0)),(6,(Pv b2 0)),(7,(Pv y3 0)),(58,vp2),(59,(Iv (p2.length:Int))),(60,(Iv bJ))] a∧Hp Z ρ (Pt y3 (.cells #[(Iv 2),(Iv b9),(Iv j1.1),(Iv j1.2),(Iv x1.kind),(.string x2.text)] 58 (0,0))::Pt b2 (.cells #[(Iv 0),(Iv 0),(Iv 0),(Iv 0),(Iv 0),(.string ByteArray.empty)] 58 (0,0))::Pt b1 (.cells #[fK,fM,eG] 75 (0,0))::L) w) ?_ ?_
   ·
    refine aG (aA ?_)
    refine S hE 1 rfl fun a hE=>?_
    obtain⟨x10,ex10,hj1⟩:=bnd hj1
    obtain⟨b14,b14o,b14c,b14r,b14k,b14f⟩:=aH.at hp2 rH ex10
    obtain rfl:b14c=Enc.enc x10:=b14k
    have b14f:AtP ρ b14 b14o [(.bool x10)]:=b14f
    refine V hE hp rfl (aN rfl hE rfl rfl b14r) fun a hE=>V hE hp rfl (aK rfl hE rfl (fun w hw=>aV vH (b14f.c 0 rfl w hw))) fun a hE=>S hE 2 rfl fun a hE=>aB (aG ?_)
    refine aG ?_
    refine jR (by kernel_rfl) (by kernel_rfl) hp ?_
    refine Sq hE 3 rfl fun a hE=>?_
    obtain⟨m2,hg2,hj1⟩:=bnd hj1
    refine Q9 [_,_,_,_,_,_,_,_,_,_,_,_,_,_,_,_,_,_] (fun a=>Env 132 [(85,(.bool m2)),(1,(Iv p1)),(2,vp2),(3,(Pv b1 0)),(6,(Pv b2 0)),(7,(Pv y3 0)),(10,(Iv bJ)),(58,vp2),(59,(Iv (p2.length:Int))),(60,(Iv bJ))] a) ?_ ?_
    ·rcases Bool.eq_false_or_eq_true (!x10) with hc8|hc8
     ·
      replace hg2:=(it hc8).symm.trans hg2
      refine Gkq hE hc8 rfl fun a hE=>Gkq hE hc8 rfl fun a hE=>Gkq hE hc8 rfl fun a hE=>Gkq hE hc8 rfl fun a hE=>Gkq hE hc8 rfl fun a hE=>Gkq hE hc8 rfl fun a hE=>Gkq hE hc8 rfl fun a hE=>?_
      refine q_skip (wk3 hE rfl rfl rfl) rfl rfl hE ?_
      intro a hE
      refine q_skip (wk3 hE rfl rfl rfl) rfl rfl hE ?_
      intro a hE
      refine q_skip (wk3 hE rfl rfl rfl) rfl rfl hE ?_
      intro a hE
      refine q_skip (wk3 hE rfl rfl rfl) rfl rfl hE ?_
      intro a hE
      refine q_skip (wk3 hE rfl rfl rfl) rfl rfl hE ?_
      intro a hE
      refine q_skip (wk3 hE rfl rfl rfl) rfl rfl hE ?_
      intro a hE
      refine q_skip (wk3 hE rfl rfl rfl) rfl rfl hE ?_
      intro a hE
      refine q_skip (wk3 hE rfl rfl rfl) rfl rfl hE ?_
      intro a hE
      refine q_skip (wk3 hE rfl rfl rfl) rfl rfl hE ?_
      intro a hE
      refine Gkq hE hc8 rfl fun a hE=>?_
      refine Vq hE rfl (v:=(.bool true)) (iD rfl hE rfl hc8 rfl) fun a hE=>?_
      obtain rfl:=oj hg2
      exact iM (hE.cut ⟨rfl,rfl,rfl,rfl,rfl,rfl,rfl,rfl,rfl,rfl,trivial⟩)
     replace hg2:=(ie hc8).symm.trans hg2
     refine Gq hE hc8 rfl (xf hE pO rfl rfl) fun a hE=>Gq hE hc8 rfl (xl hE aY 2 rfl rfl rfl rfl) fun a hE=>Gq hE hc8 rfl (eH rfl hE rfl) fun a hE=>?_
     obtain⟨x11,ex11,hg2⟩:=bnd hg2
     obtain⟨b15,b15o,b15c,b15r,b15k,b15f⟩:=aH.at pV bI ex11
     obtain rfl:b15c=Enc.enc x11:=b15k
     have b15f:AtP ρ b15 b15o [(Iv x11)]:=b15f
     refine Gq hE hc8 rfl (aN rfl hE rfl rfl b15r) fun a hE=>Gq hE hc8 rfl (aK rfl hE rfl (fun w hw=>aV aT (b15f.c 0 rfl w hw))) fun a hE=>Gq hE hc8 rfl (ex_geq rfl hE rfl rfl) fun a hE=>Gq hE hc8 rfl (eH rfl hE rfl) fun a hE=>?_
     obtain⟨m3,hg3,hg2⟩:=bnd hg2
     refine Q9 [_,_,_,_,_,_,_,_,_,_] (fun a=>Env 132 [(84,(.bool m3)),(1,(Iv p1)),(2,vp2),(3,(Pv b1 0)),(6,(Pv b2 0)),(7,(Pv y3 0)),(10,(Iv bJ)),(58,vp2),(59,(Iv (p2.length:Int))),(60,(Iv bJ)),(67,(.bool (!x10))),(68,(Pv b1 2)),(69,eG),(70,(Iv p1)),(71,(Pv b15 b15o)),(72,(Iv x11)),(73,(.bool (decide (0≤x11)))),(74,(.bool (decide (0≤x11))))] a) ?_ ?_
     ·rcases Bool.eq_false_or_eq_true (decide (0≤x11)) with hc9|hc9
      ·
       replace hg3:=(it hc9).symm.trans hg3
       refine Gq hE hc9 rfl (aK rfl hE rfl (fun w hw=>aW (cs:=[fK,fM,eG]) dD (Hp.cN 2 rfl 0 _ (aS rfl) w hw))) fun a hE=>Gq hE hc9 rfl (xf hE pO rfl rfl) fun a hE=>Gq hE hc9 rfl (xl hE aY 2 rfl rfl rfl rfl) fun a hE=>Gq hE hc9 rfl (eH rfl hE rfl) fun a hE=>?_
       obtain⟨x12,ex12,hg3⟩:=bnd hg3
       obtain⟨b16,b16o,b16c,b16r,b16k,b16f⟩:=aH.at pV bI ex12
       obtain rfl:b16c=Enc.enc x12:=b16k
       have b16f:AtP ρ b16 b16o [(Iv x12)]:=b16f
       refine Gq hE hc9 rfl (aN rfl hE rfl rfl b16r) fun a hE=>Gq hE hc9 rfl (aK rfl hE rfl (fun w hw=>aV aT (b16f.c 0 rfl w hw))) fun a hE=>Gq hE hc9 rfl (eH rfl hE rfl) fun a hE=>?_
       obtain⟨x13,ex13,hg3⟩:=bnd hg3
       refine Y7 (wk1 hE rfl rfl rfl hc9) rfl rfl hE rfl [(.agg #[fK,fM,eG]),(Iv x12),(Iv bJ)] ⟨rfl,rfl,rfl,trivial⟩ ent45 (v:=(.bool x13)) (fun w hw=>Calls.mono (kJ p0 fK zQ fM N7 eG pV x12 bJ hw x13 ex13) fun e w' ⟨v,he,hv,hh⟩=>⟨by rw[he,hv],hh⟩) ?_
       intro a hE
       refine Gq hE hc9 rfl (ex_not rfl hE rfl) fun a hE=>Gq hE hc8 rfl (v:=(.bool (!x13))) (iD rfl hE rfl hc9 rfl) fun a hE=>?_
       obtain rfl:=oj hg3
       exact iM (hE.cut ⟨rfl,rfl,rfl,rfl,rfl,rfl,rfl,rfl,rfl,rfl,rfl,rfl,rfl,rfl,rfl,rfl,rfl,rfl,trivial⟩)
      replace hg3:=(ie hc9).symm.trans hg3
      refine Gkq hE hc9 rfl fun a hE=>Gkq hE hc9 rfl fun a hE=>Gkq hE hc9 rfl fun a hE=>Gkq hE hc9 rfl fun a hE=>Gkq hE hc9 rfl fun a hE=>Gkq hE hc9 rfl fun a hE=>Gkq hE hc9 rfl fun a hE=>Gkq hE hc9 rfl fun a hE=>Gkq hE hc9 rfl fun a hE=>Gq hE hc8 rfl (v:=(.bool false)) (gQ rfl hE rfl hc9 rfl) fun a hE=>?_
      obtain rfl:=oj hg3
      exact iM (hE.cut ⟨rfl,rfl,rfl,rfl,rfl,rfl,rfl,rfl,rfl,rfl,rfl,rfl,rfl,rfl,rfl,rfl,rfl,rfl,trivial⟩)
     intro a hE
     refine Vq hE rfl (v:=(.bool m3)) (gQ rfl hE rfl hc8 rfl) fun a hE=>?_
     obtain rfl:=oj hg2
     exact iM (hE.cut ⟨rfl,rfl,rfl,rfl,rfl,rfl,rfl,rfl,rfl,rfl,trivial⟩)
    intro a hE
    refine iM fun w hp=>?_
    have hp:=r3 hp
    refine dE hE rfl (fun hc10=>?_) (fun hc10=>?_)
    ·replace hj1:=(it hc10).symm.trans hj1
     refine dS ?_
     obtain rfl:=oj hj1
     exact⟨hE.cut ⟨rfl,rfl,rfl,rfl,rfl,rfl,rfl,rfl,trivial⟩,hp⟩
    replace hj1:=(ie hc10).symm.trans hj1
    refine aZ (aG ?_)
    refine aA (V hE hp rfl (xf hE pO rfl rfl) fun a hE=>?_)
    refine V hE hp rfl (xl hE aY 2 rfl rfl rfl rfl) fun a hE=>S hE 1 rfl fun a hE=>?_
    obtain⟨x14,ex14,hj1⟩:=bnd hj1
    obtain⟨b17,b17o,b17c,b17r,b17k,b17f⟩:=aH.at pV bI ex14
    obtain rfl:b17c=Enc.enc x14:=b17k
    have b17f:AtP ρ b17 b17o [(Iv x14)]:=b17f
    refine V hE hp rfl (aN rfl hE rfl rfl b17r) fun a hE=>V hE hp rfl (aK rfl hE rfl (fun w hw=>aV aT (b17f.c 0 rfl w hw))) fun a hE=>S hE 1 rfl fun a hE=>aB (aG ?_)
    obtain⟨b18,hc11,hj1⟩:=bnd hj1
    refine dH (fun a w=>Env 132 [(1,(Iv p1)),(2,vp2),(3,(Pv b1 0)),(6,(Pv b2 0)),(7,(Pv y3 0)),(10,(Iv bJ)),(12,(Iv b18)),(58,vp2),(59,(Iv (p2.length:Int))),(60,(Iv bJ))] a∧Hp Z ρ (Pt y3 (.cells #[(Iv 2),(Iv b9),(Iv dY),(Iv zA),(Iv x1.kind),(.string x2.text)] 58 (0,0))::Pt b2 (.cells #[(Iv 0),(Iv 0),(Iv 0),(Iv 0),(Iv 0),(.string ByteArray.empty)] 58 (0,0))::Pt b1 (.cells #[fK,fM,eG] 75 (0,0))::L) w) ?_ ?_
    ·refine dZ hc11 (fun s a w=>Env 132 [(1,(Iv p1)),(2,vp2),(3,(Pv b1 0)),(6,(Pv b2 0)),(7,(Pv y3 0)),(10,(Iv bJ)),(12,(Iv s)),(58,vp2),(59,(Iv (p2.length:Int))),(60,(Iv bJ))] a∧Hp Z ρ (Pt y3 (.cells #[(Iv 2),(Iv b9),(Iv dY),(Iv zA),(Iv x1.kind),(.string x2.text)] 58 (0,0))::Pt b2 (.cells #[(Iv 0),(Iv 0),(Iv 0),(Iv 0),(Iv 0),(.string ByteArray.empty)] 58 (0,0))::Pt b1 (.cells #[fK,fM,eG] 75 (0,0))::L) w) ?_ ?_
     ·exact⟨hE.cut ⟨rfl,rfl,rfl,rfl,rfl,rfl,rfl,rfl,rfl,rfl,trivial⟩,hp⟩
     rintro eQ st a w ⟨hE,hp⟩ hl3
     unfold fC at hl3
     refine aG (aG ?_)
     refine aA (S hE 3 rfl fun a hE=>?_)
     obtain⟨m4,hg4,hl3⟩:=bnd hl3
     refine iL [_,_,_,_,_,_] (fun a w=>Env 132 [(99,(.bool m4)),(1,(Iv p1)),(2,vp2),(3,(Pv b1 0)),(6,(Pv b2 0)),(7,(Pv y3 0)),(10,(Iv bJ)),(12,(Iv eQ)),(58,vp2),(59,(Iv (p2.length:Int))),(60,(Iv bJ))] a∧Hp Z ρ (Pt y3 (.cells #[(Iv 2),(Iv b9),(Iv dY),(Iv zA),(Iv x1.kind),(.string x2.text)] 58 (0,0))::Pt b2 (.cells #[(Iv 0),(Iv 0),(Iv 0),(Iv 0),(Iv 0),(.string ByteArray.empty)] 58 (0,0))::Pt b1 (.cells #[fK,fM,eG] 75 (0,0))::L) w) ?_ ?_
     ·rcases Bool.eq_false_or_eq_true (decide (0≤eQ)) with hc12|hc12
      ·
       replace hg4:=(it hc12).symm.trans hg4
       refine Gs hE hc12 rfl rfl fun a hE=>Gs hE hc12 rfl rfl fun a hE=>?_
       obtain⟨x15,ex15,hg4⟩:=bnd hg4
       obtain⟨b19,b19o,b19c,b19r,b19k,b19f⟩:=aH.at hp2 rH ex15
       obtain rfl:b19c=Enc.enc x15:=b19k
       have b19f:AtP ρ b19 b19o [(.bool x15)]:=b19f
       refine G hE hp hc12 rfl (aN rfl hE rfl rfl b19r) fun a hE=>G hE hp hc12 rfl (aK rfl hE rfl (fun w hw=>aV vH (b19f.c 0 rfl w hw))) fun a hE=>Gs hE hc12 rfl rfl fun a hE=>pk1 hE hc12 rfl rfl rfl rfl fun a hE=>?_
       obtain rfl:=oj hg4
       exact aB ⟨hE.cut ⟨rfl,rfl,rfl,rfl,rfl,rfl,rfl,rfl,rfl,rfl,rfl,trivial⟩,hp⟩
      replace hg4:=(ie hc12).symm.trans hg4
      refine Gk hE hc12 rfl fun a hE=>Gk hE hc12 rfl fun a hE=>Gk hE hc12 rfl fun a hE=>Gk hE hc12 rfl fun a hE=>Gk hE hc12 rfl fun a hE=>pk0 hE hc12 rfl rfl rfl rfl fun a hE=>?_
      obtain rfl:=oj hg4
      exact aB ⟨hE.cut ⟨rfl,rfl,rfl,rfl,rfl,rfl,rfl,rfl,rfl,rfl,rfl,trivial⟩,hp⟩
     rintro a w ⟨hE,hp⟩
     refine aB ?_
     refine dE hE rfl (fun hc13=>?_) (fun hc13=>?_)
     ·replace hl3:=(it hc13).symm.trans hl3
      refine aZ (dM ?_)
      refine aA (V hE hp rfl (xf hE pO rfl rfl) fun a hE=>?_)
      refine V hE hp rfl (xl hE aY 2 rfl rfl rfl rfl) fun a hE=>S hE 1 rfl fun a hE=>?_
      obtain⟨x16,ex16,hl3⟩:=bnd hl3
      obtain⟨b20,b20o,b20c,b20r,b20k,b20f⟩:=aH.at pV bI ex16
      obtain rfl:b20c=Enc.enc x16:=b20k
      have b20f:AtP ρ b20 b20o [(Iv x16)]:=b20f
      refine V hE hp rfl (aN rfl hE rfl rfl b20r) fun a hE=>V hE hp rfl (aK rfl hE rfl (fun w hw=>aV aT (b20f.c 0 rfl w hw))) fun a hE=>S hE 1 rfl fun a hE=>aB ?_
      exact⟨_,(oj hl3).symm,hE.cut ⟨rfl,rfl,rfl,rfl,rfl,rfl,rfl,rfl,rfl,rfl,trivial⟩,hp⟩
     replace hl3:=(ie hc13).symm.trans hl3
     refine dS ?_
     refine⟨_,(oj hl3).symm,fun hbb=>?_⟩
     subst hbb
     exact⟨hE.cut ⟨rfl,rfl,rfl,rfl,rfl,rfl,rfl,rfl,rfl,rfl,trivial⟩,hp⟩
    rintro a w ⟨hE,hp⟩
    refine dM (aG ?_)
    refine aA (S hE 1 rfl fun a hE=>?_)
    refine V hE hp rfl (xf hE pO rfl rfl) fun a hE=>V hE hp rfl (xl hE aY 2 rfl rfl rfl rfl) fun a hE=>S hE 1 rfl fun a hE=>?_
    obtain⟨x17,ex17,hj1⟩:=bnd hj1
    obtain⟨b21,b21o,b21c,b21r,b21k,b21f⟩:=aH.at pV bI ex17
    obtain rfl:b21c=Enc.enc x17:=b21k
    have b21f:AtP ρ b21 b21o [(Iv x17)]:=b21f
    refine V hE hp rfl (aN rfl hE rfl rfl b21r) fun a hE=>V hE hp rfl (aK rfl hE rfl (fun w hw=>aV aT (b21f.c 0 rfl w hw))) fun a hE=>S hE 2 rfl fun a hE=>aB ?_
    have hE:=hE.cut (E':=[(1,(Iv p1)),(2,vp2),(3,(Pv b1 0)),(6,(Pv b2 0)),(7,(Pv y3 0)),(10,(Iv bJ)),(58,vp2),(59,(Iv (p2.length:Int))),(60,(Iv bJ)),(105,(.bool (!decide (b18=x17))))]) ⟨rfl,rfl,rfl,rfl,rfl,rfl,rfl,rfl,rfl,rfl,trivial⟩
    refine dE hE rfl (fun hc14=>?_) (fun hc14=>?_)
    ·replace hj1:=(it hc14).symm.trans hj1
     refine aZ ?_
     obtain rfl:=oj hj1
     exact⟨hE.cut ⟨rfl,rfl,rfl,rfl,rfl,rfl,rfl,rfl,trivial⟩,hp⟩
    replace hj1:=(ie hc14).symm.trans hj1
    refine aG (aA ?_)
    refine S hE 4 rfl fun a hE=>aB ?_
    refine dE hE rfl (fun hc15=>?_) (fun hc15=>?_)
    ·replace hj1:=(it hc15).symm.trans hj1
     refine aA (V hE hp rfl (xf hE aA4 rfl rfl) fun a hE=>?_)
     refine V hE hp rfl (xl hE aT 0 rfl rfl rfl rfl) fun a hE=>?_
     obtain⟨x18,ex18,hj1⟩:=bnd hj1
     refine V hE hp rfl (bF rfl hE rfl rfl (aO ex18)) fun a hE=>V hE hp rfl (xf hE aA4 rfl rfl) fun a hE=>?_
     refine aX (wk0 rfl) rfl hE hp rfl rfl rfl 0 rfl aT.size_ rfl (aQ ⟨rfl,trivial⟩) [(Iv 2),(Iv b9),(Iv x18),(Iv zA),(Iv x1.kind),(.string x2.text)] rfl ?_
     intro w hp
     have hp:=r3 hp
     refine aB ?_
     obtain rfl:=oj hj1
     exact⟨hE.cut ⟨rfl,rfl,rfl,rfl,rfl,rfl,rfl,rfl,trivial⟩,hp⟩
    replace hj1:=(ie hc15).symm.trans hj1
    refine aG (aA ?_)
    refine V hE hp rfl (aK rfl hE rfl (fun w hw=>aW (cs:=[fK,fM,eG]) dD (Hp.cN 2 rfl 0 _ (aS rfl) w hw))) fun a hE=>S hE 2 rfl fun a hE=>?_
    obtain⟨x19,ex19,hj1⟩:=bnd hj1
    refine Cl hE rfl rfl ent45 (kJ p0 fK zQ fM N7 eG pV p1 bJ hp x19 ex19) ⟨rfl,rfl,rfl,trivial⟩ fun v a w hR hE=>?_
    obtain⟨rfl,hp⟩:=hR
    have hp:=r3 hp
    refine S hE 1 rfl fun a hE=>aB ?_
    refine dE hE rfl (fun hc16=>?_) (fun hc16=>?_)
    ·replace hj1:=(it hc16).symm.trans hj1
     refine aA (V hE hp rfl (xf hE aA5 rfl rfl) fun a hE=>?_)
     refine V hE hp rfl (xl hE aT 0 rfl rfl rfl rfl) fun a hE=>?_
     obtain⟨x20,ex20,hj1⟩:=bnd hj1
     refine V hE hp rfl (bF rfl hE rfl rfl (aO ex20)) fun a hE=>V hE hp rfl (xf hE aA5 rfl rfl) fun a hE=>?_
     refine aX (wk0 rfl) rfl hE hp rfl rfl rfl 0 rfl aT.size_ rfl (aQ ⟨rfl,trivial⟩) [(Iv 2),(Iv b9),(Iv dY),(Iv x20),(Iv x1.kind),(.string x2.text)] rfl ?_
     intro w hp
     have hp:=r3 hp
     refine aB ?_
     have hE:=hE.cut (E':=[(1,(Iv p1)),(2,vp2),(3,(Pv b1 0)),(6,(Pv b2 0)),(7,(Pv y3 0)),(58,vp2),(59,(Iv (p2.length:Int))),(60,(Iv bJ))]) ⟨rfl,rfl,rfl,rfl,rfl,rfl,rfl,rfl,trivial⟩
     obtain rfl:=oj hj1
     exact⟨hE.cut ⟨rfl,rfl,rfl,rfl,rfl,rfl,rfl,rfl,trivial⟩,hp⟩
    replace hj1:=(ie hc16).symm.trans hj1
    refine aZ ?_
    obtain rfl:=oj hj1
    exact⟨hE.cut ⟨rfl,rfl,rfl,rfl,rfl,rfl,rfl,rfl,trivial⟩,hp⟩
   rintro a w ⟨hE,hp⟩
   refine aA ?_
   obtain⟨x21,ex21,hl2⟩:=bnd hl2
   refine V hE hp rfl (bF rfl hE rfl rfl (aO ex21)) fun a hE=>S hE 1 rfl fun a hE=>aB ?_
   exact⟨_,(oj hl2).symm,hE.cut ⟨rfl,rfl,rfl,rfl,rfl,rfl,rfl,rfl,trivial⟩,hp⟩
  replace hl2:=(ie hc7).symm.trans hl2
  refine dS ?_
  refine⟨_,(oj hl2).symm,fun hbb=>?_⟩
  subst hbb
  exact⟨hE.cut ⟨rfl,rfl,trivial⟩,hp⟩
 rintro a w ⟨hE,hp⟩
 refine aG (aA ?_)
 refine V hE hp rfl (aK rfl hE rfl (fun w hw=>aW (cs:=[(Iv 2),(Iv b9),(Iv b13.1),(Iv b13.2),(Iv x1.kind),(.string x2.text)]) xA (Hp.cN 0 rfl 0 _ (aS rfl) w hw))) fun a hE=>?_
 refine aX (wk0 rfl) rfl hE hp rfl rfl rfl 1 rfl xA.size_ rfl (aQ ⟨rfl,rfl,rfl,rfl,rfl,rfl,trivial⟩) [(Iv 2),(Iv b9),(Iv b13.1),(Iv b13.2),(Iv x1.kind),(.string x2.text)] rfl ?_
 intro w hp
 have hp:=r3 hp
 refine aB (bZ ?_)
 obtain rfl:=oj hm
 exact retc1 hE rfl rfl (aG6 (cs:=[(Iv 2),(Iv b9),(Iv b13.1),(Iv b13.2),(Iv x1.kind),(.string x2.text)]) xA (Hp.cN 1 rfl 0 _ (aS rfl) _ hp)) ⟨_,rfl,rfl,(((((hp.get 2 rfl).drop).get 1 rfl).drop).drop)⟩
theorem aJ2 {Z:World} {ρ:PH} {L:List bK} {w:World} (p0:(List Chg)) (vp0:Value) (hp:Hp Z ρ (aC 58 vp0 p0::L) w) (r:(List Chg)) (hm:rV p0=some r):
  Calls Tryz.prog 43 #[vp0] w (Ret fun v w'=>v= .tuple #[]∧Hp Z ρ (aC 58 vp0 r::L) w'):=by
 refine enter (N:=28) Tryz.func43 rfl rfl [(0,vp0)] rfl (bC ⟨rfl,trivial⟩) fun a hE=>?_
 unfold rV at hm
 refine aG (aA ?_)
 refine S hE 1 rfl fun a hE=>V hE hp rfl (bT rfl hE rfl (aC.len hp 0 rfl uQ)) fun a hE=>?_
 obtain⟨x1,ex1,hm⟩:=bnd hm
 refine V hE hp rfl (dQ rfl hE rfl rfl (aO ex1)) fun a hE=>S hE 2 rfl fun a hE=>aB ?_
 obtain⟨b1,hc1,hm⟩:=bnd hm
 refine dH (fun a w=>Env 28 [] a∧Hp Z ρ (aC 58 vp0 b1::L) w) ?_ ?_
 ·refine dZ hc1 (fun s a w=>Env 28 [(0,vp0),(2,(Iv s.1)),(3,(Iv s.2.1))] a∧Hp Z ρ (aC 58 vp0 s.2.2::L) w) ?_ ?_
  ·exact⟨hE.cut ⟨rfl,rfl,rfl,trivial⟩,hp⟩
  rintro⟨aP,aU,dR⟩ st a w ⟨hE,hp⟩ hl1
  dsimp only at hE hp hl1
  unfold oK at hl1
  refine aG (aG ?_)
  refine aA (S hE 3 rfl fun a hE=>?_)
  refine aB ?_
  refine dE hE rfl (fun hc2=>?_) (fun hc2=>?_)
  ·replace hl1:=(it hc2).symm.trans hl1
   refine aZ (aG ?_)
   refine dM ?_
   obtain⟨x2,ex2,hl1⟩:=bnd hl1
   obtain⟨x3,ex3,hl1⟩:=bnd hl1
   obtain⟨x4,ex4,hl1⟩:=bnd hl1
   obtain⟨x5,ex5,hl1⟩:=bnd hl1
   have hp:=hp.drew
   refine fG ([([],At0 Z ρ),([13,15],At1 Z ρ (aC 58 vp0 dR))]:Facts) (fun a w=>Env 28 [(0,vp0),(2,(Iv aP)),(3,(Iv aU))] a∧Hp Z ρ (aC 58 vp0 ((dR.set aP.toNat x2).set aU.toNat x3)::L) w) (by kernel_rfl) ⟨fun _=>⟨_,hp⟩,fun _=>⟨_,(hp.get 0 rfl)⟩,trivial⟩ (fun hS=>?_) ?_
   ·
    generalize w.drew=w at hS hp⊢
    refine Ts [0,1,2,3,4,5] hE hS rfl rfl (by kernel_rfl) fun a hE hS=>?_
    obtain⟨b6,b6o,b6r,b6v,b6f⟩:=aC.at hp 0 rfl uQ ex2
    refine T0 6 hE hS rfl rfl rfl (by kernel_rfl) (fun _=>aN rfl hE rfl rfl b6r) fun a hE hS=>T 7 1 hE hS rfl rfl rfl (by kernel_rfl) (fun _=>aK rfl hE rfl (fun w hw=>aW (cs:=[(Iv x2.op),(Iv x2.node),(Iv x2.index),(Iv x2.count),(Iv x2.kind),(.string x2.text)]) xA (fun j u hj=>b6f j u hj _ _ w (hw.get 0 rfl)))) fun a hE hS=>Ts [8,9] hE hS rfl rfl (by kernel_rfl) fun a hE hS=>?_
    obtain⟨b7,b7o,b7r,b7v,b7f⟩:=aC.at hp 0 rfl uQ ex3
    refine T0 10 hE hS rfl rfl rfl (by kernel_rfl) (fun _=>aN rfl hE rfl rfl b7r) fun a hE hS=>T 11 1 hE hS rfl rfl rfl (by kernel_rfl) (fun _=>aK rfl hE rfl (fun w hw=>aW (cs:=[(Iv x3.op),(Iv x3.node),(Iv x3.index),(Iv x3.count),(Iv x3.kind),(.string x3.text)]) xA (fun j u hj=>b7f j u hj _ _ w (hw.get 0 rfl)))) fun a hE hS=>?_
    obtain⟨b8,b8o,b8r,b8v,b8f⟩:=aC.at hp 0 rfl uQ ex4
    refine T0 12 hE hS rfl rfl rfl (by kernel_rfl) (fun _=>aN rfl hE rfl rfl b8r) fun a hE hS=>?_
    refine W1 13 (by kernel_rfl) rfl ?_
    refine D5 (wk0 rfl) rfl hE hp rfl rfl rfl 0 rfl ex4 b8v (e':=x2) xA.size_ rfl (fun q z hz=>b8f q z hz _ _ w (hp.get 0 rfl)) ?_
    intro w hp
    have hp:=r1 hp
    refine aB (aF ⟨gp0 hp,dead (by kernel_rfl),trivial⟩ fun hS=>?_)
    obtain⟨b9,b9o,b9r,b9v,b9f⟩:=aC.at hp 0 rfl uQ ex5
    refine T0 14 hE hS rfl rfl rfl (by kernel_rfl) (fun _=>aN rfl hE rfl rfl b9r) fun a hE hS=>?_
    refine W1 15 (by kernel_rfl) rfl ?_
    refine D5 (wk0 rfl) rfl hE hp rfl rfl rfl 0 rfl ex5 b9v (e':=x3) xA.size_ rfl (fun q z hz=>b9f q z hz _ _ w (hp.get 0 rfl)) ?_
    intro w hp
    have hp:=r1 hp
    refine aB (aF ⟨gp0 hp,dead (by kernel_rfl),trivial⟩ fun hS=>?_)
    exact bP (by kernel_rfl) ⟨hE.cut ⟨rfl,rfl,rfl,trivial⟩,hp⟩
   rintro a w ⟨hE,hp⟩
   refine aA (S hE 1 rfl fun a hE=>?_)
   obtain⟨x6,ex6,hl1⟩:=bnd hl1
   refine V hE hp rfl (bF rfl hE rfl rfl (aO ex6)) fun a hE=>S hE 1 rfl fun a hE=>?_
   obtain⟨x7,ex7,hl1⟩:=bnd hl1
   refine V hE hp rfl (dQ rfl hE rfl rfl (aO ex7)) fun a hE=>S hE 2 rfl fun a hE=>aB ?_
   exact⟨_,(oj hl1).symm,hE.cut ⟨rfl,rfl,rfl,trivial⟩,hp⟩
  replace hl1:=(ie hc2).symm.trans hl1
  refine dS ?_
  refine⟨_,(oj hl1).symm,fun hbb=>?_⟩
  subst hbb
  exact⟨hE.cut trivial,hp⟩
 rintro a w ⟨hE,hp⟩
 obtain rfl:=oj hm
 exact aB2 hE rfl ⟨_,rfl,rfl,hp⟩
theorem aK5 {Z:World} {ρ:PH} {L:List bK} {w:World} (p0:(List (List Chg))) (vp0:Value) (hp0:aH ρ vp0 p0) (hp:Hp Z ρ (L) w) (r:(List Chg)) (hm:tJ p0=some r):
  Calls Tryz.prog 44 #[vp0] w (Ret fun v w'=>∃(vr1:Value),v=vr1∧Hp Z ρ (aC 58 vr1 r::L) w'):=by
 refine enter (N:=36) Tryz.func44 rfl rfl [(0,vp0)] rfl (bC ⟨rfl,trivial⟩) fun a hE=>?_
 unfold tJ at hm
 refine aG (aA ?_)
 refine S hE 1 rfl fun a hE=>aB (aG ?_)
 refine aA (S hE 1 rfl fun a hE=>?_)
 refine aB (aG ?_)
 refine aG (aA ?_)
 refine S hE 1 rfl fun a hE=>V hE hp rfl (bT rfl hE rfl (aH.len hp0 slty111)) fun a hE=>S hE 1 rfl fun a hE=>aB ?_
 obtain⟨b1,hc1,hm⟩:=bnd hm
 refine dH (fun a w=>Env 36 [(0,vp0),(3,(Iv b1))] a∧Hp Z ρ (L) w) ?_ ?_
 ·refine dZ hc1 (fun s a w=>Env 36 [(0,vp0),(3,(Iv s.1)),(9,vp0),(10,(Iv (p0.length:Int))),(11,(Iv s.2))] a∧Hp Z ρ (L) w) ?_ ?_
  ·exact⟨hE.cut ⟨rfl,rfl,rfl,rfl,rfl,trivial⟩,hp⟩
  rintro⟨aP,aU⟩ st a w ⟨hE,hp⟩ hl1
  dsimp only at hE hp hl1
  unfold wM at hl1
  refine aG (aA ?_)
  refine S hE 1 rfl fun a hE=>aB (aG ?_)
  refine dE hE rfl (fun hc2=>?_) (fun hc2=>?_)
  ·replace hl1:=(it hc2).symm.trans hl1
   refine aZ (aG ?_)
   refine dM (aG ?_)
   refine aA ?_
   obtain⟨x1,ex1,hl1⟩:=bnd hl1
   obtain⟨b2,b2o,b2c,b2r,b2k,b2f⟩:=aH.at hp0 slty111 ex1
   obtain⟨vb2,rfl,hb2⟩:=b2k
   have b2f:AtP ρ b2 b2o [vb2]:=b2f
   refine V hE hp rfl (aN rfl hE rfl rfl b2r) fun a hE=>V hE hp rfl (aK rfl hE rfl (fun w hw=>aV varty34 (b2f.c 0 rfl w hw))) fun a hE=>S hE 1 rfl fun a hE=>aB (aG ?_)
   refine aA (S hE 2 rfl fun a hE=>?_)
   refine V hE hp rfl (bT rfl hE rfl (aH.len hb2 uQ)) fun a hE=>?_
   obtain⟨x2,ex2,hl1⟩:=bnd hl1
   refine V hE hp rfl (bF rfl hE rfl rfl (aO ex2)) fun a hE=>S hE 1 rfl fun a hE=>aB ?_
   have hE:=hE.cut (E':=[(0,vp0),(3,(Iv x2)),(9,vp0),(10,(Iv (p0.length:Int))),(11,(Iv aU))]) ⟨rfl,rfl,rfl,rfl,rfl,trivial⟩
   refine aG (aA ?_)
   refine S hE 2 rfl fun a hE=>aB ?_
   refine dE hE rfl (fun hc3=>?_) (fun hc3=>?_)
   ·replace hl1:=(it hc3).symm.trans hl1
    refine aA ?_
    cases hl1
   replace hl1:=(ie hc3).symm.trans hl1
   refine aZ (aA ?_)
   obtain⟨x3,ex3,hl1⟩:=bnd hl1
   refine V hE hp rfl (bF rfl hE rfl rfl (aO ex3)) fun a hE=>S hE 1 rfl fun a hE=>aB ?_
   exact⟨_,(oj hl1).symm,hE.cut ⟨rfl,rfl,rfl,rfl,rfl,trivial⟩,hp⟩
  replace hl1:=(ie hc2).symm.trans hl1
  refine dS ?_
  refine⟨_,(oj hl1).symm,fun hbb=>?_⟩
  subst hbb
  exact⟨hE.cut ⟨rfl,rfl,trivial⟩,hp⟩
 rintro a w ⟨hE,hp⟩
 refine aG (aA ?_)
 refine S hE 1 rfl fun a hE=>?_
 obtain⟨x4,ex4,hm⟩:=bnd hm
 refine s_call (wk0 rfl) rfl rfl hE rfl [N0,(Iv b1)] ⟨rfl,rfl,trivial⟩ ent65 (c_grow b1 hp x4 ex4) Ret.ret ?_
 intro v1 a w hR hE
 obtain⟨u,hu,hp⟩:=Ret.of hR
 rw[←hu] at hp
 have hp:=r1 hp
 refine S hE 1 rfl fun a hE=>aB (aG ?_)
 refine aG (aA ?_)
 refine S hE 1 rfl fun a hE=>V hE hp rfl (bT rfl hE rfl (aH.len hp0 slty111)) fun a hE=>S hE 1 rfl fun a hE=>aB ?_
 obtain⟨b3,hc4,hm⟩:=bnd hm
 refine dH (fun a w=>∃(w2:Value),Env 36 [(6,w2)] a∧Hp Z ρ (aC 58 w2 b3::L) w) ?_ ?_
 ·refine dZ hc4 (fun s a w=>∃(w2:Value),Env 36 [(6,w2),(25,vp0),(26,(Iv (p0.length:Int))),(27,(Iv s.1))] a∧Hp Z ρ (aC 58 w2 s.2::L) w) ?_ ?_
  ·exact⟨_,hE.cut ⟨rfl,rfl,rfl,rfl,trivial⟩,hp⟩
  rintro⟨bJ,dY⟩ st a w ⟨w2,hE,hp⟩ hl2
  dsimp only at hE hp hl2
  unfold wO at hl2
  refine aG (aA ?_)
  refine S hE 1 rfl fun a hE=>aB (aG ?_)
  refine dE hE rfl (fun hc5=>?_) (fun hc5=>?_)
  ·replace hl2:=(it hc5).symm.trans hl2
   refine aZ (aG ?_)
   refine dM (aG ?_)
   refine aA ?_
   obtain⟨x5,ex5,hl2⟩:=bnd hl2
   obtain⟨b4,b4o,b4c,b4r,b4k,b4f⟩:=aH.at hp0 slty111 ex5
   obtain⟨vb4,rfl,hb4⟩:=b4k
   have b4f:AtP ρ b4 b4o [vb4]:=b4f
   refine V hE hp rfl (aN rfl hE rfl rfl b4r) fun a hE=>V hE hp rfl (aK rfl hE rfl (fun w hw=>aV varty34 (b4f.c 0 rfl w hw))) fun a hE=>S hE 1 rfl fun a hE=>aB (aA ?_)
   refine S hE 2 rfl fun a hE=>?_
   obtain⟨x6,ex6,hl2⟩:=bnd hl2
   refine s_apps (wk0 rfl) rfl rfl hE hp rfl uQ rfl rfl 0 rfl rfl hb4 ex6 ?_
   intro v2 a w hE hp
   have hp:=r1 hp
   refine S hE 1 rfl fun a hE=>aB (aA ?_)
   obtain⟨x7,ex7,hl2⟩:=bnd hl2
   refine V hE hp rfl (bF rfl hE rfl rfl (aO ex7)) fun a hE=>S hE 1 rfl fun a hE=>aB ?_
   exact⟨_,(oj hl2).symm,_,hE.cut ⟨rfl,rfl,rfl,rfl,trivial⟩,hp⟩
  replace hl2:=(ie hc5).symm.trans hl2
  refine dS ?_
  refine⟨_,(oj hl2).symm,fun hbb=>?_⟩
  subst hbb
  exact⟨_,hE.cut ⟨rfl,trivial⟩,hp⟩
 rintro a w ⟨w2,hE,hp⟩
 refine aG (aA ?_)
 refine S hE 2 rfl fun a hE=>aB (bZ ?_)
 obtain rfl:=oj hm
 exact gJ hE rfl rfl ⟨_,rfl,_,rfl,hp⟩
theorem aD0 {Z:World} {ρ:PH} {L:List bK} {w:World} (p0:Node) (aI:Value) (bD:aH ρ aI p0.kids) (p1:Node) (aJ:Value) (bH:aH ρ aJ p1.kids) (p2:(List Opn)) (vp2:Value) (hp2:aH ρ vp2 p2) (hp:Hp Z ρ (L) w) (r:((List Chg)×Int)) (hm:rO p0 p1 p2=some r):
  Calls Tryz.prog 16 #[(.agg #[(Iv p0.kind),(.string p0.text),(Iv p0.at_),(Iv p0.fin),aI]),(.agg #[(Iv p1.kind),(.string p1.text),(Iv p1.at_),(Iv p1.fin),aJ]),vp2] w (Ret fun v w'=>∃(vr1:Value),v= .tuple #[vr1,(Iv r.2)]∧Hp Z ρ (aC 58 vr1 r.1::L) w'):=by
 refine enter (N:=111) Tryz.func16 rfl rfl [(0,(.agg #[(Iv p0.kind),(.string p0.text),(Iv p0.at_),(Iv p0.fin),aI])),(1,(.agg #[(Iv p1.kind),(.string p1.text),(Iv p1.at_),(Iv p1.fin),aJ])),(2,vp2)] rfl (bC ⟨rfl,rfl,rfl,trivial⟩) fun a hE=>?_
 unfold rO at hm
 refine aG (aA ?_)
 refine iI (wk0 rfl) rfl rfl hE hp rfl (v:=(.agg #[(Iv p0.kind),(.string p0.text),(Iv p0.at_),(Iv p0.fin),aI])) rfl ?_
 intro a w b1 hE hp
 have hp:=r1 hp
 refine iI (wk0 rfl) rfl rfl hE hp rfl (v:=(.agg #[(Iv p1.kind),(.string p1.text),(Iv p1.at_),(Iv p1.fin),aJ])) rfl ?_
 intro a w b2 hE hp
 have hp:=r2 hp
 refine S hE 2 rfl fun a hE=>aB (aG ?_)
 refine aG (aA ?_)
 refine V hE hp rfl (aK rfl hE rfl (fun w hw=>aW (cs:=[(Iv p0.kind),(.string p0.text),(Iv p0.at_),(Iv p0.fin),aI]) bY (Hp.cN 1 rfl 0 _ (aS rfl) w hw))) fun a hE=>V hE hp rfl (aK rfl hE rfl (fun w hw=>aW (cs:=[(Iv p1.kind),(.string p1.text),(Iv p1.at_),(Iv p1.fin),aJ]) bY (Hp.cN 0 rfl 0 _ (aS rfl) w hw))) fun a hE=>S hE 1 rfl fun a hE=>?_
 obtain⟨x1,ex1,hm⟩:=bnd hm
 refine Cl hE rfl rfl ent17 (A8 p0 aI bD p1 aJ bH p2 vp2 hp2 hp x1 ex1) ⟨rfl,rfl,rfl,trivial⟩ fun v a w hR hE=>?_
 obtain⟨rfl,hp⟩:=hR
 have hp:=r2 hp
 refine S hE 1 rfl fun a hE=>aB ?_
 refine dE hE rfl (fun hc1=>?_) (fun hc1=>?_)
 ·replace hm:=(it hc1).symm.trans hm
  refine aG (aA ?_)
  refine S hE 2 rfl fun a hE=>aB (bZ ?_)
  have hp:=hp.emp (aC.nil (α:=Chg) 58)
  have hp:=r3 hp
  obtain rfl:=oj hm
  exact yU hE rfl rfl rfl ⟨_,rfl,_,rfl,((((hp.get 2 rfl).drop).get 1 rfl).drop)⟩
 replace hm:=(ie hc1).symm.trans hm
 refine aZ (aG ?_)
 obtain⟨x2,ex2,hm⟩:=bnd hm
 obtain⟨x3,ex3,hm⟩:=bnd hm
 have hp:=hp.drew
 refine fG ([([],At0 Z ρ),([],At1 Z ρ (Pt b2 (.cells #[(Iv p1.kind),(.string p1.text),(Iv p1.at_),(Iv p1.fin),aJ] 24 (0,0)))),([],At1 Z ρ (Pt b1 (.cells #[(Iv p0.kind),(.string p0.text),(Iv p0.at_),(Iv p0.fin),aI] 24 (0,0))))]:Facts) (fun a w=>∃ρy1:PH,∃y6:Nat,∃y5:Nat,∃yv1:Value,∃yv2:Value,∃yv3:Value,∃yv4:Value,∃yv5:Value,∃yv6:Value,ρ.le ρy1∧aH ρy1 yv1 x3.nodes∧aH ρy1 yv2 x3.sizes∧aH ρy1 yv3 x3.parent∧aH ρy1 yv4 x2.nodes∧aH ρy1 yv5 x2.sizes∧aH ρy1 yv6 x2.parent∧Env 111 [(2,vp2),(8,(Pv y5 0)),(9,(Pv y6 0))] a∧Hp Z ρy1 (Pt y6 (.cells #[yv1,yv2,yv3] 75 (0,0))::Pt y5 (.cells #[yv4,yv5,yv6] 75 (0,0))::Pt b2 (.cells #[(Iv p1.kind),(.string p1.text),(Iv p1.at_),(Iv p1.fin),aJ] 24 (0,0))::Pt b1 (.cells #[(Iv p0.kind),(.string p0.text),(Iv p0.at_),(Iv p0.fin),aI] 24 (0,0))::L) w) (by kernel_rfl) ⟨fun _=>⟨_,hp⟩,fun _=>⟨_,(hp.get 0 rfl)⟩,fun _=>⟨_,(hp.get 1 rfl)⟩,trivial⟩ (fun hS=>?_) ?_
 ·
  generalize w.drew=w at hS hp⊢
  refine T 0 2 hE hS rfl rfl rfl (by kernel_rfl) (fun _=>aK rfl hE rfl (fun w hw=>aW (cs:=[(Iv p0.kind),(.string p0.text),(Iv p0.at_),(Iv p0.fin),aI]) bY (Hp.cN 0 rfl 0 _ (aS rfl) w hw))) fun a hE hS=>T 2 1 hE hS rfl rfl rfl (by kernel_rfl) (fun _=>aK rfl hE rfl (fun w hw=>aW (cs:=[(Iv p1.kind),(.string p1.text),(Iv p1.at_),(Iv p1.fin),aJ]) bY (Hp.cN 0 rfl 0 _ (aS rfl) w hw))) fun a hE hS=>?_
  refine gW [1,4,5] (by kernel_rfl) rfl ?_
  refine List.forall_mem_cons.2 ⟨?_,List.forall_mem_cons.2 ⟨?_,List.forall_mem_cons.2 ⟨?_,fun _ h=>absurd h (by simp)⟩⟩⟩
  ·
   refine dX rfl ?_
   refine Cl hE rfl rfl jM (bG p0 aI bD hp x2 ex2) ⟨rfl,trivial⟩ fun v a w hR hE=>?_
   obtain⟨ρ3,nP,nR,lH,hle3,rfl,gB,gG,fD,hp⟩:=hR
   have hp:=r2 hp
   refine aB (aF ⟨fun _=>⟨_,(hp.less hle3)⟩,fun _=>⟨_,((hp.get 0 rfl).less hle3)⟩,fun _=>⟨_,((hp.get 1 rfl).less hle3)⟩,trivial⟩ fun hS=>?_)
   refine gW [3,4,5] (by kernel_rfl) rfl ?_
   refine List.forall_mem_cons.2 ⟨?_,List.forall_mem_cons.2 ⟨?_,List.forall_mem_cons.2 ⟨?_,fun _ h=>absurd h (by simp)⟩⟩⟩
   ·
    refine dX rfl ?_
    refine Cl hE rfl rfl jM (bG p1 aJ (aH.mono bH hle3) hp x3 ex3) ⟨rfl,trivial⟩ fun v a w hR hE=>?_
    obtain⟨ρ4,tN,tV,qV,hle4,rfl,oL,oM,lX,hp⟩:=hR
    have hp:=r2 hp
    refine aB (aF ⟨fun _=>⟨_,((hp.less hle4).less hle3)⟩,fun _=>⟨_,(((hp.get 0 rfl).less hle4).less hle3)⟩,fun _=>⟨_,(((hp.get 1 rfl).less hle4).less hle3)⟩,trivial⟩ fun hS=>?_)
    refine gW [4,5] (by kernel_rfl) rfl ?_
    refine List.forall_mem_cons.2 ⟨?_,List.forall_mem_cons.2 ⟨?_,fun _ h=>absurd h (by simp)⟩⟩
    ·
     refine dX rfl ?_
     refine dL (wk0 rfl) rfl rfl hE hp rfl [N0,N0,N0] (fun w=>by simp[Instr.alloc,go_sem]<;>rfl) ?_
     intro a w b5 hE hp
     have hp:=r3 hp
     refine aB (aF ⟨fun _=>⟨_,((hp.less hle4).less hle3)⟩,fun _=>⟨_,(((hp.get 1 rfl).less hle4).less hle3)⟩,fun _=>⟨_,(((hp.get 2 rfl).less hle4).less hle3)⟩,trivial⟩ fun hS=>?_)
     refine W1 5 (by kernel_rfl) rfl ?_
     refine dL (wk0 rfl) rfl rfl hE hp rfl [N0,N0,N0] (fun w=>by simp[Instr.alloc,go_sem]<;>rfl) ?_
     intro a w b6 hE hp
     have hp:=r4 hp
     refine aB (aF ⟨fun _=>⟨_,((hp.less hle4).less hle3)⟩,fun _=>⟨_,(((hp.get 2 rfl).less hle4).less hle3)⟩,fun _=>⟨_,(((hp.get 3 rfl).less hle4).less hle3)⟩,trivial⟩ fun hS=>?_)
     refine W1 6 (by kernel_rfl) rfl ?_
     refine aX (wk0 rfl) rfl hE hp rfl rfl rfl 1 rfl dD.size_ rfl (aQ ⟨(aH.one (aH.mono gB hle4)),(aH.one (aH.mono gG hle4)),(aH.one (aH.mono fD hle4)),trivial⟩) [nP,nR,lH] rfl ?_
     intro w hp
     have hp:=r4 hp
     refine aB (aF ⟨fun _=>⟨_,((hp.less hle4).less hle3)⟩,fun _=>⟨_,(((hp.get 2 rfl).less hle4).less hle3)⟩,fun _=>⟨_,(((hp.get 3 rfl).less hle4).less hle3)⟩,trivial⟩ fun hS=>?_)
     refine W1 7 (by kernel_rfl) rfl ?_
     refine aX (wk0 rfl) rfl hE hp rfl rfl rfl 0 rfl dD.size_ rfl (aQ ⟨(aH.one oL),(aH.one oM),(aH.one lX),trivial⟩) [tN,tV,qV] rfl ?_
     intro w hp
     have hp:=r4 hp
     refine aB (aF ⟨fun _=>⟨_,((hp.less hle4).less hle3)⟩,fun _=>⟨_,(((hp.get 2 rfl).less hle4).less hle3)⟩,fun _=>⟨_,(((hp.get 3 rfl).less hle4).less hle3)⟩,trivial⟩ fun hS=>?_)
     exact bP (by kernel_rfl) ⟨ρ4,_,_,_,_,_,_,_,_,(PH.le.tr hle3 hle4),oL,oM,lX,(aH.mono gB hle4),(aH.mono gG hle4),(aH.mono fD hle4),hE.cut ⟨rfl,rfl,rfl,trivial⟩,hp⟩
    refine dX rfl ?_
    refine dL (wk0 rfl) rfl rfl hE hp rfl [N0,N0,N0] (fun w=>by simp[Instr.alloc,go_sem]<;>rfl) ?_
    intro a w b7 hE hp
    have hp:=r3 hp
    refine aB (aF ⟨fun _=>⟨_,((hp.less hle4).less hle3)⟩,fun _=>⟨_,(((hp.get 1 rfl).less hle4).less hle3)⟩,fun _=>⟨_,(((hp.get 2 rfl).less hle4).less hle3)⟩,trivial⟩ fun hS=>?_)
    refine W1 4 (by kernel_rfl) rfl ?_
    refine dL (wk0 rfl) rfl rfl hE hp rfl [N0,N0,N0] (fun w=>by simp[Instr.alloc,go_sem]<;>rfl) ?_
    intro a w b8 hE hp
    have hp:=r4 hp
    refine aB (aF ⟨fun _=>⟨_,((hp.less hle4).less hle3)⟩,fun _=>⟨_,(((hp.get 2 rfl).less hle4).less hle3)⟩,fun _=>⟨_,(((hp.get 3 rfl).less hle4).less hle3)⟩,trivial⟩ fun hS=>?_)
    refine W1 6 (by kernel_rfl) rfl ?_
    refine aX (wk0 rfl) rfl hE hp rfl rfl rfl 0 rfl dD.size_ rfl (aQ ⟨(aH.one (aH.mono gB hle4)),(aH.one (aH.mono gG hle4)),(aH.one (aH.mono fD hle4)),trivial⟩) [nP,nR,lH] rfl ?_
    intro w hp
    have hp:=r4 hp
    refine aB (aF ⟨fun _=>⟨_,((hp.less hle4).less hle3)⟩,fun _=>⟨_,(((hp.get 2 rfl).less hle4).less hle3)⟩,fun _=>⟨_,(((hp.get 3 rfl).less hle4).less hle3)⟩,trivial⟩ fun hS=>?_)
    refine W1 7 (by kernel_rfl) rfl ?_
    refine aX (wk0 rfl) rfl hE hp rfl rfl rfl 1 rfl dD.size_ rfl (aQ ⟨(aH.one oL),(aH.one oM),(aH.one lX),trivial⟩) [tN,tV,qV] rfl ?_
    intro w hp
    have hp:=r4 hp
    refine aB (aF ⟨fun _=>⟨_,((hp.less hle4).less hle3)⟩,fun _=>⟨_,(((hp.get 2 rfl).less hle4).less hle3)⟩,fun _=>⟨_,(((hp.get 3 rfl).less hle4).less hle3)⟩,trivial⟩ fun hS=>?_)
    exact bP (by kernel_rfl) ⟨ρ4,_,_,_,_,_,_,_,_,(PH.le.tr hle3 hle4),oL,oM,lX,(aH.mono gB hle4),(aH.mono gG hle4),(aH.mono fD hle4),hE.cut ⟨rfl,rfl,rfl,trivial⟩,((((hp.get 3 rfl).get 3 rfl).get 2 rfl).get 3 rfl)⟩
   ·
    refine dX rfl ?_
    refine dL (wk0 rfl) rfl rfl hE hp rfl [N0,N0,N0] (fun w=>by simp[Instr.alloc,go_sem]<;>rfl) ?_
    intro a w b9 hE hp
    have hp:=r3 hp
    refine aB (aF ⟨fun _=>⟨_,(hp.less hle3)⟩,fun _=>⟨_,((hp.get 1 rfl).less hle3)⟩,fun _=>⟨_,((hp.get 2 rfl).less hle3)⟩,trivial⟩ fun hS=>?_)
    refine gW [3,5] (by kernel_rfl) rfl ?_
    refine List.forall_mem_cons.2 ⟨?_,List.forall_mem_cons.2 ⟨?_,fun _ h=>absurd h (by simp)⟩⟩
    ·
     refine dX rfl ?_
     refine Cl hE rfl rfl jM (bG p1 aJ (aH.mono bH hle3) hp x3 ex3) ⟨rfl,trivial⟩ fun v a w hR hE=>?_
     obtain⟨ρ5,xB,xC,uS,hle5,rfl,sV,sW,qR,hp⟩:=hR
     have hp:=r3 hp
     refine aB (aF ⟨fun _=>⟨_,((hp.less hle5).less hle3)⟩,fun _=>⟨_,(((hp.get 1 rfl).less hle5).less hle3)⟩,fun _=>⟨_,(((hp.get 2 rfl).less hle5).less hle3)⟩,trivial⟩ fun hS=>?_)
     refine W1 5 (by kernel_rfl) rfl ?_
     refine dL (wk0 rfl) rfl rfl hE hp rfl [N0,N0,N0] (fun w=>by simp[Instr.alloc,go_sem]<;>rfl) ?_
     intro a w b10 hE hp
     have hp:=r4 hp
     refine aB (aF ⟨fun _=>⟨_,((hp.less hle5).less hle3)⟩,fun _=>⟨_,(((hp.get 2 rfl).less hle5).less hle3)⟩,fun _=>⟨_,(((hp.get 3 rfl).less hle5).less hle3)⟩,trivial⟩ fun hS=>?_)
     refine W1 6 (by kernel_rfl) rfl ?_
     refine aX (wk0 rfl) rfl hE hp rfl rfl rfl 1 rfl dD.size_ rfl (aQ ⟨(aH.one (aH.mono gB hle5)),(aH.one (aH.mono gG hle5)),(aH.one (aH.mono fD hle5)),trivial⟩) [nP,nR,lH] rfl ?_
     intro w hp
     have hp:=r4 hp
     refine aB (aF ⟨fun _=>⟨_,((hp.less hle5).less hle3)⟩,fun _=>⟨_,(((hp.get 2 rfl).less hle5).less hle3)⟩,fun _=>⟨_,(((hp.get 3 rfl).less hle5).less hle3)⟩,trivial⟩ fun hS=>?_)
     refine W1 7 (by kernel_rfl) rfl ?_
     refine aX (wk0 rfl) rfl hE hp rfl rfl rfl 0 rfl dD.size_ rfl (aQ ⟨(aH.one sV),(aH.one sW),(aH.one qR),trivial⟩) [xB,xC,uS] rfl ?_
     intro w hp
     have hp:=r4 hp
     refine aB (aF ⟨fun _=>⟨_,((hp.less hle5).less hle3)⟩,fun _=>⟨_,(((hp.get 2 rfl).less hle5).less hle3)⟩,fun _=>⟨_,(((hp.get 3 rfl).less hle5).less hle3)⟩,trivial⟩ fun hS=>?_)
     exact bP (by kernel_rfl) ⟨ρ5,_,_,_,_,_,_,_,_,(PH.le.tr hle3 hle5),sV,sW,qR,(aH.mono gB hle5),(aH.mono gG hle5),(aH.mono fD hle5),hE.cut ⟨rfl,rfl,rfl,trivial⟩,hp⟩
    refine dX rfl ?_
    refine dL (wk0 rfl) rfl rfl hE hp rfl [N0,N0,N0] (fun w=>by simp[Instr.alloc,go_sem]<;>rfl) ?_
    intro a w b11 hE hp
    have hp:=r4 hp
    refine aB (aF ⟨fun _=>⟨_,(hp.less hle3)⟩,fun _=>⟨_,((hp.get 2 rfl).less hle3)⟩,fun _=>⟨_,((hp.get 3 rfl).less hle3)⟩,trivial⟩ fun hS=>?_)
    refine W1 3 (by kernel_rfl) rfl ?_
    refine Cl hE rfl rfl jM (bG p1 aJ (aH.mono bH hle3) hp x3 ex3) ⟨rfl,trivial⟩ fun v a w hR hE=>?_
    obtain⟨ρ6,aB5,aB6,V8,hle6,rfl,yE,yF,wJ,hp⟩:=hR
    have hp:=r4 hp
    refine aB (aF ⟨fun _=>⟨_,((hp.less hle6).less hle3)⟩,fun _=>⟨_,(((hp.get 2 rfl).less hle6).less hle3)⟩,fun _=>⟨_,(((hp.get 3 rfl).less hle6).less hle3)⟩,trivial⟩ fun hS=>?_)
    refine W1 6 (by kernel_rfl) rfl ?_
    refine aX (wk0 rfl) rfl hE hp rfl rfl rfl 1 rfl dD.size_ rfl (aQ ⟨(aH.one (aH.mono gB hle6)),(aH.one (aH.mono gG hle6)),(aH.one (aH.mono fD hle6)),trivial⟩) [nP,nR,lH] rfl ?_
    intro w hp
    have hp:=r4 hp
    refine aB (aF ⟨fun _=>⟨_,((hp.less hle6).less hle3)⟩,fun _=>⟨_,(((hp.get 2 rfl).less hle6).less hle3)⟩,fun _=>⟨_,(((hp.get 3 rfl).less hle6).less hle3)⟩,trivial⟩ fun hS=>?_)
    refine W1 7 (by kernel_rfl) rfl ?_
    refine aX (wk0 rfl) rfl hE hp rfl rfl rfl 0 rfl dD.size_ rfl (aQ ⟨(aH.one yE),(aH.one yF),(aH.one wJ),trivial⟩) [aB5,aB6,V8] rfl ?_
    intro w hp
    have hp:=r4 hp
    refine aB (aF ⟨fun _=>⟨_,((hp.less hle6).less hle3)⟩,fun _=>⟨_,(((hp.get 2 rfl).less hle6).less hle3)⟩,fun _=>⟨_,(((hp.get 3 rfl).less hle6).less hle3)⟩,trivial⟩ fun hS=>?_)
    exact bP (by kernel_rfl) ⟨ρ6,_,_,_,_,_,_,_,_,(PH.le.tr hle3 hle6),yE,yF,wJ,(aH.mono gB hle6),(aH.mono gG hle6),(aH.mono fD hle6),hE.cut ⟨rfl,rfl,rfl,trivial⟩,hp⟩
   refine dX rfl ?_
   refine dL (wk0 rfl) rfl rfl hE hp rfl [N0,N0,N0] (fun w=>by simp[Instr.alloc,go_sem]<;>rfl) ?_
   intro a w b12 hE hp
   have hp:=r3 hp
   refine aB (aF ⟨fun _=>⟨_,(hp.less hle3)⟩,fun _=>⟨_,((hp.get 1 rfl).less hle3)⟩,fun _=>⟨_,((hp.get 2 rfl).less hle3)⟩,trivial⟩ fun hS=>?_)
   refine gW [3,4] (by kernel_rfl) rfl ?_
   refine List.forall_mem_cons.2 ⟨?_,List.forall_mem_cons.2 ⟨?_,fun _ h=>absurd h (by simp)⟩⟩
   ·
    refine dX rfl ?_
    refine Cl hE rfl rfl jM (bG p1 aJ (aH.mono bH hle3) hp x3 ex3) ⟨rfl,trivial⟩ fun v a w hR hE=>?_
    obtain⟨ρ7,aB7,aB8,V9,hle7,rfl,yG,yH,wK,hp⟩:=hR
    have hp:=r3 hp
    refine aB (aF ⟨fun _=>⟨_,((hp.less hle7).less hle3)⟩,fun _=>⟨_,(((hp.get 1 rfl).less hle7).less hle3)⟩,fun _=>⟨_,(((hp.get 2 rfl).less hle7).less hle3)⟩,trivial⟩ fun hS=>?_)
    refine W1 4 (by kernel_rfl) rfl ?_
    refine dL (wk0 rfl) rfl rfl hE hp rfl [N0,N0,N0] (fun w=>by simp[Instr.alloc,go_sem]<;>rfl) ?_
    intro a w b13 hE hp
    have hp:=r4 hp
    refine aB (aF ⟨fun _=>⟨_,((hp.less hle7).less hle3)⟩,fun _=>⟨_,(((hp.get 2 rfl).less hle7).less hle3)⟩,fun _=>⟨_,(((hp.get 3 rfl).less hle7).less hle3)⟩,trivial⟩ fun hS=>?_)
    refine W1 6 (by kernel_rfl) rfl ?_
    refine aX (wk0 rfl) rfl hE hp rfl rfl rfl 0 rfl dD.size_ rfl (aQ ⟨(aH.one (aH.mono gB hle7)),(aH.one (aH.mono gG hle7)),(aH.one (aH.mono fD hle7)),trivial⟩) [nP,nR,lH] rfl ?_
    intro w hp
    have hp:=r4 hp
    refine aB (aF ⟨fun _=>⟨_,((hp.less hle7).less hle3)⟩,fun _=>⟨_,(((hp.get 2 rfl).less hle7).less hle3)⟩,fun _=>⟨_,(((hp.get 3 rfl).less hle7).less hle3)⟩,trivial⟩ fun hS=>?_)
    refine W1 7 (by kernel_rfl) rfl ?_
    refine aX (wk0 rfl) rfl hE hp rfl rfl rfl 1 rfl dD.size_ rfl (aQ ⟨(aH.one yG),(aH.one yH),(aH.one wK),trivial⟩) [aB7,aB8,V9] rfl ?_
    intro w hp
    have hp:=r4 hp
    refine aB (aF ⟨fun _=>⟨_,((hp.less hle7).less hle3)⟩,fun _=>⟨_,(((hp.get 2 rfl).less hle7).less hle3)⟩,fun _=>⟨_,(((hp.get 3 rfl).less hle7).less hle3)⟩,trivial⟩ fun hS=>?_)
    exact bP (by kernel_rfl) ⟨ρ7,_,_,_,_,_,_,_,_,(PH.le.tr hle3 hle7),yG,yH,wK,(aH.mono gB hle7),(aH.mono gG hle7),(aH.mono fD hle7),hE.cut ⟨rfl,rfl,rfl,trivial⟩,((((hp.get 3 rfl).get 3 rfl).get 2 rfl).get 3 rfl)⟩
   refine dX rfl ?_
   refine dL (wk0 rfl) rfl rfl hE hp rfl [N0,N0,N0] (fun w=>by simp[Instr.alloc,go_sem]<;>rfl) ?_
   intro a w b14 hE hp
   have hp:=r4 hp
   refine aB (aF ⟨fun _=>⟨_,(hp.less hle3)⟩,fun _=>⟨_,((hp.get 2 rfl).less hle3)⟩,fun _=>⟨_,((hp.get 3 rfl).less hle3)⟩,trivial⟩ fun hS=>?_)
   refine W1 3 (by kernel_rfl) rfl ?_
   refine Cl hE rfl rfl jM (bG p1 aJ (aH.mono bH hle3) hp x3 ex3) ⟨rfl,trivial⟩ fun v a w hR hE=>?_
   obtain⟨ρ8,O4,O5,zZ,hle8,rfl,uZ,vC,sH,hp⟩:=hR
   have hp:=r4 hp
   refine aB (aF ⟨fun _=>⟨_,((hp.less hle8).less hle3)⟩,fun _=>⟨_,(((hp.get 2 rfl).less hle8).less hle3)⟩,fun _=>⟨_,(((hp.get 3 rfl).less hle8).less hle3)⟩,trivial⟩ fun hS=>?_)
   refine W1 6 (by kernel_rfl) rfl ?_
   refine aX (wk0 rfl) rfl hE hp rfl rfl rfl 0 rfl dD.size_ rfl (aQ ⟨(aH.one (aH.mono gB hle8)),(aH.one (aH.mono gG hle8)),(aH.one (aH.mono fD hle8)),trivial⟩) [nP,nR,lH] rfl ?_
   intro w hp
   have hp:=r4 hp
   refine aB (aF ⟨fun _=>⟨_,((hp.less hle8).less hle3)⟩,fun _=>⟨_,(((hp.get 2 rfl).less hle8).less hle3)⟩,fun _=>⟨_,(((hp.get 3 rfl).less hle8).less hle3)⟩,trivial⟩ fun hS=>?_)
   refine W1 7 (by kernel_rfl) rfl ?_
   refine aX (wk0 rfl) rfl hE hp rfl rfl rfl 1 rfl dD.size_ rfl (aQ ⟨(aH.one uZ),(aH.one vC),(aH.one sH),trivial⟩) [O4,O5,zZ] rfl ?_
   intro w hp
   have hp:=r4 hp
   refine aB (aF ⟨fun _=>⟨_,((hp.less hle8).less hle3)⟩,fun _=>⟨_,(((hp.get 2 rfl).less hle8).less hle3)⟩,fun _=>⟨_,(((hp.get 3 rfl).less hle8).less hle3)⟩,trivial⟩ fun hS=>?_)
   exact bP (by kernel_rfl) ⟨ρ8,_,_,_,_,_,_,_,_,(PH.le.tr hle3 hle8),uZ,vC,sH,(aH.mono gB hle8),(aH.mono gG hle8),(aH.mono fD hle8),hE.cut ⟨rfl,rfl,rfl,trivial⟩,((((hp.get 3 rfl).get 3 rfl).get 2 rfl).get 3 rfl)⟩
  ·
   refine dX rfl ?_
   refine dL (wk0 rfl) rfl rfl hE hp rfl [N0,N0,N0] (fun w=>by simp[Instr.alloc,go_sem]<;>rfl) ?_
   intro a w b15 hE hp
   have hp:=r3 hp
   refine aB (aF ⟨gp0 hp,gp 1 hp rfl,gp 2 hp rfl,trivial⟩ fun hS=>?_)
   refine gW [1,5] (by kernel_rfl) rfl ?_
   refine List.forall_mem_cons.2 ⟨?_,List.forall_mem_cons.2 ⟨?_,fun _ h=>absurd h (by simp)⟩⟩
   ·
    refine dX rfl ?_
    refine Cl hE rfl rfl jM (bG p0 aI bD hp x2 ex2) ⟨rfl,trivial⟩ fun v a w hR hE=>?_
    obtain⟨ρ9,xU,xW,wP,hle9,rfl,pW,pX,nS,hp⟩:=hR
    have hp:=r3 hp
    refine aB (aF ⟨fun _=>⟨_,(hp.less hle9)⟩,fun _=>⟨_,((hp.get 1 rfl).less hle9)⟩,fun _=>⟨_,((hp.get 2 rfl).less hle9)⟩,trivial⟩ fun hS=>?_)
    refine gW [3,5] (by kernel_rfl) rfl ?_
    refine List.forall_mem_cons.2 ⟨?_,List.forall_mem_cons.2 ⟨?_,fun _ h=>absurd h (by simp)⟩⟩
    ·
     refine dX rfl ?_
     refine Cl hE rfl rfl jM (bG p1 aJ (aH.mono bH hle9) hp x3 ex3) ⟨rfl,trivial⟩ fun v a w hR hE=>?_
     obtain⟨ρ10,U1,U2,G7,hle10,rfl,vV,vW,tZ,hp⟩:=hR
     have hp:=r3 hp
     refine aB (aF ⟨fun _=>⟨_,((hp.less hle10).less hle9)⟩,fun _=>⟨_,(((hp.get 1 rfl).less hle10).less hle9)⟩,fun _=>⟨_,(((hp.get 2 rfl).less hle10).less hle9)⟩,trivial⟩ fun hS=>?_)
     refine W1 5 (by kernel_rfl) rfl ?_
     refine dL (wk0 rfl) rfl rfl hE hp rfl [N0,N0,N0] (fun w=>by simp[Instr.alloc,go_sem]<;>rfl) ?_
     intro a w b16 hE hp
     have hp:=r4 hp
     refine aB (aF ⟨fun _=>⟨_,((hp.less hle10).less hle9)⟩,fun _=>⟨_,(((hp.get 2 rfl).less hle10).less hle9)⟩,fun _=>⟨_,(((hp.get 3 rfl).less hle10).less hle9)⟩,trivial⟩ fun hS=>?_)
     refine W1 6 (by kernel_rfl) rfl ?_
     refine aX (wk0 rfl) rfl hE hp rfl rfl rfl 1 rfl dD.size_ rfl (aQ ⟨(aH.one (aH.mono pW hle10)),(aH.one (aH.mono pX hle10)),(aH.one (aH.mono nS hle10)),trivial⟩) [xU,xW,wP] rfl ?_
     intro w hp
     have hp:=r4 hp
     refine aB (aF ⟨fun _=>⟨_,((hp.less hle10).less hle9)⟩,fun _=>⟨_,(((hp.get 2 rfl).less hle10).less hle9)⟩,fun _=>⟨_,(((hp.get 3 rfl).less hle10).less hle9)⟩,trivial⟩ fun hS=>?_)
     refine W1 7 (by kernel_rfl) rfl ?_
     refine aX (wk0 rfl) rfl hE hp rfl rfl rfl 0 rfl dD.size_ rfl (aQ ⟨(aH.one vV),(aH.one vW),(aH.one tZ),trivial⟩) [U1,U2,G7] rfl ?_
     intro w hp
     have hp:=r4 hp
     refine aB (aF ⟨fun _=>⟨_,((hp.less hle10).less hle9)⟩,fun _=>⟨_,(((hp.get 2 rfl).less hle10).less hle9)⟩,fun _=>⟨_,(((hp.get 3 rfl).less hle10).less hle9)⟩,trivial⟩ fun hS=>?_)
     exact bP (by kernel_rfl) ⟨ρ10,_,_,_,_,_,_,_,_,(PH.le.tr hle9 hle10),vV,vW,tZ,(aH.mono pW hle10),(aH.mono pX hle10),(aH.mono nS hle10),hE.cut ⟨rfl,rfl,rfl,trivial⟩,hp⟩
    refine dX rfl ?_
    refine dL (wk0 rfl) rfl rfl hE hp rfl [N0,N0,N0] (fun w=>by simp[Instr.alloc,go_sem]<;>rfl) ?_
    intro a w b17 hE hp
    have hp:=r4 hp
    refine aB (aF ⟨fun _=>⟨_,(hp.less hle9)⟩,fun _=>⟨_,((hp.get 2 rfl).less hle9)⟩,fun _=>⟨_,((hp.get 3 rfl).less hle9)⟩,trivial⟩ fun hS=>?_)
    refine W1 3 (by kernel_rfl) rfl ?_
    refine Cl hE rfl rfl jM (bG p1 aJ (aH.mono bH hle9) hp x3 ex3) ⟨rfl,trivial⟩ fun v a w hR hE=>?_
    obtain⟨ρ11,U3,U4,G8,hle11,rfl,vX,vY,uA,hp⟩:=hR
    have hp:=r4 hp
    refine aB (aF ⟨fun _=>⟨_,((hp.less hle11).less hle9)⟩,fun _=>⟨_,(((hp.get 2 rfl).less hle11).less hle9)⟩,fun _=>⟨_,(((hp.get 3 rfl).less hle11).less hle9)⟩,trivial⟩ fun hS=>?_)
    refine W1 6 (by kernel_rfl) rfl ?_
    refine aX (wk0 rfl) rfl hE hp rfl rfl rfl 1 rfl dD.size_ rfl (aQ ⟨(aH.one (aH.mono pW hle11)),(aH.one (aH.mono pX hle11)),(aH.one (aH.mono nS hle11)),trivial⟩) [xU,xW,wP] rfl ?_
    intro w hp
    have hp:=r4 hp
    refine aB (aF ⟨fun _=>⟨_,((hp.less hle11).less hle9)⟩,fun _=>⟨_,(((hp.get 2 rfl).less hle11).less hle9)⟩,fun _=>⟨_,(((hp.get 3 rfl).less hle11).less hle9)⟩,trivial⟩ fun hS=>?_)
    refine W1 7 (by kernel_rfl) rfl ?_
    refine aX (wk0 rfl) rfl hE hp rfl rfl rfl 0 rfl dD.size_ rfl (aQ ⟨(aH.one vX),(aH.one vY),(aH.one uA),trivial⟩) [U3,U4,G8] rfl ?_
    intro w hp
    have hp:=r4 hp
    refine aB (aF ⟨fun _=>⟨_,((hp.less hle11).less hle9)⟩,fun _=>⟨_,(((hp.get 2 rfl).less hle11).less hle9)⟩,fun _=>⟨_,(((hp.get 3 rfl).less hle11).less hle9)⟩,trivial⟩ fun hS=>?_)
    exact bP (by kernel_rfl) ⟨ρ11,_,_,_,_,_,_,_,_,(PH.le.tr hle9 hle11),vX,vY,uA,(aH.mono pW hle11),(aH.mono pX hle11),(aH.mono nS hle11),hE.cut ⟨rfl,rfl,rfl,trivial⟩,hp⟩
   refine dX rfl ?_
   refine dL (wk0 rfl) rfl rfl hE hp rfl [N0,N0,N0] (fun w=>by simp[Instr.alloc,go_sem]<;>rfl) ?_
   intro a w b18 hE hp
   have hp:=r4 hp
   refine aB (aF ⟨gp0 hp,gp 2 hp rfl,gp 3 hp rfl,trivial⟩ fun hS=>?_)
   refine W1 1 (by kernel_rfl) rfl ?_
   refine Cl hE rfl rfl jM (bG p0 aI bD hp x2 ex2) ⟨rfl,trivial⟩ fun v a w hR hE=>?_
   obtain⟨ρ12,U5,U6,G9,hle12,rfl,vZ,wB,uB,hp⟩:=hR
   have hp:=r4 hp
   refine aB (aF ⟨fun _=>⟨_,(hp.less hle12)⟩,fun _=>⟨_,((hp.get 2 rfl).less hle12)⟩,fun _=>⟨_,((hp.get 3 rfl).less hle12)⟩,trivial⟩ fun hS=>?_)
   refine W1 3 (by kernel_rfl) rfl ?_
   refine Cl hE rfl rfl jM (bG p1 aJ (aH.mono bH hle12) hp x3 ex3) ⟨rfl,trivial⟩ fun v a w hR hE=>?_
   obtain⟨ρ13,zV,zW,yS,hle13,rfl,sF,sG,qN,hp⟩:=hR
   have hp:=r4 hp
   refine aB (aF ⟨fun _=>⟨_,((hp.less hle13).less hle12)⟩,fun _=>⟨_,(((hp.get 2 rfl).less hle13).less hle12)⟩,fun _=>⟨_,(((hp.get 3 rfl).less hle13).less hle12)⟩,trivial⟩ fun hS=>?_)
   refine W1 6 (by kernel_rfl) rfl ?_
   refine aX (wk0 rfl) rfl hE hp rfl rfl rfl 1 rfl dD.size_ rfl (aQ ⟨(aH.one (aH.mono vZ hle13)),(aH.one (aH.mono wB hle13)),(aH.one (aH.mono uB hle13)),trivial⟩) [U5,U6,G9] rfl ?_
   intro w hp
   have hp:=r4 hp
   refine aB (aF ⟨fun _=>⟨_,((hp.less hle13).less hle12)⟩,fun _=>⟨_,(((hp.get 2 rfl).less hle13).less hle12)⟩,fun _=>⟨_,(((hp.get 3 rfl).less hle13).less hle12)⟩,trivial⟩ fun hS=>?_)
   refine W1 7 (by kernel_rfl) rfl ?_
   refine aX (wk0 rfl) rfl hE hp rfl rfl rfl 0 rfl dD.size_ rfl (aQ ⟨(aH.one sF),(aH.one sG),(aH.one qN),trivial⟩) [zV,zW,yS] rfl ?_
   intro w hp
   have hp:=r4 hp
   refine aB (aF ⟨fun _=>⟨_,((hp.less hle13).less hle12)⟩,fun _=>⟨_,(((hp.get 2 rfl).less hle13).less hle12)⟩,fun _=>⟨_,(((hp.get 3 rfl).less hle13).less hle12)⟩,trivial⟩ fun hS=>?_)
   exact bP (by kernel_rfl) ⟨ρ13,_,_,_,_,_,_,_,_,(PH.le.tr hle12 hle13),sF,sG,qN,(aH.mono vZ hle13),(aH.mono wB hle13),(aH.mono uB hle13),hE.cut ⟨rfl,rfl,rfl,trivial⟩,hp⟩
  refine dX rfl ?_
  refine dL (wk0 rfl) rfl rfl hE hp rfl [N0,N0,N0] (fun w=>by simp[Instr.alloc,go_sem]<;>rfl) ?_
  intro a w b19 hE hp
  have hp:=r3 hp
  refine aB (aF ⟨gp0 hp,gp 1 hp rfl,gp 2 hp rfl,trivial⟩ fun hS=>?_)
  refine gW [1,4] (by kernel_rfl) rfl ?_
  refine List.forall_mem_cons.2 ⟨?_,List.forall_mem_cons.2 ⟨?_,fun _ h=>absurd h (by simp)⟩⟩
  ·
   refine dX rfl ?_
   refine Cl hE rfl rfl jM (bG p0 aI bD hp x2 ex2) ⟨rfl,trivial⟩ fun v a w hR hE=>?_
   obtain⟨ρ14,xX,xY,wQ,hle14,rfl,pY,qA,nT,hp⟩:=hR
   have hp:=r3 hp
   refine aB (aF ⟨fun _=>⟨_,(hp.less hle14)⟩,fun _=>⟨_,((hp.get 1 rfl).less hle14)⟩,fun _=>⟨_,((hp.get 2 rfl).less hle14)⟩,trivial⟩ fun hS=>?_)
   refine gW [3,4] (by kernel_rfl) rfl ?_
   refine List.forall_mem_cons.2 ⟨?_,List.forall_mem_cons.2 ⟨?_,fun _ h=>absurd h (by simp)⟩⟩
   ·
    refine dX rfl ?_
    refine Cl hE rfl rfl jM (bG p1 aJ (aH.mono bH hle14) hp x3 ex3) ⟨rfl,trivial⟩ fun v a w hR hE=>?_
    obtain⟨ρ15,U7,U9,H5,hle15,rfl,wC,wE,uC,hp⟩:=hR
    have hp:=r3 hp
    refine aB (aF ⟨fun _=>⟨_,((hp.less hle15).less hle14)⟩,fun _=>⟨_,(((hp.get 1 rfl).less hle15).less hle14)⟩,fun _=>⟨_,(((hp.get 2 rfl).less hle15).less hle14)⟩,trivial⟩ fun hS=>?_)
    refine W1 4 (by kernel_rfl) rfl ?_
    refine dL (wk0 rfl) rfl rfl hE hp rfl [N0,N0,N0] (fun w=>by simp[Instr.alloc,go_sem]<;>rfl) ?_
    intro a w b20 hE hp
    have hp:=r4 hp
    refine aB (aF ⟨fun _=>⟨_,((hp.less hle15).less hle14)⟩,fun _=>⟨_,(((hp.get 2 rfl).less hle15).less hle14)⟩,fun _=>⟨_,(((hp.get 3 rfl).less hle15).less hle14)⟩,trivial⟩ fun hS=>?_)
    refine W1 6 (by kernel_rfl) rfl ?_
    refine aX (wk0 rfl) rfl hE hp rfl rfl rfl 0 rfl dD.size_ rfl (aQ ⟨(aH.one (aH.mono pY hle15)),(aH.one (aH.mono qA hle15)),(aH.one (aH.mono nT hle15)),trivial⟩) [xX,xY,wQ] rfl ?_
    intro w hp
    have hp:=r4 hp
    refine aB (aF ⟨fun _=>⟨_,((hp.less hle15).less hle14)⟩,fun _=>⟨_,(((hp.get 2 rfl).less hle15).less hle14)⟩,fun _=>⟨_,(((hp.get 3 rfl).less hle15).less hle14)⟩,trivial⟩ fun hS=>?_)
    refine W1 7 (by kernel_rfl) rfl ?_
    refine aX (wk0 rfl) rfl hE hp rfl rfl rfl 1 rfl dD.size_ rfl (aQ ⟨(aH.one wC),(aH.one wE),(aH.one uC),trivial⟩) [U7,U9,H5] rfl ?_
    intro w hp
    have hp:=r4 hp
    refine aB (aF ⟨fun _=>⟨_,((hp.less hle15).less hle14)⟩,fun _=>⟨_,(((hp.get 2 rfl).less hle15).less hle14)⟩,fun _=>⟨_,(((hp.get 3 rfl).less hle15).less hle14)⟩,trivial⟩ fun hS=>?_)
    exact bP (by kernel_rfl) ⟨ρ15,_,_,_,_,_,_,_,_,(PH.le.tr hle14 hle15),wC,wE,uC,(aH.mono pY hle15),(aH.mono qA hle15),(aH.mono nT hle15),hE.cut ⟨rfl,rfl,rfl,trivial⟩,((((hp.get 3 rfl).get 3 rfl).get 2 rfl).get 3 rfl)⟩
   refine dX rfl ?_
   refine dL (wk0 rfl) rfl rfl hE hp rfl [N0,N0,N0] (fun w=>by simp[Instr.alloc,go_sem]<;>rfl) ?_
   intro a w b21 hE hp
   have hp:=r4 hp
   refine aB (aF ⟨fun _=>⟨_,(hp.less hle14)⟩,fun _=>⟨_,((hp.get 2 rfl).less hle14)⟩,fun _=>⟨_,((hp.get 3 rfl).less hle14)⟩,trivial⟩ fun hS=>?_)
   refine W1 3 (by kernel_rfl) rfl ?_
   refine Cl hE rfl rfl jM (bG p1 aJ (aH.mono bH hle14) hp x3 ex3) ⟨rfl,trivial⟩ fun v a w hR hE=>?_
   obtain⟨ρ16,V3,V4,H6,hle16,rfl,wF,wG,uD,hp⟩:=hR
   have hp:=r4 hp
   refine aB (aF ⟨fun _=>⟨_,((hp.less hle16).less hle14)⟩,fun _=>⟨_,(((hp.get 2 rfl).less hle16).less hle14)⟩,fun _=>⟨_,(((hp.get 3 rfl).less hle16).less hle14)⟩,trivial⟩ fun hS=>?_)
   refine W1 6 (by kernel_rfl) rfl ?_
   refine aX (wk0 rfl) rfl hE hp rfl rfl rfl 0 rfl dD.size_ rfl (aQ ⟨(aH.one (aH.mono pY hle16)),(aH.one (aH.mono qA hle16)),(aH.one (aH.mono nT hle16)),trivial⟩) [xX,xY,wQ] rfl ?_
   intro w hp
   have hp:=r4 hp
   refine aB (aF ⟨fun _=>⟨_,((hp.less hle16).less hle14)⟩,fun _=>⟨_,(((hp.get 2 rfl).less hle16).less hle14)⟩,fun _=>⟨_,(((hp.get 3 rfl).less hle16).less hle14)⟩,trivial⟩ fun hS=>?_)
   refine W1 7 (by kernel_rfl) rfl ?_
   refine aX (wk0 rfl) rfl hE hp rfl rfl rfl 1 rfl dD.size_ rfl (aQ ⟨(aH.one wF),(aH.one wG),(aH.one uD),trivial⟩) [V3,V4,H6] rfl ?_
   intro w hp
   have hp:=r4 hp
   refine aB (aF ⟨fun _=>⟨_,((hp.less hle16).less hle14)⟩,fun _=>⟨_,(((hp.get 2 rfl).less hle16).less hle14)⟩,fun _=>⟨_,(((hp.get 3 rfl).less hle16).less hle14)⟩,trivial⟩ fun hS=>?_)
   exact bP (by kernel_rfl) ⟨ρ16,_,_,_,_,_,_,_,_,(PH.le.tr hle14 hle16),wF,wG,uD,(aH.mono pY hle16),(aH.mono qA hle16),(aH.mono nT hle16),hE.cut ⟨rfl,rfl,rfl,trivial⟩,((((hp.get 3 rfl).get 3 rfl).get 2 rfl).get 3 rfl)⟩
  refine dX rfl ?_
  refine dL (wk0 rfl) rfl rfl hE hp rfl [N0,N0,N0] (fun w=>by simp[Instr.alloc,go_sem]<;>rfl) ?_
  intro a w b22 hE hp
  have hp:=r4 hp
  refine aB (aF ⟨gp0 hp,gp 2 hp rfl,gp 3 hp rfl,trivial⟩ fun hS=>?_)
  refine W1 1 (by kernel_rfl) rfl ?_
  refine Cl hE rfl rfl jM (bG p0 aI bD hp x2 ex2) ⟨rfl,trivial⟩ fun v a w hR hE=>?_
  obtain⟨ρ17,V5,V6,H7,hle17,rfl,wH,wI,uF,hp⟩:=hR
  have hp:=r4 hp
  refine aB (aF ⟨fun _=>⟨_,(hp.less hle17)⟩,fun _=>⟨_,((hp.get 2 rfl).less hle17)⟩,fun _=>⟨_,((hp.get 3 rfl).less hle17)⟩,trivial⟩ fun hS=>?_)
  refine W1 3 (by kernel_rfl) rfl ?_
  refine Cl hE rfl rfl jM (bG p1 aJ (aH.mono bH hle17) hp x3 ex3) ⟨rfl,trivial⟩ fun v a w hR hE=>?_
  obtain⟨ρ18,aI3,aI4,aF6,hle18,rfl,P8,P9,E8,hp⟩:=hR
  have hp:=r4 hp
  refine aB (aF ⟨fun _=>⟨_,((hp.less hle18).less hle17)⟩,fun _=>⟨_,(((hp.get 2 rfl).less hle18).less hle17)⟩,fun _=>⟨_,(((hp.get 3 rfl).less hle18).less hle17)⟩,trivial⟩ fun hS=>?_)
  refine W1 6 (by kernel_rfl) rfl ?_
  refine aX (wk0 rfl) rfl hE hp rfl rfl rfl 0 rfl dD.size_ rfl (aQ ⟨(aH.one (aH.mono wH hle18)),(aH.one (aH.mono wI hle18)),(aH.one (aH.mono uF hle18)),trivial⟩) [V5,V6,H7] rfl ?_
  intro w hp
  have hp:=r4 hp
  refine aB (aF ⟨fun _=>⟨_,((hp.less hle18).less hle17)⟩,fun _=>⟨_,(((hp.get 2 rfl).less hle18).less hle17)⟩,fun _=>⟨_,(((hp.get 3 rfl).less hle18).less hle17)⟩,trivial⟩ fun hS=>?_)
  refine W1 7 (by kernel_rfl) rfl ?_
  refine aX (wk0 rfl) rfl hE hp rfl rfl rfl 1 rfl dD.size_ rfl (aQ ⟨(aH.one P8),(aH.one P9),(aH.one E8),trivial⟩) [aI3,aI4,aF6] rfl ?_
  intro w hp
  have hp:=r4 hp
  refine aB (aF ⟨fun _=>⟨_,((hp.less hle18).less hle17)⟩,fun _=>⟨_,(((hp.get 2 rfl).less hle18).less hle17)⟩,fun _=>⟨_,(((hp.get 3 rfl).less hle18).less hle17)⟩,trivial⟩ fun hS=>?_)
  exact bP (by kernel_rfl) ⟨ρ18,_,_,_,_,_,_,_,_,(PH.le.tr hle17 hle18),P8,P9,E8,(aH.mono wH hle18),(aH.mono wI hle18),(aH.mono uF hle18),hE.cut ⟨rfl,rfl,rfl,trivial⟩,((((hp.get 3 rfl).get 3 rfl).get 2 rfl).get 3 rfl)⟩
 rintro a w ⟨ρy1,y6,y5,yv1,yv2,yv3,yv4,yv5,yv6,hley1,yh1,yh2,yh3,yh4,yh5,yh6,hE,hp⟩
 refine aG (aA ?_)
 refine S hE 3 rfl fun a hE=>aB (aG ?_)
 refine aA (V hE hp rfl (xf hE kK rfl rfl) fun a hE=>?_)
 refine V hE hp rfl (xl hE iT 0 rfl rfl rfl rfl) fun a hE=>V hE hp rfl (bT rfl hE rfl (aH.len yh1 jI)) fun a hE=>?_
 obtain⟨x4,ex4,hm⟩:=bnd hm
 refine aF4 (wk0 rfl) rfl rfl hE hp rfl (El:=4) (bytes:=1) (by kernel_rfl) (false:Bool) (by kernel_rfl) (by kernel_rfl) rfl rfl ex4 ?_
 intro v1 a w hE hp
 have hp:=r5 hp
 refine S hE 1 rfl fun a hE=>aB (aG ?_)
 refine aG (aA ?_)
 refine S hE 1 rfl fun a hE=>V hE hp rfl (bT rfl hE rfl (aH.len (aH.mono hp2 hley1) dW)) fun a hE=>S hE 1 rfl fun a hE=>aB ?_
 have hp:=hp.emp (aC.nil (α:=Chg) 58)
 have hp:=r6 hp
 have hp:=hp.emp (aC.nil (α:=Chg) 58)
 have hp:=r7 hp
 obtain⟨b23,hc2,hm⟩:=bnd hm
 refine dH (fun a w=>∃(w15:Value) (w14:Value) (w7:Value),Env 111 [(2,vp2),(9,(Pv y6 0)),(10,w15),(11,w14),(12,N0),(13,w7)] a∧Hp Z ρy1 (aC 58 w15 b23.1::aC 58 w14 b23.2.1::aC 4 w7 b23.2.2::Pt y6 (.cells #[yv1,yv2,yv3] 75 (0,0))::Pt y5 (.cells #[yv4,yv5,yv6] 75 (0,0))::Pt b2 (.cells #[(Iv p1.kind),(.string p1.text),(Iv p1.at_),(Iv p1.fin),aJ] 24 (0,0))::Pt b1 (.cells #[(Iv p0.kind),(.string p0.text),(Iv p0.at_),(Iv p0.fin),aI] 24 (0,0))::L) w) ?_ ?_
 ·refine dZ hc2 (fun s a w=>∃(w15:Value) (w14:Value) (w7:Value),Env 111 [(2,vp2),(8,(Pv y5 0)),(9,(Pv y6 0)),(10,w15),(11,w14),(12,N0),(13,w7),(32,vp2),(33,(Iv (p2.length:Int))),(34,(Iv s.1))] a∧Hp Z ρy1 (aC 58 w15 s.2.1::aC 58 w14 s.2.2.1::aC 4 w7 s.2.2.2::Pt y6 (.cells #[yv1,yv2,yv3] 75 (0,0))::Pt y5 (.cells #[yv4,yv5,yv6] 75 (0,0))::Pt b2 (.cells #[(Iv p1.kind),(.string p1.text),(Iv p1.at_),(Iv p1.fin),aJ] 24 (0,0))::Pt b1 (.cells #[(Iv p0.kind),(.string p0.text),(Iv p0.at_),(Iv p0.fin),aI] 24 (0,0))::L) w) ?_ ?_
  ·exact⟨_,_,_,hE.cut ⟨rfl,rfl,rfl,rfl,rfl,rfl,rfl,rfl,rfl,rfl,trivial⟩,hp⟩
  rintro⟨aP,aU,dR,fQ⟩ st a w ⟨w15,w14,w7,hE,hp⟩ hl1
  dsimp only at hE hp hl1
  unfold nM at hl1
  refine aG (aA ?_)
  refine S hE 1 rfl fun a hE=>aB (aG ?_)
  refine dE hE rfl (fun hc3=>?_) (fun hc3=>?_)
  ·replace hl1:=(it hc3).symm.trans hl1
   refine aZ (aG ?_)
   refine dM (aG ?_)
   refine aA ?_
   obtain⟨x5,ex5,hl1⟩:=bnd hl1
   obtain⟨b24,b24o,b24c,b24r,b24k,b24f⟩:=aH.at (aH.mono hp2 hley1) dW ex5
   obtain rfl:b24c=Enc.enc x5:=b24k
   have b24f:AtP ρy1 b24 b24o [(Iv x5.a),(Iv x5.b)]:=b24f
   refine V hE hp rfl (aN rfl hE rfl rfl b24r) fun a hE=>V hE hp rfl (aK rfl hE rfl (fun w hw=>aW (cs:=[(Iv x5.a),(Iv x5.b)]) fF (fun j u hj=>cell_of hw.le (b24f j u hj)))) fun a hE=>?_
   refine dL (wk0 rfl) rfl rfl hE hp rfl [(Iv 0),(Iv 0)] (fun w=>by simp[Instr.alloc,go_sem]<;>rfl) ?_
   intro a w b25 hE hp
   have hp:=r8 hp
   refine aX (wk0 rfl) rfl hE hp rfl rfl rfl 0 rfl fF.size_ rfl (aQ ⟨rfl,rfl,trivial⟩) [(Iv x5.a),(Iv x5.b)] rfl ?_
   intro w hp
   have hp:=r8 hp
   refine aB (dM ?_)
   refine aG (aA ?_)
   refine V hE hp rfl (xf hE dK rfl rfl) fun a hE=>V hE hp rfl (xl hE aT 0 rfl rfl rfl rfl) fun a hE=>S hE 2 rfl fun a hE=>aB ?_
   refine dE hE rfl (fun hc4=>?_) (fun hc4=>?_)
   ·replace hl1:=(it hc4).symm.trans hl1
    refine aA (S hE 1 rfl fun a hE=>?_)
    refine V hE hp rfl (xf hE fA rfl rfl) fun a hE=>V hE hp rfl (xl hE aT 0 rfl rfl rfl rfl) fun a hE=>V hE hp rfl (v:=(.agg #[(Iv 1),(Iv x5.a),(Iv 0),(Iv 0),(Iv 0),(.string ByteArray.empty)])) (lW rfl hE [(0,(Iv 1)),(1,(Iv x5.a))] (by exact⟨⟨rfl,rfl⟩,⟨rfl,rfl⟩,trivial⟩) (fun w=>by simp[Instr.build,Instr.fill,Value.cells,go_sem]<;>rfl)) fun a hE=>?_
    refine fP (wk0 rfl) rfl rfl hE hp rfl [(0,(.agg #[(Iv 1),(Iv x5.a),(Iv 0),(Iv 0),(Iv 0),(.string ByteArray.empty)]))] ⟨⟨rfl,rfl⟩,trivial⟩ [(Iv 1),(Iv x5.a),(Iv 0),(Iv 0),(Iv 0),(.string ByteArray.empty)] 58 (fun w=>by simp[Instr.buildSlice,Instr.fill,Value.cells,go_sem]) ?_
    intro a w b26 hE hp
    have hp:=r9 hp
    obtain⟨x6,ex6,hl1⟩:=bnd hl1
    refine fU (wk0 rfl) rfl rfl hE hp rfl uQ rfl rfl 3 rfl rfl (l2:=[(Chg.mk 1 x5.a 0 0 0 ByteArray.empty)]) rfl (fun j u hj=>by have:=Hp.cN 0 rfl 0 _ (aS rfl) w hp j u hj;simpa using this) ex6 ?_
    intro v2 a w hE hp
    have hp:=r9 hp
    refine S hE 1 rfl fun a hE=>aB ?_
    have hE:=hE.cut (E':=[(2,vp2),(8,(Pv y5 0)),(9,(Pv y6 0)),(10,w15),(11,v2),(12,N0),(13,w7),(32,vp2),(33,(Iv (p2.length:Int))),(34,(Iv aP))]) ⟨rfl,rfl,rfl,rfl,rfl,rfl,rfl,rfl,rfl,rfl,trivial⟩
    refine aA ?_
    obtain⟨x7,ex7,hl1⟩:=bnd hl1
    refine V hE hp rfl (bF rfl hE rfl rfl (aO ex7)) fun a hE=>S hE 1 rfl fun a hE=>aB ?_
    exact⟨_,(oj hl1).symm,_,_,_,hE.cut ⟨rfl,rfl,rfl,rfl,rfl,rfl,rfl,rfl,rfl,rfl,trivial⟩,(((hp.get 1 rfl).drop).drop)⟩
   replace hl1:=(ie hc4).symm.trans hl1
   refine aG (aA ?_)
   refine V hE hp rfl (xf hE fA rfl rfl) fun a hE=>V hE hp rfl (xl hE aT 0 rfl rfl rfl rfl) fun a hE=>S hE 2 rfl fun a hE=>aB ?_
   refine dE hE rfl (fun hc5=>?_) (fun hc5=>?_)
   ·replace hl1:=(it hc5).symm.trans hl1
    refine aG (aA ?_)
    refine S hE 1 rfl fun a hE=>V hE hp rfl (xf hE dK rfl rfl) fun a hE=>V hE hp rfl (xl hE aT 0 rfl rfl rfl rfl) fun a hE=>?_
    obtain⟨x8,ex8,hl1⟩:=bnd hl1
    obtain⟨b27,b27o,b27r,b27v,b27f⟩:=aC.at hp 3 rfl rH ex8
    refine V hE hp rfl (aN rfl hE rfl rfl b27r) fun a hE=>?_
    refine zF (wk0 rfl) rfl hE hp rfl rfl rfl 3 rfl ex8 b27v 0 (e':=true) vH.size_ rfl rfl rfl ⟨rfl,rfl⟩ ?_
    intro w hp
    have hp:=r8 hp
    refine aB (aG ?_)
    refine aA (V hE hp rfl (xf hE kK rfl rfl) fun a hE=>?_)
    refine V hE hp rfl (xl hE iT 4 rfl rfl rfl rfl) fun a hE=>V hE hp rfl (xf hE dK rfl rfl) fun a hE=>V hE hp rfl (xl hE aT 0 rfl rfl rfl rfl) fun a hE=>?_
    obtain⟨x9,ex9,hl1⟩:=bnd hl1
    obtain⟨b28,b28o,b28c,b28r,b28k,b28f⟩:=aH.at yh1 jI ex9
    obtain⟨O0,rfl,hb28_kids⟩:=NodeAt.opens b28k
    have b28f:AtP ρy1 b28 b28o [(Iv x9.kind),(.string x9.text),(Iv x9.at_),(Iv x9.fin),O0]:=b28f
    refine V hE hp rfl (aN rfl hE rfl rfl b28r) fun a hE=>V hE hp rfl (aK rfl hE rfl (fun w hw=>aW (cs:=[(Iv x9.kind),(.string x9.text),(Iv x9.at_),(Iv x9.fin),O0]) bY (fun j u hj=>cell_of hw.le (b28f j u hj)))) fun a hE=>?_
    refine dL (wk0 rfl) rfl rfl hE hp rfl [(Iv 0),(.string ByteArray.empty),(Iv 0),(Iv 0),N0] (fun w=>by simp[Instr.alloc,go_sem]<;>rfl) ?_
    intro a w b29 hE hp
    have hp:=r9 hp
    refine aX (wk0 rfl) rfl hE hp rfl rfl rfl 0 rfl bY.size_ rfl (aQ ⟨rfl,rfl,rfl,rfl,(aH.one hb28_kids),trivial⟩) [(Iv x9.kind),(.string x9.text),(Iv x9.at_),(Iv x9.fin),O0] rfl ?_
    intro w hp
    have hp:=r9 hp
    refine aB ?_
    have hE:=hE.cut (E':=[(2,vp2),(8,(Pv y5 0)),(9,(Pv y6 0)),(10,w15),(11,w14),(12,N0),(13,w7),(15,(Pv b25 0)),(16,(Pv b29 0)),(32,vp2),(33,(Iv (p2.length:Int))),(34,(Iv aP))]) ⟨rfl,rfl,rfl,rfl,rfl,rfl,rfl,rfl,rfl,rfl,rfl,rfl,trivial⟩
    refine aG ?_
    refine jR (by kernel_rfl) (by kernel_rfl) hp ?_
    refine Vq hE rfl (xf hE kK rfl rfl) fun a hE=>Vq hE rfl (xl hE iT 6 rfl rfl rfl rfl) fun a hE=>Vq hE rfl (xf hE fA rfl rfl) fun a hE=>Vq hE rfl (xl hE aT 1 rfl rfl rfl rfl) fun a hE=>?_
    obtain⟨x10,ex10,hl1⟩:=bnd hl1
    obtain⟨b30,b30o,b30c,b30r,b30k,b30f⟩:=aH.at yh4 jI ex10
    obtain⟨aH1,rfl,hb30_kids⟩:=NodeAt.opens b30k
    have b30f:AtP ρy1 b30 b30o [(Iv x10.kind),(.string x10.text),(Iv x10.at_),(Iv x10.fin),aH1]:=b30f
    refine Vq hE rfl (aN rfl hE rfl rfl b30r) fun a hE=>Vq hE rfl (aK rfl hE rfl (fun w hw=>aW (cs:=[(Iv x10.kind),(.string x10.text),(Iv x10.at_),(Iv x10.fin),aH1]) bY (fun j u hj=>cell_of hw.le (b30f j u hj)))) fun a hE=>Vq hE rfl (aK rfl hE rfl (fun w hw=>aW (cs:=[(Iv x9.kind),(.string x9.text),(Iv x9.at_),(Iv x9.fin),O0]) bY (Hp.cN 0 rfl 0 _ (aS rfl) w hw))) fun a hE=>?_
    obtain⟨x11,ex11,hl1⟩:=bnd hl1
    refine Y7 (wk0 rfl) rfl rfl hE rfl [(.agg #[(Iv x10.kind),(.string x10.text),(Iv x10.at_),(Iv x10.fin),aH1]),(.agg #[(Iv x9.kind),(.string x9.text),(Iv x9.at_),(Iv x9.fin),O0])] ⟨rfl,rfl,trivial⟩ ent41 (v:=(.bool x11)) (fun w hw=>Calls.mono (yX x10 aH1 hb30_kids x9 O0 hb28_kids hw x11 ex11) fun e w' ⟨v,he,hv,hh⟩=>⟨by rw[he,hv],hh⟩) ?_
    intro a hE
    refine Sq hE 1 rfl fun a hE=>?_
    refine iM fun w hp=>?_
    have hp:=r9 hp
    refine dE hE rfl (fun hc6=>?_) (fun hc6=>?_)
    ·replace hl1:=(it hc6).symm.trans hl1
     refine aA (S hE 1 rfl fun a hE=>?_)
     refine V hE hp rfl (xf hE fA rfl rfl) fun a hE=>V hE hp rfl (xl hE aT 1 rfl rfl rfl rfl) fun a hE=>V hE hp rfl (xf hE yD rfl rfl) fun a hE=>V hE hp rfl (xl hE aT 0 rfl rfl rfl rfl) fun a hE=>V hE hp rfl (xf hE wV rfl rfl) fun a hE=>V hE hp rfl (xl hE xR 0 rfl rfl rfl rfl) fun a hE=>V hE hp rfl (v:=(.agg #[(Iv 0),(Iv x5.a),(Iv 0),(Iv 0),(Iv x9.kind),(.string x9.text)])) (lW rfl hE [(0,(Iv 0)),(1,(Iv x5.a)),(4,(Iv x9.kind)),(5,(.string x9.text))] (by exact⟨⟨rfl,rfl⟩,⟨rfl,rfl⟩,⟨rfl,rfl⟩,⟨rfl,rfl⟩,trivial⟩) (fun w=>by simp[Instr.build,Instr.fill,Value.cells,go_sem])) fun a hE=>?_
     refine fP (wk0 rfl) rfl rfl hE hp rfl [(0,(.agg #[(Iv 0),(Iv x5.a),(Iv 0),(Iv 0),(Iv x9.kind),(.string x9.text)]))] ⟨⟨rfl,rfl⟩,trivial⟩ [(Iv 0),(Iv x5.a),(Iv 0),(Iv 0),(Iv x9.kind),(.string x9.text)] 58 (fun w=>by simp[Instr.buildSlice,Instr.fill,Value.cells,go_sem]) ?_
     intro a w b31 hE hp
     have hp:=r10 hp
     obtain⟨x12,ex12,hl1⟩:=bnd hl1
     refine fU (wk0 rfl) rfl rfl hE hp rfl uQ rfl rfl 3 rfl rfl (l2:=[(Chg.mk 0 x5.a 0 0 x9.kind x9.text)]) rfl (fun j u hj=>by have:=Hp.cN 0 rfl 0 _ (aS rfl) w hp j u hj;simpa using this) ex12 ?_
     intro v3 a w hE hp
     have hp:=r10 hp
     refine S hE 1 rfl fun a hE=>aB ?_
     have hE:=hE.cut (E':=[(2,vp2),(8,(Pv y5 0)),(9,(Pv y6 0)),(10,v3),(11,w14),(12,N0),(13,w7),(32,vp2),(33,(Iv (p2.length:Int))),(34,(Iv aP))]) ⟨rfl,rfl,rfl,rfl,rfl,rfl,rfl,rfl,rfl,rfl,trivial⟩
     refine aA ?_
     obtain⟨x13,ex13,hl1⟩:=bnd hl1
     refine V hE hp rfl (bF rfl hE rfl rfl (aO ex13)) fun a hE=>S hE 1 rfl fun a hE=>aB ?_
     exact⟨_,(oj hl1).symm,_,_,_,hE.cut ⟨rfl,rfl,rfl,rfl,rfl,rfl,rfl,rfl,rfl,rfl,trivial⟩,(((((hp.get 2 rfl).drop).get 1 rfl).drop).drop)⟩
    replace hl1:=(ie hc6).symm.trans hl1
    refine aZ (aA ?_)
    obtain⟨x14,ex14,hl1⟩:=bnd hl1
    refine V hE hp rfl (bF rfl hE rfl rfl (aO ex14)) fun a hE=>S hE 1 rfl fun a hE=>aB ?_
    exact⟨_,(oj hl1).symm,_,_,_,hE.cut ⟨rfl,rfl,rfl,rfl,rfl,rfl,rfl,rfl,rfl,rfl,trivial⟩,(((hp.get 1 rfl).drop).drop)⟩
   replace hl1:=(ie hc5).symm.trans hl1
   refine aZ (aA ?_)
   obtain⟨x15,ex15,hl1⟩:=bnd hl1
   refine V hE hp rfl (bF rfl hE rfl rfl (aO ex15)) fun a hE=>S hE 1 rfl fun a hE=>aB ?_
   exact⟨_,(oj hl1).symm,_,_,_,hE.cut ⟨rfl,rfl,rfl,rfl,rfl,rfl,rfl,rfl,rfl,rfl,trivial⟩,(hp.drop)⟩
  replace hl1:=(ie hc3).symm.trans hl1
  refine dS ?_
  refine⟨_,(oj hl1).symm,fun hbb=>?_⟩
  subst hbb
  exact⟨_,_,_,hE.cut ⟨rfl,rfl,rfl,rfl,rfl,rfl,trivial⟩,hp⟩
 rintro a w ⟨w15,w14,w7,hE,hp⟩
 refine aG (aG ?_)
 refine aA (S hE 1 rfl fun a hE=>?_)
 refine V hE hp rfl (bT rfl hE rfl (aH.len (aH.mono hp2 hley1) dW)) fun a hE=>S hE 1 rfl fun a hE=>aB ?_
 have hp:=hp.emp (aC.nil (α:=Chg) 58)
 have hp:=r8 hp
 obtain⟨b32,hc7,hm⟩:=bnd hm
 refine dH (fun a w=>∃(w27:Value) (w7:Value),Env 111 [(10,w15),(11,w14),(12,w27)] a∧Hp Z ρy1 (aC 58 w27 b32.1::aC 58 w15 b23.1::aC 58 w14 b23.2.1::aC 4 w7 b32.2::Pt y6 (.cells #[yv1,yv2,yv3] 75 (0,0))::Pt y5 (.cells #[yv4,yv5,yv6] 75 (0,0))::Pt b2 (.cells #[(Iv p1.kind),(.string p1.text),(Iv p1.at_),(Iv p1.fin),aJ] 24 (0,0))::Pt b1 (.cells #[(Iv p0.kind),(.string p0.text),(Iv p0.at_),(Iv p0.fin),aI] 24 (0,0))::L) w) ?_ ?_
 ·refine dZ hc7 (fun s a w=>∃(w27:Value) (w7:Value),Env 111 [(9,(Pv y6 0)),(10,w15),(11,w14),(12,w27),(13,w7),(82,vp2),(83,(Iv (p2.length:Int))),(84,(Iv s.1))] a∧Hp Z ρy1 (aC 58 w27 s.2.1::aC 58 w15 b23.1::aC 58 w14 b23.2.1::aC 4 w7 s.2.2::Pt y6 (.cells #[yv1,yv2,yv3] 75 (0,0))::Pt y5 (.cells #[yv4,yv5,yv6] 75 (0,0))::Pt b2 (.cells #[(Iv p1.kind),(.string p1.text),(Iv p1.at_),(Iv p1.fin),aJ] 24 (0,0))::Pt b1 (.cells #[(Iv p0.kind),(.string p0.text),(Iv p0.at_),(Iv p0.fin),aI] 24 (0,0))::L) w) ?_ ?_
  ·exact⟨_,_,hE.cut ⟨rfl,rfl,rfl,rfl,rfl,rfl,rfl,rfl,trivial⟩,hp⟩
  rintro⟨bJ,dY,zA⟩ st a w ⟨w27,w7,hE,hp⟩ hl2
  dsimp only at hE hp hl2
  unfold nN at hl2
  refine aG (aA ?_)
  refine S hE 1 rfl fun a hE=>aB (aG ?_)
  refine dE hE rfl (fun hc8=>?_) (fun hc8=>?_)
  ·replace hl2:=(it hc8).symm.trans hl2
   refine aZ (aG ?_)
   refine dM (aG ?_)
   refine aA ?_
   obtain⟨x16,ex16,hl2⟩:=bnd hl2
   obtain⟨b33,b33o,b33c,b33r,b33k,b33f⟩:=aH.at (aH.mono hp2 hley1) dW ex16
   obtain rfl:b33c=Enc.enc x16:=b33k
   have b33f:AtP ρy1 b33 b33o [(Iv x16.a),(Iv x16.b)]:=b33f
   refine V hE hp rfl (aN rfl hE rfl rfl b33r) fun a hE=>V hE hp rfl (aK rfl hE rfl (fun w hw=>aW (cs:=[(Iv x16.a),(Iv x16.b)]) fF (fun j u hj=>cell_of hw.le (b33f j u hj)))) fun a hE=>?_
   refine dL (wk0 rfl) rfl rfl hE hp rfl [(Iv 0),(Iv 0)] (fun w=>by simp[Instr.alloc,go_sem]<;>rfl) ?_
   intro a w b34 hE hp
   have hp:=r9 hp
   refine aX (wk0 rfl) rfl hE hp rfl rfl rfl 0 rfl fF.size_ rfl (aQ ⟨rfl,rfl,trivial⟩) [(Iv x16.a),(Iv x16.b)] rfl ?_
   intro w hp
   have hp:=r9 hp
   refine aB (aG ?_)
   refine aA (V hE hp rfl (xf hE fA rfl rfl) fun a hE=>?_)
   refine V hE hp rfl (xl hE aT 0 rfl rfl rfl rfl) fun a hE=>S hE 1 rfl fun a hE=>aB ?_
   refine dE hE rfl (fun hc9=>?_) (fun hc9=>?_)
   ·replace hl2:=(it hc9).symm.trans hl2
    refine aG (aA ?_)
    refine S hE 1 rfl fun a hE=>V hE hp rfl (aK rfl hE rfl (fun w hw=>aW (cs:=[yv1,yv2,yv3]) dD (Hp.cN 5 rfl 0 _ (aS rfl) w hw))) fun a hE=>V hE hp rfl (xf hE dK rfl rfl) fun a hE=>V hE hp rfl (xl hE aT 0 rfl rfl rfl rfl) fun a hE=>S hE 1 rfl fun a hE=>?_
    obtain⟨k1,k1a,k1d,k1h⟩:=(hp.get 4 rfl).lend
    obtain⟨x17,ex17,hl2⟩:=bnd hl2
    refine Cl hE rfl rfl ent42 (O9 x3 yv1 (aH.mono yh1 (PH.le_un _ _)) yv2 (aH.mono yh2 (PH.le_un _ _)) yv3 (aH.mono yh3 (PH.le_un _ _)) x16.b zA w7 (aC.ro k1d k1a) k1h x17 ex17) ⟨rfl,rfl,rfl,trivial⟩ fun v a w hR hE=>?_
    obtain⟨rfl,hp⟩:=hR
    have hp:=Hp.back k1a k1d hp
    have hp:=r9 hp
    refine fP (wk0 rfl) rfl rfl hE hp rfl [(0,(.agg #[(Iv x17.op),(Iv x17.node),(Iv x17.index),(Iv x17.count),(Iv x17.kind),(.string x17.text)]))] ⟨⟨rfl,rfl⟩,trivial⟩ [(Iv x17.op),(Iv x17.node),(Iv x17.index),(Iv x17.count),(Iv x17.kind),(.string x17.text)] 58 (fun w=>by simp[Instr.buildSlice,Instr.fill,Value.cells,go_sem]) ?_
    intro a w b35 hE hp
    have hp:=r10 hp
    obtain⟨x18,ex18,hl2⟩:=bnd hl2
    refine fU (wk0 rfl) rfl rfl hE hp rfl uQ rfl rfl 3 rfl rfl (l2:=[x17]) rfl (fun j u hj=>by have:=Hp.cN 0 rfl 0 _ (aS rfl) w hp j u hj;simpa using this) ex18 ?_
    intro v4 a w hE hp
    have hp:=r10 hp
    refine S hE 1 rfl fun a hE=>aB ?_
    have hE:=hE.cut (E':=[(9,(Pv y6 0)),(10,w15),(11,w14),(12,v4),(13,w7),(18,(Pv b34 0)),(82,vp2),(83,(Iv (p2.length:Int))),(84,(Iv bJ))]) ⟨rfl,rfl,rfl,rfl,rfl,rfl,rfl,rfl,rfl,trivial⟩
    refine aA (S hE 1 rfl fun a hE=>?_)
    refine V hE hp rfl (xf hE dK rfl rfl) fun a hE=>V hE hp rfl (xl hE aT 2 rfl rfl rfl rfl) fun a hE=>?_
    obtain⟨x19,ex19,hl2⟩:=bnd hl2
    obtain⟨b36,b36o,b36r,b36v,b36f⟩:=aC.at hp 1 rfl rH ex19
    refine V hE hp rfl (aN rfl hE rfl rfl b36r) fun a hE=>?_
    refine zF (wk0 rfl) rfl hE hp rfl rfl rfl 1 rfl ex19 b36v 0 (e':=true) vH.size_ rfl rfl rfl ⟨rfl,rfl⟩ ?_
    intro w hp
    have hp:=r10 hp
    refine aB (aA ?_)
    obtain⟨x20,ex20,hl2⟩:=bnd hl2
    refine V hE hp rfl (bF rfl hE rfl rfl (aO ex20)) fun a hE=>S hE 1 rfl fun a hE=>aB ?_
    exact⟨_,(oj hl2).symm,_,_,hE.cut ⟨rfl,rfl,rfl,rfl,rfl,rfl,rfl,rfl,trivial⟩,((((((((((((hp.get 9 rfl).get 9 rfl).get 9 rfl).get 9 rfl).get 5 rfl).get 9 rfl).get 9 rfl).get 9 rfl).get 9 rfl).drop).get 8 rfl).drop)⟩
   replace hl2:=(ie hc9).symm.trans hl2
   refine aZ (aA ?_)
   obtain⟨x21,ex21,hl2⟩:=bnd hl2
   refine V hE hp rfl (bF rfl hE rfl rfl (aO ex21)) fun a hE=>S hE 1 rfl fun a hE=>aB ?_
   exact⟨_,(oj hl2).symm,_,_,hE.cut ⟨rfl,rfl,rfl,rfl,rfl,rfl,rfl,rfl,trivial⟩,(hp.drop)⟩
  replace hl2:=(ie hc8).symm.trans hl2
  refine dS ?_
  refine⟨_,(oj hl2).symm,fun hbb=>?_⟩
  subst hbb
  exact⟨_,_,hE.cut ⟨rfl,rfl,rfl,trivial⟩,hp⟩
 rintro a w ⟨w27,w7,hE,hp⟩
 refine aG (aA ?_)
 refine S hE 1 rfl fun a hE=>?_
 obtain⟨x22,ex22,hm⟩:=bnd hm
 refine Cl hE rfl rfl ent43 (aJ2 b23.2.1 w14 (hp.get 2 rfl) x22 ex22) ⟨rfl,trivial⟩ fun v a w hR hE=>?_
 obtain⟨rfl,hp⟩:=hR
 have hp:=r8 hp
 refine aB (aG ?_)
 refine aA (S hE 3 rfl fun a hE=>?_)
 refine fP (wk0 rfl) rfl rfl hE hp rfl [(0,w15),(1,w14),(2,w27)] ⟨⟨rfl,rfl⟩,⟨rfl,rfl⟩,⟨rfl,rfl⟩,trivial⟩ [w15,w14,w27] 34 (fun w=>by have hc0:=aC.cells hp 2 rfl;simp only[Value.cells] at hc0;have hc1:=aC.cells hp 0 rfl;simp only[Value.cells] at hc1;have hc2:=aC.cells hp 1 rfl;simp only[Value.cells] at hc2;simp[Instr.buildSlice,Instr.fill,Value.cells,hc0,hc1,hc2,go_sem]) ?_
 intro a w b37 hE hp
 have hp:=r9 hp
 obtain⟨k2,k2a,k2d,hp⟩:=(hp.get 3 rfl).lend
 have f1:aH (ρy1.un k2) w15 b23.1:=aC.ro k2d k2a
 have hp:=r8 hp
 obtain⟨k3,k3a,k3d,hp⟩:=(hp.get 1 rfl).lend
 have f2:aH ((ρy1.un k2).un k3) w14 x22:=aC.ro k3d k3a
 have hp:Hp Z ((ρy1.un k2).un k3) (_::_::_::_::_::_::_::L) w:=hp
 obtain⟨k4,k4a,k4d,hp⟩:=(hp.get 1 rfl).lend
 have f3:aH (((ρy1.un k2).un k3).un k4) w27 b32.1:=aC.ro k4d k4a
 have hp:Hp Z (((ρy1.un k2).un k3).un k4) (_::_::_::_::_::_::L) w:=hp
 obtain⟨k5,k5a,k5d,hp⟩:=(hp.get 0 rfl).lend
 have f4:aH ((((ρy1.un k2).un k3).un k4).un k5) (.slice (some ⟨b37,0,none⟩) 3 3) ([b23.1,x22,b32.1]:List (List Chg)):=aH.of_all (l:=(([b23.1,x22,b32.1]:List (List Chg)))) k5d k5a ⟨_,_,rfl,⟨_,rfl,((aH.mono (aH.mono (aH.mono f1 (PH.le_un _ k3)) (PH.le_un _ k4)) (PH.le_un _ k5)))⟩,⟨_,_,rfl,⟨_,rfl,((aH.mono (aH.mono f2 (PH.le_un _ k4)) (PH.le_un _ k5)))⟩,⟨_,_,rfl,⟨_,rfl,((aH.mono f3 (PH.le_un _ k5)))⟩,rfl⟩⟩⟩
 have hp:Hp Z ((((ρy1.un k2).un k3).un k4).un k5) (_::_::_::_::_::L) w:=hp
 obtain⟨x23,ex23,hm⟩:=bnd hm
 refine s_call (wk0 rfl) rfl rfl hE rfl [(.slice (some ⟨b37,0,none⟩) 3 3)] ⟨rfl,trivial⟩ ent44 (aK5 ([b23.1,x22,b32.1]:List (List Chg)) (.slice (some ⟨b37,0,none⟩) 3 3) f4 hp x23 ex23) Ret.ret ?_
 intro vr21 a w hR hE
 obtain⟨u,rfl,hp⟩:=Ret.of hR
 have hp:Hp Z ((((ρy1.un k2).un k3).un k4).un k5) (aC 58 vr21 x23::_::_::_::_::_::L) w:=hp
 refine S hE 2 rfl fun a hE=>aB ?_
 have hE:=hE.cut (E':=[(6,vr21),(7,(Iv 0))]) ⟨rfl,rfl,trivial⟩
 refine bZ ?_
 obtain rfl:=oj hm
 exact yU hE rfl rfl rfl ⟨_,rfl,_,rfl,(((((((((((((((hp.get 5 rfl).drop).get 4 rfl).drop).get 3 rfl).drop).get 2 rfl).drop).get 1 rfl).drop).less (PH.le_un _ k5)).less (PH.le_un _ k4)).less (PH.le_un _ k3)).less (PH.le_un _ k2)).less hley1)⟩
end Go.Proofs.YtopnldfjcciieaaGreat

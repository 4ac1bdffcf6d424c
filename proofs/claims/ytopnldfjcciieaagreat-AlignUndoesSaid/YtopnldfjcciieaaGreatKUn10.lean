/- The code goes as its model: (assessor/align.numbered).insertion, slices.Reverse[[]assessor/api.Change,assessor/api.Change], slices.Concat[[]assessor/api.Change, -/
import Derived.Test.YtopnldfjcciieaaGreatKUnT
import Derived.Test.YtopnldfjcciieaaGreatKUn3
import Derived.Test.YtopnldfjcciieaaGreatKUn5
import Derived.Test.YtopnldfjcciieaaGreatKUn8
import Derived.Test.YtopnldfjcciieaaGreatKUn9
set_option linter.unusedVariables false
set_option linter.unusedSimpArgs false
set_option maxRecDepth 100000
set_option maxHeartbeats 4000000
namespace Go.Proofs.YtopnldfjcciieaaGreat
open Go.RowKit
theorem H5 {Z:World} {ρ:PH} {L:List bI} {w:World} (p0:Nmb) (eQ:Value) (yD:aH ρ eQ p0.nodes) (eU:Value) (E5:aH ρ eU p0.sizes) (dV:Value) (oH:aH ρ dV p0.parent) (p1:Int) (p2:(List Bool)) (vp2:Value) (hp2:aH ρ vp2 p2) (hp:Hp Z ρ (L) w) (r:Chg) (hm:pK p0 p1 p2=some r):
  Calls Tryz.prog 42 #[(.agg #[eQ,eU,dV]),(Iv p1),vp2] w (Ret fun v w'=>v=(.agg #[(Iv r.op),(Iv r.node),(Iv r.index),(Iv r.count),(Iv r.kind),(.string r.text)])∧Hp Z ρ (L) w'):=by
 refine enter (N:=132) Tryz.func42 rfl rfl [(0,(.agg #[eQ,eU,dV])),(1,(Iv p1)),(2,vp2)] rfl (aY ⟨rfl,rfl,rfl,trivial⟩) fun a hE=>?_
 unfold pK at hm
 refine aF (aA ?_)
 refine iV (wk0 rfl) rfl rfl hE hp rfl (v:=(.agg #[eQ,eU,dV])) rfl ?_
 intro a w b1 hE hp
 have hp:=r1 hp
 refine dH (wk0 rfl) rfl rfl hE hp rfl [(Iv 0),(Iv 0),(Iv 0),(Iv 0),(Iv 0),(.string ByteArray.empty)] (fun w=>by simp[Instr.alloc,go_sem]<;>rfl) ?_
 intro a w b2 hE hp
 have hp:=r2 hp
 refine aB (aF ?_)
 obtain⟨x1,ex1,hm⟩:=bnd hm
 obtain⟨x2,ex2,hm⟩:=bnd hm
 have hp:=hp.drew
 refine fO ([([],At0 Z ρ),([],At1 Z ρ (Pt b1 (.cells #[eQ,eU,dV] 75 (0,0))))]:Facts) (fun a w=>∃y3:Nat,Env 132 [(1,(Iv p1)),(2,vp2),(3,(Pv b1 0)),(6,(Pv b2 0)),(7,(Pv y3 0))] a∧Hp Z ρ (Pt y3 (.cells #[(Iv 2),(Iv (-1)),(Iv 0),(Iv 0),(Iv x1.kind),(.string x2.text)] 58 (0,0))::Pt b2 (.cells #[(Iv 0),(Iv 0),(Iv 0),(Iv 0),(Iv 0),(.string ByteArray.empty)] 58 (0,0))::Pt b1 (.cells #[eQ,eU,dV] 75 (0,0))::L) w) (by kernel_rfl) ⟨fun _=>⟨_,hp⟩,fun _=>⟨_,(hp.get 1 rfl)⟩,trivial⟩ (fun hS=>?_) ?_
 ·
  generalize w.drew=w at hS hp⊢
  refine T0 0 hE hS rfl rfl rfl (by kernel_rfl) (fun _=>xf hE jR rfl rfl) fun a hE hS=>T 1 1 hE hS rfl rfl rfl (by kernel_rfl) (fun _=>xl hE iE 0 rfl rfl rfl rfl) fun a hE hS=>Ts [2] hE hS rfl rfl (by kernel_rfl) fun a hE hS=>?_
  obtain⟨b6,b6o,b6c,b6r,b6k,b6f⟩:=aH.at yD gI ex1
  obtain⟨vb6_kids,rfl,hb6_kids⟩:=NodeAt.opens b6k
  have b6f:AtP ρ b6 b6o [(Iv x1.kind),(.string x1.text),(Iv x1.at_),(Iv x1.fin),vb6_kids]:=b6f
  refine T0 3 hE hS rfl rfl rfl (by kernel_rfl) (fun _=>aO rfl hE rfl rfl b6r) fun a hE hS=>T0 4 hE hS rfl rfl rfl (by kernel_rfl) (fun _=>xf hE wK rfl rfl) fun a hE hS=>T0 5 hE hS rfl rfl rfl (by kernel_rfl) (fun _=>aJ rfl hE rfl (fun w hw=>bG aX (b6f.c 0 rfl w hw))) fun a hE hS=>T0 6 hE hS rfl rfl rfl (by kernel_rfl) (fun _=>xf hE jR rfl rfl) fun a hE hS=>T 7 1 hE hS rfl rfl rfl (by kernel_rfl) (fun _=>xl hE iE 0 rfl rfl rfl rfl) fun a hE hS=>Ts [8] hE hS rfl rfl (by kernel_rfl) fun a hE hS=>?_
  obtain⟨b7,b7o,b7c,b7r,b7k,b7f⟩:=aH.at yD gI ex2
  obtain⟨J5,rfl,hb7_kids⟩:=NodeAt.opens b7k
  have b7f:AtP ρ b7 b7o [(Iv x2.kind),(.string x2.text),(Iv x2.at_),(Iv x2.fin),J5]:=b7f
  refine T0 9 hE hS rfl rfl rfl (by kernel_rfl) (fun _=>aO rfl hE rfl rfl b7r) fun a hE hS=>T0 10 hE hS rfl rfl rfl (by kernel_rfl) (fun _=>xf hE vG rfl rfl) fun a hE hS=>T0 11 hE hS rfl rfl rfl (by kernel_rfl) (fun _=>aJ rfl hE rfl (fun w hw=>bG U5 (b7f.c 1 rfl w hw))) fun a hE hS=>T0 12 hE hS rfl rfl rfl (by kernel_rfl) (v:=(.agg #[(Iv 2),(Iv (-1)),(Iv 0),(Iv 0),(Iv x1.kind),(.string x2.text)])) (fun _=>lN rfl hE [(0,(Iv 2)),(1,(Iv (-1))),(4,(Iv x1.kind)),(5,(.string x2.text))] (by exact⟨⟨rfl,rfl⟩,⟨rfl,rfl⟩,⟨rfl,rfl⟩,⟨rfl,rfl⟩,trivial⟩) (fun w=>by simp[Instr.build,Instr.fill,Value.cells,go_sem])) fun a hE hS=>?_
  refine W1 13 (by kernel_rfl) rfl ?_
  refine dH (wk0 rfl) rfl rfl hE hp rfl [(Iv 0),(Iv 0),(Iv 0),(Iv 0),(Iv 0),(.string ByteArray.empty)] (fun w=>by simp[Instr.alloc,go_sem]<;>rfl) ?_
  intro a w b8 hE hp
  have hp:=r3 hp
  refine aB (aC ⟨gp0 hp,gp 2 hp rfl,trivial⟩ fun hS=>?_)
  refine W1 14 (by kernel_rfl) rfl ?_
  refine aU (wk0 rfl) rfl hE hp rfl rfl rfl 0 rfl vY.size_ rfl (aN ⟨rfl,rfl,rfl,rfl,rfl,rfl,trivial⟩) [(Iv 2),(Iv (-1)),(Iv 0),(Iv 0),(Iv x1.kind),(.string x2.text)] rfl ?_
  intro w hp
  have hp:=r3 hp
  refine aB (aC ⟨gp0 hp,gp 2 hp rfl,trivial⟩ fun hS=>?_)
  exact bP (by kernel_rfl) ⟨_,hE.cut ⟨rfl,rfl,rfl,rfl,rfl,trivial⟩,hp⟩
 rintro a w ⟨y3,hE,hp⟩
 refine aF (aF ?_)
 refine aA (S hE 1 rfl fun a hE=>?_)
 refine V hE hp rfl (dB rfl hE rfl (aH.len hp2 zT)) fun a hE=>S hE 1 rfl fun a hE=>aB ?_
 obtain⟨b9,hc1,hm⟩:=bnd hm
 refine dJ (fun a w=>Env 132 [(1,(Iv p1)),(2,vp2),(3,(Pv b1 0)),(6,(Pv b2 0)),(7,(Pv y3 0))] a∧Hp Z ρ (Pt y3 (.cells #[(Iv 2),(Iv b9),(Iv 0),(Iv 0),(Iv x1.kind),(.string x2.text)] 58 (0,0))::Pt b2 (.cells #[(Iv 0),(Iv 0),(Iv 0),(Iv 0),(Iv 0),(.string ByteArray.empty)] 58 (0,0))::Pt b1 (.cells #[eQ,eU,dV] 75 (0,0))::L) w) ?_ ?_
 ·refine dY hc1 (fun s a w=>Env 132 [(1,(Iv p1)),(2,vp2),(3,(Pv b1 0)),(6,(Pv b2 0)),(7,(Pv y3 0)),(26,vp2),(27,(Iv (p2.length:Int))),(28,(Iv s.1))] a∧Hp Z ρ (Pt y3 (.cells #[(Iv 2),(Iv s.2),(Iv 0),(Iv 0),(Iv x1.kind),(.string x2.text)] 58 (0,0))::Pt b2 (.cells #[(Iv 0),(Iv 0),(Iv 0),(Iv 0),(Iv 0),(.string ByteArray.empty)] 58 (0,0))::Pt b1 (.cells #[eQ,eU,dV] 75 (0,0))::L) w) ?_ ?_
  ·exact⟨hE.cut ⟨rfl,rfl,rfl,rfl,rfl,rfl,rfl,rfl,trivial⟩,hp⟩
  rintro⟨aQ,aT⟩ st a w ⟨hE,hp⟩ hl1
  dsimp only at hE hp hl1
  unfold rG at hl1
  refine aF (aA ?_)
  refine S hE 1 rfl fun a hE=>aB (aF ?_)
  refine dI hE rfl (fun hc2=>?_) (fun hc2=>?_)
  ·replace hl1:=(it hc2).symm.trans hl1
   refine bC (aF ?_)
   refine dN (aF ?_)
   refine aA (S hE 1 rfl fun a hE=>?_)
   obtain⟨x3,ex3,hl1⟩:=bnd hl1
   obtain⟨b10,b10o,b10c,b10r,b10k,b10f⟩:=aH.at hp2 zT ex3
   obtain rfl:b10c=Enc.enc x3:=b10k
   have b10f:AtP ρ b10 b10o [(.bool x3)]:=b10f
   refine V hE hp rfl (aO rfl hE rfl rfl b10r) fun a hE=>V hE hp rfl (aJ rfl hE rfl (fun w hw=>bG aC2 (b10f.c 0 rfl w hw))) fun a hE=>S hE 2 rfl fun a hE=>aB (aF ?_)
   refine aF (aA ?_)
   refine S hE 1 rfl fun a hE=>V hE hp rfl (xf hE nY rfl rfl) fun a hE=>V hE hp rfl (xl hE aV 2 rfl rfl rfl rfl) fun a hE=>S hE 1 rfl fun a hE=>?_
   obtain⟨x4,ex4,hl1⟩:=bnd hl1
   obtain⟨b11,b11o,b11c,b11r,b11k,b11f⟩:=aH.at oH bH ex4
   obtain rfl:b11c=Enc.enc x4:=b11k
   have b11f:AtP ρ b11 b11o [(Iv x4)]:=b11f
   refine V hE hp rfl (aO rfl hE rfl rfl b11r) fun a hE=>V hE hp rfl (aJ rfl hE rfl (fun w hw=>bG aX (b11f.c 0 rfl w hw))) fun a hE=>S hE 1 rfl fun a hE=>aB ?_
   have hE:=hE.cut (E':=[(1,(Iv p1)),(2,vp2),(3,(Pv b1 0)),(6,(Pv b2 0)),(7,(Pv y3 0)),(9,(.bool x3)),(26,vp2),(27,(Iv (p2.length:Int))),(28,(Iv aQ)),(39,(.bool (decide (aQ=x4))))]) ⟨rfl,rfl,rfl,rfl,rfl,rfl,rfl,rfl,rfl,rfl,trivial⟩
   refine dI hE rfl (fun hc3=>?_) (fun hc3=>?_)
   ·replace hl1:=(it hc3).symm.trans hl1
    refine aF (aA ?_)
    refine V hE hp rfl (xf hE sZ rfl rfl) fun a hE=>V hE hp rfl (xl hE aX 0 rfl rfl rfl rfl) fun a hE=>?_
    obtain⟨x5,ex5,hl1⟩:=bnd hl1
    refine V hE hp rfl (bF rfl hE rfl rfl (aK ex5)) fun a hE=>V hE hp rfl (xf hE sZ rfl rfl) fun a hE=>?_
    refine aU (wk0 rfl) rfl hE hp rfl rfl rfl 0 rfl aX.size_ rfl (aN ⟨rfl,trivial⟩) [(Iv 2),(Iv x5),(Iv 0),(Iv 0),(Iv x1.kind),(.string x2.text)] rfl ?_
    intro w hp
    have hp:=r3 hp
    refine aB ?_
    refine dU ?_
    refine⟨_,(oj hl1).symm,fun hbb=>?_⟩
    subst hbb
    exact⟨hE.cut ⟨rfl,rfl,rfl,rfl,rfl,trivial⟩,hp⟩
   replace hl1:=(ie hc3).symm.trans hl1
   refine bC (aF ?_)
   refine aA (S hE 2 rfl fun a hE=>?_)
   obtain⟨m1,hg1,hl1⟩:=bnd hl1
   refine jE [_,_,_,_,_,_,_] (fun a w=>Env 132 [(52,(.bool m1)),(1,(Iv p1)),(2,vp2),(3,(Pv b1 0)),(6,(Pv b2 0)),(7,(Pv y3 0)),(26,vp2),(27,(Iv (p2.length:Int))),(28,(Iv aQ))] a∧Hp Z ρ (Pt y3 (.cells #[(Iv 2),(Iv aT),(Iv 0),(Iv 0),(Iv x1.kind),(.string x2.text)] 58 (0,0))::Pt b2 (.cells #[(Iv 0),(Iv 0),(Iv 0),(Iv 0),(Iv 0),(.string ByteArray.empty)] 58 (0,0))::Pt b1 (.cells #[eQ,eU,dV] 75 (0,0))::L) w) ?_ ?_
   ·rcases Bool.eq_false_or_eq_true x3 with hc4|hc4
    ·
     replace hg1:=(it hc4).symm.trans hg1
     refine G hE hp hc4 rfl (xf hE nY rfl rfl) fun a hE=>G hE hp hc4 rfl (xl hE aV 2 rfl rfl rfl rfl) fun a hE=>Gs hE hc4 rfl rfl fun a hE=>?_
     obtain⟨x6,ex6,hg1⟩:=bnd hg1
     obtain⟨b12,b12o,b12c,b12r,b12k,b12f⟩:=aH.at oH bH ex6
     obtain rfl:b12c=Enc.enc x6:=b12k
     have b12f:AtP ρ b12 b12o [(Iv x6)]:=b12f
     refine G hE hp hc4 rfl (aO rfl hE rfl rfl b12r) fun a hE=>G hE hp hc4 rfl (aJ rfl hE rfl (fun w hw=>bG aX (b12f.c 0 rfl w hw))) fun a hE=>Gs hE hc4 rfl rfl fun a hE=>pk1 hE hc4 rfl rfl rfl rfl fun a hE=>?_
     obtain rfl:=oj hg1
     exact aB ⟨hE.cut ⟨rfl,rfl,rfl,rfl,rfl,rfl,rfl,rfl,rfl,trivial⟩,hp⟩
    replace hg1:=(ie hc4).symm.trans hg1
    refine Gk hE hc4 rfl fun a hE=>Gk hE hc4 rfl fun a hE=>Gk hE hc4 rfl fun a hE=>Gk hE hc4 rfl fun a hE=>Gk hE hc4 rfl fun a hE=>Gk hE hc4 rfl fun a hE=>pk0 hE hc4 rfl rfl rfl rfl fun a hE=>?_
    obtain rfl:=oj hg1
    exact aB ⟨hE.cut ⟨rfl,rfl,rfl,rfl,rfl,rfl,rfl,rfl,rfl,trivial⟩,hp⟩
   rintro a w ⟨hE,hp⟩
   refine aB ?_
   refine dI hE rfl (fun hc5=>?_) (fun hc5=>?_)
   ·replace hl1:=(it hc5).symm.trans hl1
    refine aA (V hE hp rfl (xf hE sZ rfl rfl) fun a hE=>?_)
    refine V hE hp rfl (xl hE aX 0 rfl rfl rfl rfl) fun a hE=>?_
    obtain⟨x7,ex7,hl1⟩:=bnd hl1
    refine V hE hp rfl (bF rfl hE rfl rfl (aK ex7)) fun a hE=>V hE hp rfl (xf hE sZ rfl rfl) fun a hE=>?_
    refine aU (wk0 rfl) rfl hE hp rfl rfl rfl 0 rfl aX.size_ rfl (aN ⟨rfl,trivial⟩) [(Iv 2),(Iv x7),(Iv 0),(Iv 0),(Iv x1.kind),(.string x2.text)] rfl ?_
    intro w hp
    have hp:=r3 hp
    refine aB (aA ?_)
    obtain⟨x8,ex8,hl1⟩:=bnd hl1
    refine V hE hp rfl (bF rfl hE rfl rfl (aK ex8)) fun a hE=>S hE 1 rfl fun a hE=>aB ?_
    exact⟨_,(oj hl1).symm,hE.cut ⟨rfl,rfl,rfl,rfl,rfl,rfl,rfl,rfl,trivial⟩,hp⟩
   replace hl1:=(ie hc5).symm.trans hl1
   refine bC (aA ?_)
   obtain⟨x9,ex9,hl1⟩:=bnd hl1
   refine V hE hp rfl (bF rfl hE rfl rfl (aK ex9)) fun a hE=>S hE 1 rfl fun a hE=>aB ?_
   exact⟨_,(oj hl1).symm,hE.cut ⟨rfl,rfl,rfl,rfl,rfl,rfl,rfl,rfl,trivial⟩,hp⟩
  replace hl1:=(ie hc2).symm.trans hl1
  refine dU ?_
  refine⟨_,(oj hl1).symm,fun hbb=>?_⟩
  subst hbb
  exact⟨hE.cut ⟨rfl,rfl,rfl,rfl,rfl,trivial⟩,hp⟩
 rintro a w ⟨hE,hp⟩
 refine aF (aF ?_)
 refine aA (S hE 1 rfl fun a hE=>?_)
 refine V hE hp rfl (dB rfl hE rfl (aH.len hp2 zT)) fun a hE=>S hE 1 rfl fun a hE=>aB ?_
 obtain⟨b13,hc6,hm⟩:=bnd hm
 refine dJ (fun a w=>Env 132 [(6,(Pv b2 0)),(7,(Pv y3 0))] a∧Hp Z ρ (Pt y3 (.cells #[(Iv 2),(Iv b9),(Iv b13.1),(Iv b13.2),(Iv x1.kind),(.string x2.text)] 58 (0,0))::Pt b2 (.cells #[(Iv 0),(Iv 0),(Iv 0),(Iv 0),(Iv 0),(.string ByteArray.empty)] 58 (0,0))::Pt b1 (.cells #[eQ,eU,dV] 75 (0,0))::L) w) ?_ ?_
 ·refine dY hc6 (fun s a w=>Env 132 [(1,(Iv p1)),(2,vp2),(3,(Pv b1 0)),(6,(Pv b2 0)),(7,(Pv y3 0)),(58,vp2),(59,(Iv (p2.length:Int))),(60,(Iv s.1))] a∧Hp Z ρ (Pt y3 (.cells #[(Iv 2),(Iv b9),(Iv s.2.1),(Iv s.2.2),(Iv x1.kind),(.string x2.text)] 58 (0,0))::Pt b2 (.cells #[(Iv 0),(Iv 0),(Iv 0),(Iv 0),(Iv 0),(.string ByteArray.empty)] 58 (0,0))::Pt b1 (.cells #[eQ,eU,dV] 75 (0,0))::L) w) ?_ ?_
  ·exact⟨hE.cut ⟨rfl,rfl,rfl,rfl,rfl,rfl,rfl,rfl,trivial⟩,hp⟩
  rintro⟨bK,dR,xK⟩ st a w ⟨hE,hp⟩ hl2
  dsimp only at hE hp hl2
  unfold rH at hl2
  refine aF (aA ?_)
  refine S hE 1 rfl fun a hE=>aB (aF ?_)
  refine dI hE rfl (fun hc7=>?_) (fun hc7=>?_)
  ·replace hl2:=(it hc7).symm.trans hl2
   refine bC (aF ?_)
   obtain⟨j1,hj1,hl2⟩:=bnd hl2
   refine dJ (fun a w=>Env 132 [(1,(Iv p1)),(2,vp2),(3,(Pv b1 0)),(6,(Pv b2 0)),(7,(Pv y3 0)),(58,vp2),(59,(Iv (p2.length:Int))),(60,(Iv bK))] a∧Hp Z ρ (Pt y3 (.cells #[(Iv 2),(Iv b9),(Iv j1.1),(Iv j1.2),(Iv x1.kind),(.string x2.text)] 58 (0,0))::Pt b2 (.cells #[(Iv 0),(Iv 0),(Iv 0),(Iv 0),(Iv 0),(.string ByteArray.empty)] 58 (0,0))::Pt b1 (.cells #[eQ,eU,dV] 75 (0,0))::L) w) ?_ ?_
   ·
    refine aF (aA ?_)
    refine S hE 1 rfl fun a hE=>?_
    obtain⟨x10,ex10,hj1⟩:=bnd hj1
    obtain⟨b14,b14o,b14c,b14r,b14k,b14f⟩:=aH.at hp2 zT ex10
    obtain rfl:b14c=Enc.enc x10:=b14k
    have b14f:AtP ρ b14 b14o [(.bool x10)]:=b14f
    refine V hE hp rfl (aO rfl hE rfl rfl b14r) fun a hE=>V hE hp rfl (aJ rfl hE rfl (fun w hw=>bG aC2 (b14f.c 0 rfl w hw))) fun a hE=>S hE 2 rfl fun a hE=>aB (aF ?_)
    refine aF ?_
    refine kZ (by kernel_rfl) (by kernel_rfl) hp ?_
    refine Sq hE 3 rfl fun a hE=>?_
    obtain⟨m2,hg2,hj1⟩:=bnd hj1
    refine q_cut [_,_,_,_,_,_,_,_,_,_,_,_,_,_,_,_,_,_] (fun a=>Env 132 [(85,(.bool m2)),(1,(Iv p1)),(2,vp2),(3,(Pv b1 0)),(6,(Pv b2 0)),(7,(Pv y3 0)),(10,(Iv bK)),(58,vp2),(59,(Iv (p2.length:Int))),(60,(Iv bK))] a) ?_ ?_
    ·rcases Bool.eq_false_or_eq_true (!x10) with hc8|hc8
     ·
      replace hg2:=(it hc8).symm.trans hg2
      refine Gkq hE hc8 rfl fun a hE=>Gkq hE hc8 rfl fun a hE=>Gkq hE hc8 rfl fun a hE=>Gkq hE hc8 rfl fun a hE=>Gkq hE hc8 rfl fun a hE=>Gkq hE hc8 rfl fun a hE=>Gkq hE hc8 rfl fun a hE=>?_
      refine q_skip (wk3 hE rfl rfl rfl) rfl rfl hE ?_
      intro a hE
      refine q_skip (wk3 hE rfl rfl rfl) rfl rfl hE ?_
      intro a hE
      refine q_skip (wk3 hE rfl rfl rfl) rfl rfl hE ?_
      intro a hE
      refine q_skip (wk3 hE rfl rfl rfl) rfl rfl hE ?_
      intro a hE
      refine q_skip (wk3 hE rfl rfl rfl) rfl rfl hE ?_
      intro a hE
      refine q_skip (wk3 hE rfl rfl rfl) rfl rfl hE ?_
      intro a hE
      refine q_skip (wk3 hE rfl rfl rfl) rfl rfl hE ?_
      intro a hE
      refine q_skip (wk3 hE rfl rfl rfl) rfl rfl hE ?_
      intro a hE
      refine q_skip (wk3 hE rfl rfl rfl) rfl rfl hE ?_
      intro a hE
      refine Gkq hE hc8 rfl fun a hE=>?_
      refine Vq hE rfl (v:=(.bool true)) (jZ rfl hE rfl hc8 rfl) fun a hE=>?_
      obtain rfl:=oj hg2
      exact lU (hE.cut ⟨rfl,rfl,rfl,rfl,rfl,rfl,rfl,rfl,rfl,rfl,trivial⟩)
     replace hg2:=(ie hc8).symm.trans hg2
     refine Gq hE hc8 rfl (xf hE nY rfl rfl) fun a hE=>Gq hE hc8 rfl (xl hE aV 2 rfl rfl rfl rfl) fun a hE=>Gq hE hc8 rfl (kY rfl hE rfl) fun a hE=>?_
     obtain⟨x11,ex11,hg2⟩:=bnd hg2
     obtain⟨b15,b15o,b15c,b15r,b15k,b15f⟩:=aH.at oH bH ex11
     obtain rfl:b15c=Enc.enc x11:=b15k
     have b15f:AtP ρ b15 b15o [(Iv x11)]:=b15f
     refine Gq hE hc8 rfl (aO rfl hE rfl rfl b15r) fun a hE=>Gq hE hc8 rfl (aJ rfl hE rfl (fun w hw=>bG aX (b15f.c 0 rfl w hw))) fun a hE=>Gq hE hc8 rfl (ex_geq rfl hE rfl rfl) fun a hE=>Gq hE hc8 rfl (kY rfl hE rfl) fun a hE=>?_
     obtain⟨m3,hg3,hg2⟩:=bnd hg2
     refine q_cut [_,_,_,_,_,_,_,_,_,_] (fun a=>Env 132 [(84,(.bool m3)),(1,(Iv p1)),(2,vp2),(3,(Pv b1 0)),(6,(Pv b2 0)),(7,(Pv y3 0)),(10,(Iv bK)),(58,vp2),(59,(Iv (p2.length:Int))),(60,(Iv bK)),(67,(.bool (!x10))),(68,(Pv b1 2)),(69,dV),(70,(Iv p1)),(71,(Pv b15 b15o)),(72,(Iv x11)),(73,(.bool (decide (0≤x11)))),(74,(.bool (decide (0≤x11))))] a) ?_ ?_
     ·rcases Bool.eq_false_or_eq_true (decide (0≤x11)) with hc9|hc9
      ·
       replace hg3:=(it hc9).symm.trans hg3
       refine Gq hE hc9 rfl (aJ rfl hE rfl (fun w hw=>aW (cs:=[eQ,eU,dV]) dA (Hp.cN 2 rfl 0 _ (aS rfl) w hw))) fun a hE=>Gq hE hc9 rfl (xf hE nY rfl rfl) fun a hE=>Gq hE hc9 rfl (xl hE aV 2 rfl rfl rfl rfl) fun a hE=>Gq hE hc9 rfl (kY rfl hE rfl) fun a hE=>?_
       obtain⟨x12,ex12,hg3⟩:=bnd hg3
       obtain⟨b16,b16o,b16c,b16r,b16k,b16f⟩:=aH.at oH bH ex12
       obtain rfl:b16c=Enc.enc x12:=b16k
       have b16f:AtP ρ b16 b16o [(Iv x12)]:=b16f
       refine Gq hE hc9 rfl (aO rfl hE rfl rfl b16r) fun a hE=>Gq hE hc9 rfl (aJ rfl hE rfl (fun w hw=>bG aX (b16f.c 0 rfl w hw))) fun a hE=>Gq hE hc9 rfl (kY rfl hE rfl) fun a hE=>?_
       obtain⟨x13,ex13,hg3⟩:=bnd hg3
       refine U4 (wk1 hE rfl rfl rfl hc9) rfl rfl hE rfl [(.agg #[eQ,eU,dV]),(Iv x12),(Iv bK)] ⟨rfl,rfl,rfl,trivial⟩ ent45 (v:=(.bool x13)) (fun w hw=>Calls.mono (jQ p0 eQ yD eU E5 dV oH x12 bK hw x13 ex13) fun e w' ⟨v,he,hv,hh⟩=>⟨by rw[he,hv],hh⟩) ?_
       intro a hE
       refine Gq hE hc9 rfl (ex_not rfl hE rfl) fun a hE=>Gq hE hc8 rfl (v:=(.bool (!x13))) (jZ rfl hE rfl hc9 rfl) fun a hE=>?_
       obtain rfl:=oj hg3
       exact lU (hE.cut ⟨rfl,rfl,rfl,rfl,rfl,rfl,rfl,rfl,rfl,rfl,rfl,rfl,rfl,rfl,rfl,rfl,rfl,rfl,trivial⟩)
      replace hg3:=(ie hc9).symm.trans hg3
      refine Gkq hE hc9 rfl fun a hE=>Gkq hE hc9 rfl fun a hE=>Gkq hE hc9 rfl fun a hE=>Gkq hE hc9 rfl fun a hE=>Gkq hE hc9 rfl fun a hE=>Gkq hE hc9 rfl fun a hE=>Gkq hE hc9 rfl fun a hE=>Gkq hE hc9 rfl fun a hE=>Gkq hE hc9 rfl fun a hE=>Gq hE hc8 rfl (v:=(.bool false)) (iQ rfl hE rfl hc9 rfl) fun a hE=>?_
      obtain rfl:=oj hg3
      exact lU (hE.cut ⟨rfl,rfl,rfl,rfl,rfl,rfl,rfl,rfl,rfl,rfl,rfl,rfl,rfl,rfl,rfl,rfl,rfl,rfl,trivial⟩)
     intro a hE
     refine Vq hE rfl (v:=(.bool m3)) (iQ rfl hE rfl hc8 rfl) fun a hE=>?_
     obtain rfl:=oj hg2
     exact lU (hE.cut ⟨rfl,rfl,rfl,rfl,rfl,rfl,rfl,rfl,rfl,rfl,trivial⟩)
    intro a hE
    refine lU fun w hp=>?_
    have hp:=r3 hp
    refine dI hE rfl (fun hc10=>?_) (fun hc10=>?_)
    ·replace hj1:=(it hc10).symm.trans hj1
     refine dU ?_
     obtain rfl:=oj hj1
     exact⟨hE.cut ⟨rfl,rfl,rfl,rfl,rfl,rfl,rfl,rfl,trivial⟩,hp⟩
    replace hj1:=(ie hc10).symm.trans hj1
    refine bC (aF ?_)
    refine aA (V hE hp rfl (xf hE nY rfl rfl) fun a hE=>?_)
    refine V hE hp rfl (xl hE aV 2 rfl rfl rfl rfl) fun a hE=>S hE 1 rfl fun a hE=>?_
    obtain⟨x14,ex14,hj1⟩:=bnd hj1
    obtain⟨b17,b17o,b17c,b17r,b17k,b17f⟩:=aH.at oH bH ex14
    obtain rfl:b17c=Enc.enc x14:=b17k
    have b17f:AtP ρ b17 b17o [(Iv x14)]:=b17f
    refine V hE hp rfl (aO rfl hE rfl rfl b17r) fun a hE=>V hE hp rfl (aJ rfl hE rfl (fun w hw=>bG aX (b17f.c 0 rfl w hw))) fun a hE=>S hE 1 rfl fun a hE=>aB (aF ?_)
    obtain⟨b18,hc11,hj1⟩:=bnd hj1
    refine dJ (fun a w=>Env 132 [(1,(Iv p1)),(2,vp2),(3,(Pv b1 0)),(6,(Pv b2 0)),(7,(Pv y3 0)),(10,(Iv bK)),(12,(Iv b18)),(58,vp2),(59,(Iv (p2.length:Int))),(60,(Iv bK))] a∧Hp Z ρ (Pt y3 (.cells #[(Iv 2),(Iv b9),(Iv dR),(Iv xK),(Iv x1.kind),(.string x2.text)] 58 (0,0))::Pt b2 (.cells #[(Iv 0),(Iv 0),(Iv 0),(Iv 0),(Iv 0),(.string ByteArray.empty)] 58 (0,0))::Pt b1 (.cells #[eQ,eU,dV] 75 (0,0))::L) w) ?_ ?_
    ·refine dY hc11 (fun s a w=>Env 132 [(1,(Iv p1)),(2,vp2),(3,(Pv b1 0)),(6,(Pv b2 0)),(7,(Pv y3 0)),(10,(Iv bK)),(12,(Iv s)),(58,vp2),(59,(Iv (p2.length:Int))),(60,(Iv bK))] a∧Hp Z ρ (Pt y3 (.cells #[(Iv 2),(Iv b9),(Iv dR),(Iv xK),(Iv x1.kind),(.string x2.text)] 58 (0,0))::Pt b2 (.cells #[(Iv 0),(Iv 0),(Iv 0),(Iv 0),(Iv 0),(.string ByteArray.empty)] 58 (0,0))::Pt b1 (.cells #[eQ,eU,dV] 75 (0,0))::L) w) ?_ ?_
     ·exact⟨hE.cut ⟨rfl,rfl,rfl,rfl,rfl,rfl,rfl,rfl,rfl,rfl,trivial⟩,hp⟩
     rintro fK st a w ⟨hE,hp⟩ hl3
     unfold rJ at hl3
     refine aF (aF ?_)
     refine aA (S hE 3 rfl fun a hE=>?_)
     obtain⟨m4,hg4,hl3⟩:=bnd hl3
     refine jE [_,_,_,_,_,_] (fun a w=>Env 132 [(99,(.bool m4)),(1,(Iv p1)),(2,vp2),(3,(Pv b1 0)),(6,(Pv b2 0)),(7,(Pv y3 0)),(10,(Iv bK)),(12,(Iv fK)),(58,vp2),(59,(Iv (p2.length:Int))),(60,(Iv bK))] a∧Hp Z ρ (Pt y3 (.cells #[(Iv 2),(Iv b9),(Iv dR),(Iv xK),(Iv x1.kind),(.string x2.text)] 58 (0,0))::Pt b2 (.cells #[(Iv 0),(Iv 0),(Iv 0),(Iv 0),(Iv 0),(.string ByteArray.empty)] 58 (0,0))::Pt b1 (.cells #[eQ,eU,dV] 75 (0,0))::L) w) ?_ ?_
     ·rcases Bool.eq_false_or_eq_true (decide (0≤fK)) with hc12|hc12
      ·
       replace hg4:=(it hc12).symm.trans hg4
       refine Gs hE hc12 rfl rfl fun a hE=>Gs hE hc12 rfl rfl fun a hE=>?_
       obtain⟨x15,ex15,hg4⟩:=bnd hg4
       obtain⟨b19,b19o,b19c,b19r,b19k,b19f⟩:=aH.at hp2 zT ex15
       obtain rfl:b19c=Enc.enc x15:=b19k
       have b19f:AtP ρ b19 b19o [(.bool x15)]:=b19f
       refine G hE hp hc12 rfl (aO rfl hE rfl rfl b19r) fun a hE=>G hE hp hc12 rfl (aJ rfl hE rfl (fun w hw=>bG aC2 (b19f.c 0 rfl w hw))) fun a hE=>Gs hE hc12 rfl rfl fun a hE=>pk1 hE hc12 rfl rfl rfl rfl fun a hE=>?_
       obtain rfl:=oj hg4
       exact aB ⟨hE.cut ⟨rfl,rfl,rfl,rfl,rfl,rfl,rfl,rfl,rfl,rfl,rfl,trivial⟩,hp⟩
      replace hg4:=(ie hc12).symm.trans hg4
      refine Gk hE hc12 rfl fun a hE=>Gk hE hc12 rfl fun a hE=>Gk hE hc12 rfl fun a hE=>Gk hE hc12 rfl fun a hE=>Gk hE hc12 rfl fun a hE=>pk0 hE hc12 rfl rfl rfl rfl fun a hE=>?_
      obtain rfl:=oj hg4
      exact aB ⟨hE.cut ⟨rfl,rfl,rfl,rfl,rfl,rfl,rfl,rfl,rfl,rfl,rfl,trivial⟩,hp⟩
     rintro a w ⟨hE,hp⟩
     refine aB ?_
     refine dI hE rfl (fun hc13=>?_) (fun hc13=>?_)
     ·replace hl3:=(it hc13).symm.trans hl3
      refine bC (dN ?_)
      refine aA (V hE hp rfl (xf hE nY rfl rfl) fun a hE=>?_)
      refine V hE hp rfl (xl hE aV 2 rfl rfl rfl rfl) fun a hE=>S hE 1 rfl fun a hE=>?_
      obtain⟨x16,ex16,hl3⟩:=bnd hl3
      obtain⟨b20,b20o,b20c,b20r,b20k,b20f⟩:=aH.at oH bH ex16
      obtain rfl:b20c=Enc.enc x16:=b20k
      have b20f:AtP ρ b20 b20o [(Iv x16)]:=b20f
      refine V hE hp rfl (aO rfl hE rfl rfl b20r) fun a hE=>V hE hp rfl (aJ rfl hE rfl (fun w hw=>bG aX (b20f.c 0 rfl w hw))) fun a hE=>S hE 1 rfl fun a hE=>aB ?_
      exact⟨_,(oj hl3).symm,hE.cut ⟨rfl,rfl,rfl,rfl,rfl,rfl,rfl,rfl,rfl,rfl,trivial⟩,hp⟩
     replace hl3:=(ie hc13).symm.trans hl3
     refine dU ?_
     refine⟨_,(oj hl3).symm,fun hbb=>?_⟩
     subst hbb
     exact⟨hE.cut ⟨rfl,rfl,rfl,rfl,rfl,rfl,rfl,rfl,rfl,rfl,trivial⟩,hp⟩
    rintro a w ⟨hE,hp⟩
    refine dN (aF ?_)
    refine aA (S hE 1 rfl fun a hE=>?_)
    refine V hE hp rfl (xf hE nY rfl rfl) fun a hE=>V hE hp rfl (xl hE aV 2 rfl rfl rfl rfl) fun a hE=>S hE 1 rfl fun a hE=>?_
    obtain⟨x17,ex17,hj1⟩:=bnd hj1
    obtain⟨b21,b21o,b21c,b21r,b21k,b21f⟩:=aH.at oH bH ex17
    obtain rfl:b21c=Enc.enc x17:=b21k
    have b21f:AtP ρ b21 b21o [(Iv x17)]:=b21f
    refine V hE hp rfl (aO rfl hE rfl rfl b21r) fun a hE=>V hE hp rfl (aJ rfl hE rfl (fun w hw=>bG aX (b21f.c 0 rfl w hw))) fun a hE=>S hE 2 rfl fun a hE=>aB ?_
    have hE:=hE.cut (E':=[(1,(Iv p1)),(2,vp2),(3,(Pv b1 0)),(6,(Pv b2 0)),(7,(Pv y3 0)),(10,(Iv bK)),(58,vp2),(59,(Iv (p2.length:Int))),(60,(Iv bK)),(105,(.bool (!decide (b18=x17))))]) ⟨rfl,rfl,rfl,rfl,rfl,rfl,rfl,rfl,rfl,rfl,trivial⟩
    refine dI hE rfl (fun hc14=>?_) (fun hc14=>?_)
    ·replace hj1:=(it hc14).symm.trans hj1
     refine bC ?_
     obtain rfl:=oj hj1
     exact⟨hE.cut ⟨rfl,rfl,rfl,rfl,rfl,rfl,rfl,rfl,trivial⟩,hp⟩
    replace hj1:=(ie hc14).symm.trans hj1
    refine aF (aA ?_)
    refine S hE 4 rfl fun a hE=>aB ?_
    refine dI hE rfl (fun hc15=>?_) (fun hc15=>?_)
    ·replace hj1:=(it hc15).symm.trans hj1
     refine aA (V hE hp rfl (xf hE aC8 rfl rfl) fun a hE=>?_)
     refine V hE hp rfl (xl hE aX 0 rfl rfl rfl rfl) fun a hE=>?_
     obtain⟨x18,ex18,hj1⟩:=bnd hj1
     refine V hE hp rfl (bF rfl hE rfl rfl (aK ex18)) fun a hE=>V hE hp rfl (xf hE aC8 rfl rfl) fun a hE=>?_
     refine aU (wk0 rfl) rfl hE hp rfl rfl rfl 0 rfl aX.size_ rfl (aN ⟨rfl,trivial⟩) [(Iv 2),(Iv b9),(Iv x18),(Iv xK),(Iv x1.kind),(.string x2.text)] rfl ?_
     intro w hp
     have hp:=r3 hp
     refine aB ?_
     obtain rfl:=oj hj1
     exact⟨hE.cut ⟨rfl,rfl,rfl,rfl,rfl,rfl,rfl,rfl,trivial⟩,hp⟩
    replace hj1:=(ie hc15).symm.trans hj1
    refine aF (aA ?_)
    refine V hE hp rfl (aJ rfl hE rfl (fun w hw=>aW (cs:=[eQ,eU,dV]) dA (Hp.cN 2 rfl 0 _ (aS rfl) w hw))) fun a hE=>S hE 2 rfl fun a hE=>?_
    obtain⟨x19,ex19,hj1⟩:=bnd hj1
    refine Cl hE rfl rfl ent45 (jQ p0 eQ yD eU E5 dV oH p1 bK hp x19 ex19) ⟨rfl,rfl,rfl,trivial⟩ fun v a w hR hE=>?_
    obtain⟨rfl,hp⟩:=hR
    have hp:=r3 hp
    refine S hE 1 rfl fun a hE=>aB ?_
    refine dI hE rfl (fun hc16=>?_) (fun hc16=>?_)
    ·replace hj1:=(it hc16).symm.trans hj1
     refine aA (V hE hp rfl (xf hE fldty58_3 rfl rfl) fun a hE=>?_)
     refine V hE hp rfl (xl hE aX 0 rfl rfl rfl rfl) fun a hE=>?_
     obtain⟨x20,ex20,hj1⟩:=bnd hj1
     refine V hE hp rfl (bF rfl hE rfl rfl (aK ex20)) fun a hE=>V hE hp rfl (xf hE fldty58_3 rfl rfl) fun a hE=>?_
     refine aU (wk0 rfl) rfl hE hp rfl rfl rfl 0 rfl aX.size_ rfl (aN ⟨rfl,trivial⟩) [(Iv 2),(Iv b9),(Iv dR),(Iv x20),(Iv x1.kind),(.string x2.text)] rfl ?_
     intro w hp
     have hp:=r3 hp
     refine aB ?_
     have hE:=hE.cut (E':=[(1,(Iv p1)),(2,vp2),(3,(Pv b1 0)),(6,(Pv b2 0)),(7,(Pv y3 0)),(58,vp2),(59,(Iv (p2.length:Int))),(60,(Iv bK))]) ⟨rfl,rfl,rfl,rfl,rfl,rfl,rfl,rfl,trivial⟩
     obtain rfl:=oj hj1
     exact⟨hE.cut ⟨rfl,rfl,rfl,rfl,rfl,rfl,rfl,rfl,trivial⟩,hp⟩
    replace hj1:=(ie hc16).symm.trans hj1
    refine bC ?_
    obtain rfl:=oj hj1
    exact⟨hE.cut ⟨rfl,rfl,rfl,rfl,rfl,rfl,rfl,rfl,trivial⟩,hp⟩
   rintro a w ⟨hE,hp⟩
   refine aA ?_
   obtain⟨x21,ex21,hl2⟩:=bnd hl2
   refine V hE hp rfl (bF rfl hE rfl rfl (aK ex21)) fun a hE=>S hE 1 rfl fun a hE=>aB ?_
   exact⟨_,(oj hl2).symm,hE.cut ⟨rfl,rfl,rfl,rfl,rfl,rfl,rfl,rfl,trivial⟩,hp⟩
  replace hl2:=(ie hc7).symm.trans hl2
  refine dU ?_
  refine⟨_,(oj hl2).symm,fun hbb=>?_⟩
  subst hbb
  exact⟨hE.cut ⟨rfl,rfl,trivial⟩,hp⟩
 rintro a w ⟨hE,hp⟩
 refine aF (aA ?_)
 refine V hE hp rfl (aJ rfl hE rfl (fun w hw=>aW (cs:=[(Iv 2),(Iv b9),(Iv b13.1),(Iv b13.2),(Iv x1.kind),(.string x2.text)]) vY (Hp.cN 0 rfl 0 _ (aS rfl) w hw))) fun a hE=>?_
 refine aU (wk0 rfl) rfl hE hp rfl rfl rfl 1 rfl vY.size_ rfl (aN ⟨rfl,rfl,rfl,rfl,rfl,rfl,trivial⟩) [(Iv 2),(Iv b9),(Iv b13.1),(Iv b13.2),(Iv x1.kind),(.string x2.text)] rfl ?_
 intro w hp
 have hp:=r3 hp
 refine aB (dD ?_)
 obtain rfl:=oj hm
 exact retc1 hE rfl rfl (C9 (cs:=[(Iv 2),(Iv b9),(Iv b13.1),(Iv b13.2),(Iv x1.kind),(.string x2.text)]) vY (Hp.cN 1 rfl 0 _ (aS rfl) _ hp)) ⟨_,rfl,rfl,(((((hp.get 2 rfl).drop).get 1 rfl).drop).drop)⟩
theorem aF6 {Z:World} {ρ:PH} {L:List bI} {w:World} (p0:(List Chg)) (vp0:Value) (hp:Hp Z ρ (aG 58 vp0 p0::L) w) (r:(List Chg)) (hm:xQ p0=some r):
  Calls Tryz.prog 43 #[vp0] w (Ret fun v w'=>v= .tuple #[]∧Hp Z ρ (aG 58 vp0 r::L) w'):=by
 refine enter (N:=28) Tryz.func43 rfl rfl [(0,vp0)] rfl (aY ⟨rfl,trivial⟩) fun a hE=>?_
 unfold xQ at hm
 refine aF (aA ?_)
 refine S hE 1 rfl fun a hE=>V hE hp rfl (dB rfl hE rfl (aG.len hp 0 rfl wC)) fun a hE=>?_
 obtain⟨x1,ex1,hm⟩:=bnd hm
 refine V hE hp rfl (dO rfl hE rfl rfl (aK ex1)) fun a hE=>S hE 2 rfl fun a hE=>aB ?_
 obtain⟨b1,hc1,hm⟩:=bnd hm
 refine dJ (fun a w=>Env 28 [] a∧Hp Z ρ (aG 58 vp0 b1::L) w) ?_ ?_
 ·refine dY hc1 (fun s a w=>Env 28 [(0,vp0),(2,(Iv s.1)),(3,(Iv s.2.1))] a∧Hp Z ρ (aG 58 vp0 s.2.2::L) w) ?_ ?_
  ·exact⟨hE.cut ⟨rfl,rfl,rfl,trivial⟩,hp⟩
  rintro⟨aQ,aT,eF⟩ st a w ⟨hE,hp⟩ hl1
  dsimp only at hE hp hl1
  unfold xZ at hl1
  refine aF (aF ?_)
  refine aA (S hE 3 rfl fun a hE=>?_)
  refine aB ?_
  refine dI hE rfl (fun hc2=>?_) (fun hc2=>?_)
  ·replace hl1:=(it hc2).symm.trans hl1
   refine bC (aF ?_)
   refine dN ?_
   obtain⟨x2,ex2,hl1⟩:=bnd hl1
   obtain⟨x3,ex3,hl1⟩:=bnd hl1
   obtain⟨x4,ex4,hl1⟩:=bnd hl1
   obtain⟨x5,ex5,hl1⟩:=bnd hl1
   have hp:=hp.drew
   refine fO ([([],At0 Z ρ),([13,15],At1 Z ρ (aG 58 vp0 eF))]:Facts) (fun a w=>Env 28 [(0,vp0),(2,(Iv aQ)),(3,(Iv aT))] a∧Hp Z ρ (aG 58 vp0 ((eF.set aQ.toNat x2).set aT.toNat x3)::L) w) (by kernel_rfl) ⟨fun _=>⟨_,hp⟩,fun _=>⟨_,(hp.get 0 rfl)⟩,trivial⟩ (fun hS=>?_) ?_
   ·
    generalize w.drew=w at hS hp⊢
    refine Ts [0,1,2,3,4,5] hE hS rfl rfl (by kernel_rfl) fun a hE hS=>?_
    obtain⟨b6,b6o,b6r,b6v,b6f⟩:=aG.at hp 0 rfl wC ex2
    refine T0 6 hE hS rfl rfl rfl (by kernel_rfl) (fun _=>aO rfl hE rfl rfl b6r) fun a hE hS=>T 7 1 hE hS rfl rfl rfl (by kernel_rfl) (fun _=>aJ rfl hE rfl (fun w hw=>aW (cs:=[(Iv x2.op),(Iv x2.node),(Iv x2.index),(Iv x2.count),(Iv x2.kind),(.string x2.text)]) vY (fun j u hj=>b6f j u hj _ _ w (hw.get 0 rfl)))) fun a hE hS=>Ts [8,9] hE hS rfl rfl (by kernel_rfl) fun a hE hS=>?_
    obtain⟨b7,b7o,b7r,b7v,b7f⟩:=aG.at hp 0 rfl wC ex3
    refine T0 10 hE hS rfl rfl rfl (by kernel_rfl) (fun _=>aO rfl hE rfl rfl b7r) fun a hE hS=>T 11 1 hE hS rfl rfl rfl (by kernel_rfl) (fun _=>aJ rfl hE rfl (fun w hw=>aW (cs:=[(Iv x3.op),(Iv x3.node),(Iv x3.index),(Iv x3.count),(Iv x3.kind),(.string x3.text)]) vY (fun j u hj=>b7f j u hj _ _ w (hw.get 0 rfl)))) fun a hE hS=>?_
    obtain⟨b8,b8o,b8r,b8v,b8f⟩:=aG.at hp 0 rfl wC ex4
    refine T0 12 hE hS rfl rfl rfl (by kernel_rfl) (fun _=>aO rfl hE rfl rfl b8r) fun a hE hS=>?_
    refine W1 13 (by kernel_rfl) rfl ?_
    refine yO (wk0 rfl) rfl hE hp rfl rfl rfl 0 rfl ex4 b8v (e':=x2) vY.size_ rfl (fun q z hz=>b8f q z hz _ _ w (hp.get 0 rfl)) ?_
    intro w hp
    have hp:=r1 hp
    refine aB (aC ⟨gp0 hp,dead (by kernel_rfl),trivial⟩ fun hS=>?_)
    obtain⟨b9,b9o,b9r,b9v,b9f⟩:=aG.at hp 0 rfl wC ex5
    refine T0 14 hE hS rfl rfl rfl (by kernel_rfl) (fun _=>aO rfl hE rfl rfl b9r) fun a hE hS=>?_
    refine W1 15 (by kernel_rfl) rfl ?_
    refine yO (wk0 rfl) rfl hE hp rfl rfl rfl 0 rfl ex5 b9v (e':=x3) vY.size_ rfl (fun q z hz=>b9f q z hz _ _ w (hp.get 0 rfl)) ?_
    intro w hp
    have hp:=r1 hp
    refine aB (aC ⟨gp0 hp,dead (by kernel_rfl),trivial⟩ fun hS=>?_)
    exact bP (by kernel_rfl) ⟨hE.cut ⟨rfl,rfl,rfl,trivial⟩,hp⟩
   rintro a w ⟨hE,hp⟩
   refine aA (S hE 1 rfl fun a hE=>?_)
   obtain⟨x6,ex6,hl1⟩:=bnd hl1
   refine V hE hp rfl (bF rfl hE rfl rfl (aK ex6)) fun a hE=>S hE 1 rfl fun a hE=>?_
   obtain⟨x7,ex7,hl1⟩:=bnd hl1
   refine V hE hp rfl (dO rfl hE rfl rfl (aK ex7)) fun a hE=>S hE 2 rfl fun a hE=>aB ?_
   exact⟨_,(oj hl1).symm,hE.cut ⟨rfl,rfl,rfl,trivial⟩,hp⟩
  replace hl1:=(ie hc2).symm.trans hl1
  refine dU ?_
  refine⟨_,(oj hl1).symm,fun hbb=>?_⟩
  subst hbb
  exact⟨hE.cut trivial,hp⟩
 rintro a w ⟨hE,hp⟩
 obtain rfl:=oj hm
 exact X5 hE rfl ⟨_,rfl,rfl,hp⟩
theorem aG9 {Z:World} {ρ:PH} {L:List bI} {w:World} (p0:(List (List Chg))) (vp0:Value) (hp0:aH ρ vp0 p0) (hp:Hp Z ρ (L) w) (r:(List Chg)) (hm:yF p0=some r):
  Calls Tryz.prog 44 #[vp0] w (Ret fun v w'=>∃(vr1:Value),v=vr1∧Hp Z ρ (aG 58 vr1 r::L) w'):=by
 refine enter (N:=36) Tryz.func44 rfl rfl [(0,vp0)] rfl (aY ⟨rfl,trivial⟩) fun a hE=>?_
 unfold yF at hm
 refine aF (aA ?_)
 refine S hE 1 rfl fun a hE=>aB (aF ?_)
 refine aA (S hE 1 rfl fun a hE=>?_)
 refine aB (aF ?_)
 refine aF (aA ?_)
 refine S hE 1 rfl fun a hE=>V hE hp rfl (dB rfl hE rfl (aH.len hp0 slty111)) fun a hE=>S hE 1 rfl fun a hE=>aB ?_
 obtain⟨b1,hc1,hm⟩:=bnd hm
 refine dJ (fun a w=>Env 36 [(0,vp0),(3,(Iv b1))] a∧Hp Z ρ (L) w) ?_ ?_
 ·refine dY hc1 (fun s a w=>Env 36 [(0,vp0),(3,(Iv s.1)),(9,vp0),(10,(Iv (p0.length:Int))),(11,(Iv s.2))] a∧Hp Z ρ (L) w) ?_ ?_
  ·exact⟨hE.cut ⟨rfl,rfl,rfl,rfl,rfl,trivial⟩,hp⟩
  rintro⟨aQ,aT⟩ st a w ⟨hE,hp⟩ hl1
  dsimp only at hE hp hl1
  unfold zB at hl1
  refine aF (aA ?_)
  refine S hE 1 rfl fun a hE=>aB (aF ?_)
  refine dI hE rfl (fun hc2=>?_) (fun hc2=>?_)
  ·replace hl1:=(it hc2).symm.trans hl1
   refine bC (aF ?_)
   refine dN (aF ?_)
   refine aA ?_
   obtain⟨x1,ex1,hl1⟩:=bnd hl1
   obtain⟨b2,b2o,b2c,b2r,b2k,b2f⟩:=aH.at hp0 slty111 ex1
   obtain⟨vb2,rfl,hb2⟩:=b2k
   have b2f:AtP ρ b2 b2o [vb2]:=b2f
   refine V hE hp rfl (aO rfl hE rfl rfl b2r) fun a hE=>V hE hp rfl (aJ rfl hE rfl (fun w hw=>bG varty34 (b2f.c 0 rfl w hw))) fun a hE=>S hE 1 rfl fun a hE=>aB (aF ?_)
   refine aA (S hE 2 rfl fun a hE=>?_)
   refine V hE hp rfl (dB rfl hE rfl (aH.len hb2 wC)) fun a hE=>?_
   obtain⟨x2,ex2,hl1⟩:=bnd hl1
   refine V hE hp rfl (bF rfl hE rfl rfl (aK ex2)) fun a hE=>S hE 1 rfl fun a hE=>aB ?_
   have hE:=hE.cut (E':=[(0,vp0),(3,(Iv x2)),(9,vp0),(10,(Iv (p0.length:Int))),(11,(Iv aT))]) ⟨rfl,rfl,rfl,rfl,rfl,trivial⟩
   refine aF (aA ?_)
   refine S hE 2 rfl fun a hE=>aB ?_
   refine dI hE rfl (fun hc3=>?_) (fun hc3=>?_)
   ·replace hl1:=(it hc3).symm.trans hl1
    refine aA ?_
    cases hl1
   replace hl1:=(ie hc3).symm.trans hl1
   refine bC (aA ?_)
   obtain⟨x3,ex3,hl1⟩:=bnd hl1
   refine V hE hp rfl (bF rfl hE rfl rfl (aK ex3)) fun a hE=>S hE 1 rfl fun a hE=>aB ?_
   exact⟨_,(oj hl1).symm,hE.cut ⟨rfl,rfl,rfl,rfl,rfl,trivial⟩,hp⟩
  replace hl1:=(ie hc2).symm.trans hl1
  refine dU ?_
  refine⟨_,(oj hl1).symm,fun hbb=>?_⟩
  subst hbb
  exact⟨hE.cut ⟨rfl,rfl,trivial⟩,hp⟩
 rintro a w ⟨hE,hp⟩
 refine aF (aA ?_)
 refine S hE 1 rfl fun a hE=>?_
 obtain⟨x4,ex4,hm⟩:=bnd hm
 refine s_call (wk0 rfl) rfl rfl hE rfl [N0,(Iv b1)] ⟨rfl,rfl,trivial⟩ ent65 (c_grow b1 hp x4 ex4) Ret.ret ?_
 intro v1 a w hR hE
 obtain⟨u,hu,hp⟩:=Ret.of hR
 rw[←hu] at hp
 have hp:=r1 hp
 refine S hE 1 rfl fun a hE=>aB (aF ?_)
 refine aF (aA ?_)
 refine S hE 1 rfl fun a hE=>V hE hp rfl (dB rfl hE rfl (aH.len hp0 slty111)) fun a hE=>S hE 1 rfl fun a hE=>aB ?_
 obtain⟨b3,hc4,hm⟩:=bnd hm
 refine dJ (fun a w=>∃(w2:Value),Env 36 [(6,w2)] a∧Hp Z ρ (aG 58 w2 b3::L) w) ?_ ?_
 ·refine dY hc4 (fun s a w=>∃(w2:Value),Env 36 [(6,w2),(25,vp0),(26,(Iv (p0.length:Int))),(27,(Iv s.1))] a∧Hp Z ρ (aG 58 w2 s.2::L) w) ?_ ?_
  ·exact⟨_,hE.cut ⟨rfl,rfl,rfl,rfl,trivial⟩,hp⟩
  rintro⟨bK,dR⟩ st a w ⟨w2,hE,hp⟩ hl2
  dsimp only at hE hp hl2
  unfold zC at hl2
  refine aF (aA ?_)
  refine S hE 1 rfl fun a hE=>aB (aF ?_)
  refine dI hE rfl (fun hc5=>?_) (fun hc5=>?_)
  ·replace hl2:=(it hc5).symm.trans hl2
   refine bC (aF ?_)
   refine dN (aF ?_)
   refine aA ?_
   obtain⟨x5,ex5,hl2⟩:=bnd hl2
   obtain⟨b4,b4o,b4c,b4r,b4k,b4f⟩:=aH.at hp0 slty111 ex5
   obtain⟨vb4,rfl,hb4⟩:=b4k
   have b4f:AtP ρ b4 b4o [vb4]:=b4f
   refine V hE hp rfl (aO rfl hE rfl rfl b4r) fun a hE=>V hE hp rfl (aJ rfl hE rfl (fun w hw=>bG varty34 (b4f.c 0 rfl w hw))) fun a hE=>S hE 1 rfl fun a hE=>aB (aA ?_)
   refine S hE 2 rfl fun a hE=>?_
   obtain⟨x6,ex6,hl2⟩:=bnd hl2
   refine s_apps (wk0 rfl) rfl rfl hE hp rfl wC rfl rfl 0 rfl rfl hb4 ex6 ?_
   intro v2 a w hE hp
   have hp:=r1 hp
   refine S hE 1 rfl fun a hE=>aB (aA ?_)
   obtain⟨x7,ex7,hl2⟩:=bnd hl2
   refine V hE hp rfl (bF rfl hE rfl rfl (aK ex7)) fun a hE=>S hE 1 rfl fun a hE=>aB ?_
   exact⟨_,(oj hl2).symm,_,hE.cut ⟨rfl,rfl,rfl,rfl,trivial⟩,hp⟩
  replace hl2:=(ie hc5).symm.trans hl2
  refine dU ?_
  refine⟨_,(oj hl2).symm,fun hbb=>?_⟩
  subst hbb
  exact⟨_,hE.cut ⟨rfl,trivial⟩,hp⟩
 rintro a w ⟨w2,hE,hp⟩
 refine aF (aA ?_)
 refine S hE 2 rfl fun a hE=>aB (dD ?_)
 obtain rfl:=oj hm
 exact gK hE rfl rfl ⟨_,rfl,_,rfl,hp⟩
theorem c_align_Changes {Z:World} {ρ:PH} {L:List bI} {w:World} (p0:Node) (aI:Value) (aZ:aH ρ aI p0.kids) (p1:Node) (aP:Value) (bU:aH ρ aP p1.kids) (p2:(List Opn)) (vp2:Value) (hp2:aH ρ vp2 p2) (hp:Hp Z ρ (L) w) (r:((List Chg)×Int)) (hm:zQ p0 p1 p2=some r):
  Calls Tryz.prog 16 #[(.agg #[(Iv p0.kind),(.string p0.text),(Iv p0.at_),(Iv p0.fin),aI]),(.agg #[(Iv p1.kind),(.string p1.text),(Iv p1.at_),(Iv p1.fin),aP]),vp2] w (Ret fun v w'=>∃(vr1:Value),v= .tuple #[vr1,(Iv r.2)]∧Hp Z ρ (aG 58 vr1 r.1::L) w'):=by
 refine enter (N:=111) Tryz.func16 rfl rfl [(0,(.agg #[(Iv p0.kind),(.string p0.text),(Iv p0.at_),(Iv p0.fin),aI])),(1,(.agg #[(Iv p1.kind),(.string p1.text),(Iv p1.at_),(Iv p1.fin),aP])),(2,vp2)] rfl (aY ⟨rfl,rfl,rfl,trivial⟩) fun a hE=>?_
 unfold zQ at hm
 refine aF (aA ?_)
 refine iV (wk0 rfl) rfl rfl hE hp rfl (v:=(.agg #[(Iv p0.kind),(.string p0.text),(Iv p0.at_),(Iv p0.fin),aI])) rfl ?_
 intro a w b1 hE hp
 have hp:=r1 hp
 refine iV (wk0 rfl) rfl rfl hE hp rfl (v:=(.agg #[(Iv p1.kind),(.string p1.text),(Iv p1.at_),(Iv p1.fin),aP])) rfl ?_
 intro a w b2 hE hp
 have hp:=r2 hp
 refine S hE 2 rfl fun a hE=>aB (aF ?_)
 refine aF (aA ?_)
 refine V hE hp rfl (aJ rfl hE rfl (fun w hw=>aW (cs:=[(Iv p0.kind),(.string p0.text),(Iv p0.at_),(Iv p0.fin),aI]) bV (Hp.cN 1 rfl 0 _ (aS rfl) w hw))) fun a hE=>V hE hp rfl (aJ rfl hE rfl (fun w hw=>aW (cs:=[(Iv p1.kind),(.string p1.text),(Iv p1.at_),(Iv p1.fin),aP]) bV (Hp.cN 0 rfl 0 _ (aS rfl) w hw))) fun a hE=>S hE 1 rfl fun a hE=>?_
 obtain⟨x1,ex1,hm⟩:=bnd hm
 refine Cl hE rfl rfl ent17 (S9 p0 aI aZ p1 aP bU p2 vp2 hp2 hp x1 ex1) ⟨rfl,rfl,rfl,trivial⟩ fun v a w hR hE=>?_
 obtain⟨rfl,hp⟩:=hR
 have hp:=r2 hp
 refine S hE 1 rfl fun a hE=>aB ?_
 refine dI hE rfl (fun hc1=>?_) (fun hc1=>?_)
 ·replace hm:=(it hc1).symm.trans hm
  refine aF (aA ?_)
  refine S hE 2 rfl fun a hE=>aB (dD ?_)
  have hp:=hp.emp (aG.nil (α:=Chg) 58)
  have hp:=r3 hp
  obtain rfl:=oj hm
  exact yG hE rfl rfl rfl ⟨_,rfl,_,rfl,((((hp.get 2 rfl).drop).get 1 rfl).drop)⟩
 replace hm:=(ie hc1).symm.trans hm
 refine bC (aF ?_)
 obtain⟨x2,ex2,hm⟩:=bnd hm
 obtain⟨x3,ex3,hm⟩:=bnd hm
 have hp:=hp.drew
 refine fO ([([],At0 Z ρ),([],At1 Z ρ (Pt b2 (.cells #[(Iv p1.kind),(.string p1.text),(Iv p1.at_),(Iv p1.fin),aP] 24 (0,0)))),([],At1 Z ρ (Pt b1 (.cells #[(Iv p0.kind),(.string p0.text),(Iv p0.at_),(Iv p0.fin),aI] 24 (0,0))))]:Facts) (fun a w=>∃ρy1:PH,∃y6:Nat,∃y5:Nat,∃yv1:Value,∃yv2:Value,∃yv3:Value,∃yv4:Value,∃yv5:Value,∃yv6:Value,ρ.le ρy1∧aH ρy1 yv1 x3.nodes∧aH ρy1 yv2 x3.sizes∧aH ρy1 yv3 x3.parent∧aH ρy1 yv4 x2.nodes∧aH ρy1 yv5 x2.sizes∧aH ρy1 yv6 x2.parent∧Env 111 [(2,vp2),(8,(Pv y5 0)),(9,(Pv y6 0))] a∧Hp Z ρy1 (Pt y6 (.cells #[yv1,yv2,yv3] 75 (0,0))::Pt y5 (.cells #[yv4,yv5,yv6] 75 (0,0))::Pt b2 (.cells #[(Iv p1.kind),(.string p1.text),(Iv p1.at_),(Iv p1.fin),aP] 24 (0,0))::Pt b1 (.cells #[(Iv p0.kind),(.string p0.text),(Iv p0.at_),(Iv p0.fin),aI] 24 (0,0))::L) w) (by kernel_rfl) ⟨fun _=>⟨_,hp⟩,fun _=>⟨_,(hp.get 0 rfl)⟩,fun _=>⟨_,(hp.get 1 rfl)⟩,trivial⟩ (fun hS=>?_) ?_
 ·
  generalize w.drew=w at hS hp⊢
  refine T 0 2 hE hS rfl rfl rfl (by kernel_rfl) (fun _=>aJ rfl hE rfl (fun w hw=>aW (cs:=[(Iv p0.kind),(.string p0.text),(Iv p0.at_),(Iv p0.fin),aI]) bV (Hp.cN 0 rfl 0 _ (aS rfl) w hw))) fun a hE hS=>T 2 1 hE hS rfl rfl rfl (by kernel_rfl) (fun _=>aJ rfl hE rfl (fun w hw=>aW (cs:=[(Iv p1.kind),(.string p1.text),(Iv p1.at_),(Iv p1.fin),aP]) bV (Hp.cN 0 rfl 0 _ (aS rfl) w hw))) fun a hE hS=>?_
  refine fQ [1,4,5] (by kernel_rfl) rfl ?_
  refine List.forall_mem_cons.2 ⟨?_,List.forall_mem_cons.2 ⟨?_,List.forall_mem_cons.2 ⟨?_,fun _ h=>absurd h (by simp)⟩⟩⟩
  ·
   refine dQ rfl ?_
   refine Cl hE rfl rfl jA (bD p0 aI aZ hp x2 ex2) ⟨rfl,trivial⟩ fun v a w hR hE=>?_
   obtain⟨ρ3,lZ,mD,kL,hle3,rfl,fG,fH,dZ,hp⟩:=hR
   have hp:=r2 hp
   refine aB (aC ⟨fun _=>⟨_,(hp.less hle3)⟩,fun _=>⟨_,((hp.get 0 rfl).less hle3)⟩,fun _=>⟨_,((hp.get 1 rfl).less hle3)⟩,trivial⟩ fun hS=>?_)
   refine fQ [3,4,5] (by kernel_rfl) rfl ?_
   refine List.forall_mem_cons.2 ⟨?_,List.forall_mem_cons.2 ⟨?_,List.forall_mem_cons.2 ⟨?_,fun _ h=>absurd h (by simp)⟩⟩⟩
   ·
    refine dQ rfl ?_
    refine Cl hE rfl rfl jA (bD p1 aP (aH.mono bU hle3) hp x3 ex3) ⟨rfl,trivial⟩ fun v a w hR hE=>?_
    obtain⟨ρ4,rO,rP,pM,hle4,rfl,nD,nG,lC,hp⟩:=hR
    have hp:=r2 hp
    refine aB (aC ⟨fun _=>⟨_,((hp.less hle4).less hle3)⟩,fun _=>⟨_,(((hp.get 0 rfl).less hle4).less hle3)⟩,fun _=>⟨_,(((hp.get 1 rfl).less hle4).less hle3)⟩,trivial⟩ fun hS=>?_)
    refine fQ [4,5] (by kernel_rfl) rfl ?_
    refine List.forall_mem_cons.2 ⟨?_,List.forall_mem_cons.2 ⟨?_,fun _ h=>absurd h (by simp)⟩⟩
    ·
     refine dQ rfl ?_
     refine dH (wk0 rfl) rfl rfl hE hp rfl [N0,N0,N0] (fun w=>by simp[Instr.alloc,go_sem]<;>rfl) ?_
     intro a w b5 hE hp
     have hp:=r3 hp
     refine aB (aC ⟨fun _=>⟨_,((hp.less hle4).less hle3)⟩,fun _=>⟨_,(((hp.get 1 rfl).less hle4).less hle3)⟩,fun _=>⟨_,(((hp.get 2 rfl).less hle4).less hle3)⟩,trivial⟩ fun hS=>?_)
     refine W1 5 (by kernel_rfl) rfl ?_
     refine dH (wk0 rfl) rfl rfl hE hp rfl [N0,N0,N0] (fun w=>by simp[Instr.alloc,go_sem]<;>rfl) ?_
     intro a w b6 hE hp
     have hp:=r4 hp
     refine aB (aC ⟨fun _=>⟨_,((hp.less hle4).less hle3)⟩,fun _=>⟨_,(((hp.get 2 rfl).less hle4).less hle3)⟩,fun _=>⟨_,(((hp.get 3 rfl).less hle4).less hle3)⟩,trivial⟩ fun hS=>?_)
     refine W1 6 (by kernel_rfl) rfl ?_
     refine aU (wk0 rfl) rfl hE hp rfl rfl rfl 1 rfl dA.size_ rfl (aN ⟨(aH.one (aH.mono fG hle4)),(aH.one (aH.mono fH hle4)),(aH.one (aH.mono dZ hle4)),trivial⟩) [lZ,mD,kL] rfl ?_
     intro w hp
     have hp:=r4 hp
     refine aB (aC ⟨fun _=>⟨_,((hp.less hle4).less hle3)⟩,fun _=>⟨_,(((hp.get 2 rfl).less hle4).less hle3)⟩,fun _=>⟨_,(((hp.get 3 rfl).less hle4).less hle3)⟩,trivial⟩ fun hS=>?_)
     refine W1 7 (by kernel_rfl) rfl ?_
     refine aU (wk0 rfl) rfl hE hp rfl rfl rfl 0 rfl dA.size_ rfl (aN ⟨(aH.one nD),(aH.one nG),(aH.one lC),trivial⟩) [rO,rP,pM] rfl ?_
     intro w hp
     have hp:=r4 hp
     refine aB (aC ⟨fun _=>⟨_,((hp.less hle4).less hle3)⟩,fun _=>⟨_,(((hp.get 2 rfl).less hle4).less hle3)⟩,fun _=>⟨_,(((hp.get 3 rfl).less hle4).less hle3)⟩,trivial⟩ fun hS=>?_)
     exact bP (by kernel_rfl) ⟨ρ4,_,_,_,_,_,_,_,_,(PH.le.tr hle3 hle4),nD,nG,lC,(aH.mono fG hle4),(aH.mono fH hle4),(aH.mono dZ hle4),hE.cut ⟨rfl,rfl,rfl,trivial⟩,hp⟩
    refine dQ rfl ?_
    refine dH (wk0 rfl) rfl rfl hE hp rfl [N0,N0,N0] (fun w=>by simp[Instr.alloc,go_sem]<;>rfl) ?_
    intro a w b7 hE hp
    have hp:=r3 hp
    refine aB (aC ⟨fun _=>⟨_,((hp.less hle4).less hle3)⟩,fun _=>⟨_,(((hp.get 1 rfl).less hle4).less hle3)⟩,fun _=>⟨_,(((hp.get 2 rfl).less hle4).less hle3)⟩,trivial⟩ fun hS=>?_)
    refine W1 4 (by kernel_rfl) rfl ?_
    refine dH (wk0 rfl) rfl rfl hE hp rfl [N0,N0,N0] (fun w=>by simp[Instr.alloc,go_sem]<;>rfl) ?_
    intro a w b8 hE hp
    have hp:=r4 hp
    refine aB (aC ⟨fun _=>⟨_,((hp.less hle4).less hle3)⟩,fun _=>⟨_,(((hp.get 2 rfl).less hle4).less hle3)⟩,fun _=>⟨_,(((hp.get 3 rfl).less hle4).less hle3)⟩,trivial⟩ fun hS=>?_)
    refine W1 6 (by kernel_rfl) rfl ?_
    refine aU (wk0 rfl) rfl hE hp rfl rfl rfl 0 rfl dA.size_ rfl (aN ⟨(aH.one (aH.mono fG hle4)),(aH.one (aH.mono fH hle4)),(aH.one (aH.mono dZ hle4)),trivial⟩) [lZ,mD,kL] rfl ?_
    intro w hp
    have hp:=r4 hp
    refine aB (aC ⟨fun _=>⟨_,((hp.less hle4).less hle3)⟩,fun _=>⟨_,(((hp.get 2 rfl).less hle4).less hle3)⟩,fun _=>⟨_,(((hp.get 3 rfl).less hle4).less hle3)⟩,trivial⟩ fun hS=>?_)
    refine W1 7 (by kernel_rfl) rfl ?_
    refine aU (wk0 rfl) rfl hE hp rfl rfl rfl 1 rfl dA.size_ rfl (aN ⟨(aH.one nD),(aH.one nG),(aH.one lC),trivial⟩) [rO,rP,pM] rfl ?_
    intro w hp
    have hp:=r4 hp
    refine aB (aC ⟨fun _=>⟨_,((hp.less hle4).less hle3)⟩,fun _=>⟨_,(((hp.get 2 rfl).less hle4).less hle3)⟩,fun _=>⟨_,(((hp.get 3 rfl).less hle4).less hle3)⟩,trivial⟩ fun hS=>?_)
    exact bP (by kernel_rfl) ⟨ρ4,_,_,_,_,_,_,_,_,(PH.le.tr hle3 hle4),nD,nG,lC,(aH.mono fG hle4),(aH.mono fH hle4),(aH.mono dZ hle4),hE.cut ⟨rfl,rfl,rfl,trivial⟩,((((hp.get 3 rfl).get 3 rfl).get 2 rfl).get 3 rfl)⟩
   ·
    refine dQ rfl ?_
    refine dH (wk0 rfl) rfl rfl hE hp rfl [N0,N0,N0] (fun w=>by simp[Instr.alloc,go_sem]<;>rfl) ?_
    intro a w b9 hE hp
    have hp:=r3 hp
    refine aB (aC ⟨fun _=>⟨_,(hp.less hle3)⟩,fun _=>⟨_,((hp.get 1 rfl).less hle3)⟩,fun _=>⟨_,((hp.get 2 rfl).less hle3)⟩,trivial⟩ fun hS=>?_)
    refine fQ [3,5] (by kernel_rfl) rfl ?_
    refine List.forall_mem_cons.2 ⟨?_,List.forall_mem_cons.2 ⟨?_,fun _ h=>absurd h (by simp)⟩⟩
    ·
     refine dQ rfl ?_
     refine Cl hE rfl rfl jA (bD p1 aP (aH.mono bU hle3) hp x3 ex3) ⟨rfl,trivial⟩ fun v a w hR hE=>?_
     obtain⟨ρ5,vI,vJ,sS,hle5,rfl,rD,rE,pJ,hp⟩:=hR
     have hp:=r3 hp
     refine aB (aC ⟨fun _=>⟨_,((hp.less hle5).less hle3)⟩,fun _=>⟨_,(((hp.get 1 rfl).less hle5).less hle3)⟩,fun _=>⟨_,(((hp.get 2 rfl).less hle5).less hle3)⟩,trivial⟩ fun hS=>?_)
     refine W1 5 (by kernel_rfl) rfl ?_
     refine dH (wk0 rfl) rfl rfl hE hp rfl [N0,N0,N0] (fun w=>by simp[Instr.alloc,go_sem]<;>rfl) ?_
     intro a w b10 hE hp
     have hp:=r4 hp
     refine aB (aC ⟨fun _=>⟨_,((hp.less hle5).less hle3)⟩,fun _=>⟨_,(((hp.get 2 rfl).less hle5).less hle3)⟩,fun _=>⟨_,(((hp.get 3 rfl).less hle5).less hle3)⟩,trivial⟩ fun hS=>?_)
     refine W1 6 (by kernel_rfl) rfl ?_
     refine aU (wk0 rfl) rfl hE hp rfl rfl rfl 1 rfl dA.size_ rfl (aN ⟨(aH.one (aH.mono fG hle5)),(aH.one (aH.mono fH hle5)),(aH.one (aH.mono dZ hle5)),trivial⟩) [lZ,mD,kL] rfl ?_
     intro w hp
     have hp:=r4 hp
     refine aB (aC ⟨fun _=>⟨_,((hp.less hle5).less hle3)⟩,fun _=>⟨_,(((hp.get 2 rfl).less hle5).less hle3)⟩,fun _=>⟨_,(((hp.get 3 rfl).less hle5).less hle3)⟩,trivial⟩ fun hS=>?_)
     refine W1 7 (by kernel_rfl) rfl ?_
     refine aU (wk0 rfl) rfl hE hp rfl rfl rfl 0 rfl dA.size_ rfl (aN ⟨(aH.one rD),(aH.one rE),(aH.one pJ),trivial⟩) [vI,vJ,sS] rfl ?_
     intro w hp
     have hp:=r4 hp
     refine aB (aC ⟨fun _=>⟨_,((hp.less hle5).less hle3)⟩,fun _=>⟨_,(((hp.get 2 rfl).less hle5).less hle3)⟩,fun _=>⟨_,(((hp.get 3 rfl).less hle5).less hle3)⟩,trivial⟩ fun hS=>?_)
     exact bP (by kernel_rfl) ⟨ρ5,_,_,_,_,_,_,_,_,(PH.le.tr hle3 hle5),rD,rE,pJ,(aH.mono fG hle5),(aH.mono fH hle5),(aH.mono dZ hle5),hE.cut ⟨rfl,rfl,rfl,trivial⟩,hp⟩
    refine dQ rfl ?_
    refine dH (wk0 rfl) rfl rfl hE hp rfl [N0,N0,N0] (fun w=>by simp[Instr.alloc,go_sem]<;>rfl) ?_
    intro a w b11 hE hp
    have hp:=r4 hp
    refine aB (aC ⟨fun _=>⟨_,(hp.less hle3)⟩,fun _=>⟨_,((hp.get 2 rfl).less hle3)⟩,fun _=>⟨_,((hp.get 3 rfl).less hle3)⟩,trivial⟩ fun hS=>?_)
    refine W1 3 (by kernel_rfl) rfl ?_
    refine Cl hE rfl rfl jA (bD p1 aP (aH.mono bU hle3) hp x3 ex3) ⟨rfl,trivial⟩ fun v a w hR hE=>?_
    obtain⟨ρ6,X9,Y0,O4,hle6,rfl,wL,wM,uU,hp⟩:=hR
    have hp:=r4 hp
    refine aB (aC ⟨fun _=>⟨_,((hp.less hle6).less hle3)⟩,fun _=>⟨_,(((hp.get 2 rfl).less hle6).less hle3)⟩,fun _=>⟨_,(((hp.get 3 rfl).less hle6).less hle3)⟩,trivial⟩ fun hS=>?_)
    refine W1 6 (by kernel_rfl) rfl ?_
    refine aU (wk0 rfl) rfl hE hp rfl rfl rfl 1 rfl dA.size_ rfl (aN ⟨(aH.one (aH.mono fG hle6)),(aH.one (aH.mono fH hle6)),(aH.one (aH.mono dZ hle6)),trivial⟩) [lZ,mD,kL] rfl ?_
    intro w hp
    have hp:=r4 hp
    refine aB (aC ⟨fun _=>⟨_,((hp.less hle6).less hle3)⟩,fun _=>⟨_,(((hp.get 2 rfl).less hle6).less hle3)⟩,fun _=>⟨_,(((hp.get 3 rfl).less hle6).less hle3)⟩,trivial⟩ fun hS=>?_)
    refine W1 7 (by kernel_rfl) rfl ?_
    refine aU (wk0 rfl) rfl hE hp rfl rfl rfl 0 rfl dA.size_ rfl (aN ⟨(aH.one wL),(aH.one wM),(aH.one uU),trivial⟩) [X9,Y0,O4] rfl ?_
    intro w hp
    have hp:=r4 hp
    refine aB (aC ⟨fun _=>⟨_,((hp.less hle6).less hle3)⟩,fun _=>⟨_,(((hp.get 2 rfl).less hle6).less hle3)⟩,fun _=>⟨_,(((hp.get 3 rfl).less hle6).less hle3)⟩,trivial⟩ fun hS=>?_)
    exact bP (by kernel_rfl) ⟨ρ6,_,_,_,_,_,_,_,_,(PH.le.tr hle3 hle6),wL,wM,uU,(aH.mono fG hle6),(aH.mono fH hle6),(aH.mono dZ hle6),hE.cut ⟨rfl,rfl,rfl,trivial⟩,hp⟩
   refine dQ rfl ?_
   refine dH (wk0 rfl) rfl rfl hE hp rfl [N0,N0,N0] (fun w=>by simp[Instr.alloc,go_sem]<;>rfl) ?_
   intro a w b12 hE hp
   have hp:=r3 hp
   refine aB (aC ⟨fun _=>⟨_,(hp.less hle3)⟩,fun _=>⟨_,((hp.get 1 rfl).less hle3)⟩,fun _=>⟨_,((hp.get 2 rfl).less hle3)⟩,trivial⟩ fun hS=>?_)
   refine fQ [3,4] (by kernel_rfl) rfl ?_
   refine List.forall_mem_cons.2 ⟨?_,List.forall_mem_cons.2 ⟨?_,fun _ h=>absurd h (by simp)⟩⟩
   ·
    refine dQ rfl ?_
    refine Cl hE rfl rfl jA (bD p1 aP (aH.mono bU hle3) hp x3 ex3) ⟨rfl,trivial⟩ fun v a w hR hE=>?_
    obtain⟨ρ7,Y1,Y2,O5,hle7,rfl,wO,wP,uV,hp⟩:=hR
    have hp:=r3 hp
    refine aB (aC ⟨fun _=>⟨_,((hp.less hle7).less hle3)⟩,fun _=>⟨_,(((hp.get 1 rfl).less hle7).less hle3)⟩,fun _=>⟨_,(((hp.get 2 rfl).less hle7).less hle3)⟩,trivial⟩ fun hS=>?_)
    refine W1 4 (by kernel_rfl) rfl ?_
    refine dH (wk0 rfl) rfl rfl hE hp rfl [N0,N0,N0] (fun w=>by simp[Instr.alloc,go_sem]<;>rfl) ?_
    intro a w b13 hE hp
    have hp:=r4 hp
    refine aB (aC ⟨fun _=>⟨_,((hp.less hle7).less hle3)⟩,fun _=>⟨_,(((hp.get 2 rfl).less hle7).less hle3)⟩,fun _=>⟨_,(((hp.get 3 rfl).less hle7).less hle3)⟩,trivial⟩ fun hS=>?_)
    refine W1 6 (by kernel_rfl) rfl ?_
    refine aU (wk0 rfl) rfl hE hp rfl rfl rfl 0 rfl dA.size_ rfl (aN ⟨(aH.one (aH.mono fG hle7)),(aH.one (aH.mono fH hle7)),(aH.one (aH.mono dZ hle7)),trivial⟩) [lZ,mD,kL] rfl ?_
    intro w hp
    have hp:=r4 hp
    refine aB (aC ⟨fun _=>⟨_,((hp.less hle7).less hle3)⟩,fun _=>⟨_,(((hp.get 2 rfl).less hle7).less hle3)⟩,fun _=>⟨_,(((hp.get 3 rfl).less hle7).less hle3)⟩,trivial⟩ fun hS=>?_)
    refine W1 7 (by kernel_rfl) rfl ?_
    refine aU (wk0 rfl) rfl hE hp rfl rfl rfl 1 rfl dA.size_ rfl (aN ⟨(aH.one wO),(aH.one wP),(aH.one uV),trivial⟩) [Y1,Y2,O5] rfl ?_
    intro w hp
    have hp:=r4 hp
    refine aB (aC ⟨fun _=>⟨_,((hp.less hle7).less hle3)⟩,fun _=>⟨_,(((hp.get 2 rfl).less hle7).less hle3)⟩,fun _=>⟨_,(((hp.get 3 rfl).less hle7).less hle3)⟩,trivial⟩ fun hS=>?_)
    exact bP (by kernel_rfl) ⟨ρ7,_,_,_,_,_,_,_,_,(PH.le.tr hle3 hle7),wO,wP,uV,(aH.mono fG hle7),(aH.mono fH hle7),(aH.mono dZ hle7),hE.cut ⟨rfl,rfl,rfl,trivial⟩,((((hp.get 3 rfl).get 3 rfl).get 2 rfl).get 3 rfl)⟩
   refine dQ rfl ?_
   refine dH (wk0 rfl) rfl rfl hE hp rfl [N0,N0,N0] (fun w=>by simp[Instr.alloc,go_sem]<;>rfl) ?_
   intro a w b14 hE hp
   have hp:=r4 hp
   refine aB (aC ⟨fun _=>⟨_,(hp.less hle3)⟩,fun _=>⟨_,((hp.get 2 rfl).less hle3)⟩,fun _=>⟨_,((hp.get 3 rfl).less hle3)⟩,trivial⟩ fun hS=>?_)
   refine W1 3 (by kernel_rfl) rfl ?_
   refine Cl hE rfl rfl jA (bD p1 aP (aH.mono bU hle3) hp x3 ex3) ⟨rfl,trivial⟩ fun v a w hR hE=>?_
   obtain⟨ρ8,G5,G6,yL,hle8,rfl,tH,tJ,qU,hp⟩:=hR
   have hp:=r4 hp
   refine aB (aC ⟨fun _=>⟨_,((hp.less hle8).less hle3)⟩,fun _=>⟨_,(((hp.get 2 rfl).less hle8).less hle3)⟩,fun _=>⟨_,(((hp.get 3 rfl).less hle8).less hle3)⟩,trivial⟩ fun hS=>?_)
   refine W1 6 (by kernel_rfl) rfl ?_
   refine aU (wk0 rfl) rfl hE hp rfl rfl rfl 0 rfl dA.size_ rfl (aN ⟨(aH.one (aH.mono fG hle8)),(aH.one (aH.mono fH hle8)),(aH.one (aH.mono dZ hle8)),trivial⟩) [lZ,mD,kL] rfl ?_
   intro w hp
   have hp:=r4 hp
   refine aB (aC ⟨fun _=>⟨_,((hp.less hle8).less hle3)⟩,fun _=>⟨_,(((hp.get 2 rfl).less hle8).less hle3)⟩,fun _=>⟨_,(((hp.get 3 rfl).less hle8).less hle3)⟩,trivial⟩ fun hS=>?_)
   refine W1 7 (by kernel_rfl) rfl ?_
   refine aU (wk0 rfl) rfl hE hp rfl rfl rfl 1 rfl dA.size_ rfl (aN ⟨(aH.one tH),(aH.one tJ),(aH.one qU),trivial⟩) [G5,G6,yL] rfl ?_
   intro w hp
   have hp:=r4 hp
   refine aB (aC ⟨fun _=>⟨_,((hp.less hle8).less hle3)⟩,fun _=>⟨_,(((hp.get 2 rfl).less hle8).less hle3)⟩,fun _=>⟨_,(((hp.get 3 rfl).less hle8).less hle3)⟩,trivial⟩ fun hS=>?_)
   exact bP (by kernel_rfl) ⟨ρ8,_,_,_,_,_,_,_,_,(PH.le.tr hle3 hle8),tH,tJ,qU,(aH.mono fG hle8),(aH.mono fH hle8),(aH.mono dZ hle8),hE.cut ⟨rfl,rfl,rfl,trivial⟩,((((hp.get 3 rfl).get 3 rfl).get 2 rfl).get 3 rfl)⟩
  ·
   refine dQ rfl ?_
   refine dH (wk0 rfl) rfl rfl hE hp rfl [N0,N0,N0] (fun w=>by simp[Instr.alloc,go_sem]<;>rfl) ?_
   intro a w b15 hE hp
   have hp:=r3 hp
   refine aB (aC ⟨gp0 hp,gp 1 hp rfl,gp 2 hp rfl,trivial⟩ fun hS=>?_)
   refine fQ [1,5] (by kernel_rfl) rfl ?_
   refine List.forall_mem_cons.2 ⟨?_,List.forall_mem_cons.2 ⟨?_,fun _ h=>absurd h (by simp)⟩⟩
   ·
    refine dQ rfl ?_
    refine Cl hE rfl rfl jA (bD p0 aI aZ hp x2 ex2) ⟨rfl,trivial⟩ fun v a w hR hE=>?_
    obtain⟨ρ9,wE,wF,uX,hle9,rfl,oI,oJ,mF,hp⟩:=hR
    have hp:=r3 hp
    refine aB (aC ⟨fun _=>⟨_,(hp.less hle9)⟩,fun _=>⟨_,((hp.get 1 rfl).less hle9)⟩,fun _=>⟨_,((hp.get 2 rfl).less hle9)⟩,trivial⟩ fun hS=>?_)
    refine fQ [3,5] (by kernel_rfl) rfl ?_
    refine List.forall_mem_cons.2 ⟨?_,List.forall_mem_cons.2 ⟨?_,fun _ h=>absurd h (by simp)⟩⟩
    ·
     refine dQ rfl ?_
     refine Cl hE rfl rfl jA (bD p1 aP (aH.mono bU hle9) hp x3 ex3) ⟨rfl,trivial⟩ fun v a w hR hE=>?_
     obtain⟨ρ10,J7,J8,zG,hle10,rfl,uG,uH,rV,hp⟩:=hR
     have hp:=r3 hp
     refine aB (aC ⟨fun _=>⟨_,((hp.less hle10).less hle9)⟩,fun _=>⟨_,(((hp.get 1 rfl).less hle10).less hle9)⟩,fun _=>⟨_,(((hp.get 2 rfl).less hle10).less hle9)⟩,trivial⟩ fun hS=>?_)
     refine W1 5 (by kernel_rfl) rfl ?_
     refine dH (wk0 rfl) rfl rfl hE hp rfl [N0,N0,N0] (fun w=>by simp[Instr.alloc,go_sem]<;>rfl) ?_
     intro a w b16 hE hp
     have hp:=r4 hp
     refine aB (aC ⟨fun _=>⟨_,((hp.less hle10).less hle9)⟩,fun _=>⟨_,(((hp.get 2 rfl).less hle10).less hle9)⟩,fun _=>⟨_,(((hp.get 3 rfl).less hle10).less hle9)⟩,trivial⟩ fun hS=>?_)
     refine W1 6 (by kernel_rfl) rfl ?_
     refine aU (wk0 rfl) rfl hE hp rfl rfl rfl 1 rfl dA.size_ rfl (aN ⟨(aH.one (aH.mono oI hle10)),(aH.one (aH.mono oJ hle10)),(aH.one (aH.mono mF hle10)),trivial⟩) [wE,wF,uX] rfl ?_
     intro w hp
     have hp:=r4 hp
     refine aB (aC ⟨fun _=>⟨_,((hp.less hle10).less hle9)⟩,fun _=>⟨_,(((hp.get 2 rfl).less hle10).less hle9)⟩,fun _=>⟨_,(((hp.get 3 rfl).less hle10).less hle9)⟩,trivial⟩ fun hS=>?_)
     refine W1 7 (by kernel_rfl) rfl ?_
     refine aU (wk0 rfl) rfl hE hp rfl rfl rfl 0 rfl dA.size_ rfl (aN ⟨(aH.one uG),(aH.one uH),(aH.one rV),trivial⟩) [J7,J8,zG] rfl ?_
     intro w hp
     have hp:=r4 hp
     refine aB (aC ⟨fun _=>⟨_,((hp.less hle10).less hle9)⟩,fun _=>⟨_,(((hp.get 2 rfl).less hle10).less hle9)⟩,fun _=>⟨_,(((hp.get 3 rfl).less hle10).less hle9)⟩,trivial⟩ fun hS=>?_)
     exact bP (by kernel_rfl) ⟨ρ10,_,_,_,_,_,_,_,_,(PH.le.tr hle9 hle10),uG,uH,rV,(aH.mono oI hle10),(aH.mono oJ hle10),(aH.mono mF hle10),hE.cut ⟨rfl,rfl,rfl,trivial⟩,hp⟩
    refine dQ rfl ?_
    refine dH (wk0 rfl) rfl rfl hE hp rfl [N0,N0,N0] (fun w=>by simp[Instr.alloc,go_sem]<;>rfl) ?_
    intro a w b17 hE hp
    have hp:=r4 hp
    refine aB (aC ⟨fun _=>⟨_,(hp.less hle9)⟩,fun _=>⟨_,((hp.get 2 rfl).less hle9)⟩,fun _=>⟨_,((hp.get 3 rfl).less hle9)⟩,trivial⟩ fun hS=>?_)
    refine W1 3 (by kernel_rfl) rfl ?_
    refine Cl hE rfl rfl jA (bD p1 aP (aH.mono bU hle9) hp x3 ex3) ⟨rfl,trivial⟩ fun v a w hR hE=>?_
    obtain⟨ρ11,J9,L6,zH,hle11,rfl,uI,uJ,rW,hp⟩:=hR
    have hp:=r4 hp
    refine aB (aC ⟨fun _=>⟨_,((hp.less hle11).less hle9)⟩,fun _=>⟨_,(((hp.get 2 rfl).less hle11).less hle9)⟩,fun _=>⟨_,(((hp.get 3 rfl).less hle11).less hle9)⟩,trivial⟩ fun hS=>?_)
    refine W1 6 (by kernel_rfl) rfl ?_
    refine aU (wk0 rfl) rfl hE hp rfl rfl rfl 1 rfl dA.size_ rfl (aN ⟨(aH.one (aH.mono oI hle11)),(aH.one (aH.mono oJ hle11)),(aH.one (aH.mono mF hle11)),trivial⟩) [wE,wF,uX] rfl ?_
    intro w hp
    have hp:=r4 hp
    refine aB (aC ⟨fun _=>⟨_,((hp.less hle11).less hle9)⟩,fun _=>⟨_,(((hp.get 2 rfl).less hle11).less hle9)⟩,fun _=>⟨_,(((hp.get 3 rfl).less hle11).less hle9)⟩,trivial⟩ fun hS=>?_)
    refine W1 7 (by kernel_rfl) rfl ?_
    refine aU (wk0 rfl) rfl hE hp rfl rfl rfl 0 rfl dA.size_ rfl (aN ⟨(aH.one uI),(aH.one uJ),(aH.one rW),trivial⟩) [J9,L6,zH] rfl ?_
    intro w hp
    have hp:=r4 hp
    refine aB (aC ⟨fun _=>⟨_,((hp.less hle11).less hle9)⟩,fun _=>⟨_,(((hp.get 2 rfl).less hle11).less hle9)⟩,fun _=>⟨_,(((hp.get 3 rfl).less hle11).less hle9)⟩,trivial⟩ fun hS=>?_)
    exact bP (by kernel_rfl) ⟨ρ11,_,_,_,_,_,_,_,_,(PH.le.tr hle9 hle11),uI,uJ,rW,(aH.mono oI hle11),(aH.mono oJ hle11),(aH.mono mF hle11),hE.cut ⟨rfl,rfl,rfl,trivial⟩,hp⟩
   refine dQ rfl ?_
   refine dH (wk0 rfl) rfl rfl hE hp rfl [N0,N0,N0] (fun w=>by simp[Instr.alloc,go_sem]<;>rfl) ?_
   intro a w b18 hE hp
   have hp:=r4 hp
   refine aB (aC ⟨gp0 hp,gp 2 hp rfl,gp 3 hp rfl,trivial⟩ fun hS=>?_)
   refine W1 1 (by kernel_rfl) rfl ?_
   refine Cl hE rfl rfl jA (bD p0 aI aZ hp x2 ex2) ⟨rfl,trivial⟩ fun v a w hR hE=>?_
   obtain⟨ρ12,L8,L9,zI,hle12,rfl,uK,uM,rX,hp⟩:=hR
   have hp:=r4 hp
   refine aB (aC ⟨fun _=>⟨_,(hp.less hle12)⟩,fun _=>⟨_,((hp.get 2 rfl).less hle12)⟩,fun _=>⟨_,((hp.get 3 rfl).less hle12)⟩,trivial⟩ fun hS=>?_)
   refine W1 3 (by kernel_rfl) rfl ?_
   refine Cl hE rfl rfl jA (bD p1 aP (aH.mono bU hle12) hp x3 ex3) ⟨rfl,trivial⟩ fun v a w hR hE=>?_
   obtain⟨ρ13,yH,yI,xB,hle13,rfl,qQ,qR,pF,hp⟩:=hR
   have hp:=r4 hp
   refine aB (aC ⟨fun _=>⟨_,((hp.less hle13).less hle12)⟩,fun _=>⟨_,(((hp.get 2 rfl).less hle13).less hle12)⟩,fun _=>⟨_,(((hp.get 3 rfl).less hle13).less hle12)⟩,trivial⟩ fun hS=>?_)
   refine W1 6 (by kernel_rfl) rfl ?_
   refine aU (wk0 rfl) rfl hE hp rfl rfl rfl 1 rfl dA.size_ rfl (aN ⟨(aH.one (aH.mono uK hle13)),(aH.one (aH.mono uM hle13)),(aH.one (aH.mono rX hle13)),trivial⟩) [L8,L9,zI] rfl ?_
   intro w hp
   have hp:=r4 hp
   refine aB (aC ⟨fun _=>⟨_,((hp.less hle13).less hle12)⟩,fun _=>⟨_,(((hp.get 2 rfl).less hle13).less hle12)⟩,fun _=>⟨_,(((hp.get 3 rfl).less hle13).less hle12)⟩,trivial⟩ fun hS=>?_)
   refine W1 7 (by kernel_rfl) rfl ?_
   refine aU (wk0 rfl) rfl hE hp rfl rfl rfl 0 rfl dA.size_ rfl (aN ⟨(aH.one qQ),(aH.one qR),(aH.one pF),trivial⟩) [yH,yI,xB] rfl ?_
   intro w hp
   have hp:=r4 hp
   refine aB (aC ⟨fun _=>⟨_,((hp.less hle13).less hle12)⟩,fun _=>⟨_,(((hp.get 2 rfl).less hle13).less hle12)⟩,fun _=>⟨_,(((hp.get 3 rfl).less hle13).less hle12)⟩,trivial⟩ fun hS=>?_)
   exact bP (by kernel_rfl) ⟨ρ13,_,_,_,_,_,_,_,_,(PH.le.tr hle12 hle13),qQ,qR,pF,(aH.mono uK hle13),(aH.mono uM hle13),(aH.mono rX hle13),hE.cut ⟨rfl,rfl,rfl,trivial⟩,hp⟩
  refine dQ rfl ?_
  refine dH (wk0 rfl) rfl rfl hE hp rfl [N0,N0,N0] (fun w=>by simp[Instr.alloc,go_sem]<;>rfl) ?_
  intro a w b19 hE hp
  have hp:=r3 hp
  refine aB (aC ⟨gp0 hp,gp 1 hp rfl,gp 2 hp rfl,trivial⟩ fun hS=>?_)
  refine fQ [1,4] (by kernel_rfl) rfl ?_
  refine List.forall_mem_cons.2 ⟨?_,List.forall_mem_cons.2 ⟨?_,fun _ h=>absurd h (by simp)⟩⟩
  ·
   refine dQ rfl ?_
   refine Cl hE rfl rfl jA (bD p0 aI aZ hp x2 ex2) ⟨rfl,trivial⟩ fun v a w hR hE=>?_
   obtain⟨ρ14,wG,wH,uY,hle14,rfl,oK,oL,mG,hp⟩:=hR
   have hp:=r3 hp
   refine aB (aC ⟨fun _=>⟨_,(hp.less hle14)⟩,fun _=>⟨_,((hp.get 1 rfl).less hle14)⟩,fun _=>⟨_,((hp.get 2 rfl).less hle14)⟩,trivial⟩ fun hS=>?_)
   refine fQ [3,4] (by kernel_rfl) rfl ?_
   refine List.forall_mem_cons.2 ⟨?_,List.forall_mem_cons.2 ⟨?_,fun _ h=>absurd h (by simp)⟩⟩
   ·
    refine dQ rfl ?_
    refine Cl hE rfl rfl jA (bD p1 aP (aH.mono bU hle14) hp x3 ex3) ⟨rfl,trivial⟩ fun v a w hR hE=>?_
    obtain⟨ρ15,N7,N8,zJ,hle15,rfl,uN,uO,rY,hp⟩:=hR
    have hp:=r3 hp
    refine aB (aC ⟨fun _=>⟨_,((hp.less hle15).less hle14)⟩,fun _=>⟨_,(((hp.get 1 rfl).less hle15).less hle14)⟩,fun _=>⟨_,(((hp.get 2 rfl).less hle15).less hle14)⟩,trivial⟩ fun hS=>?_)
    refine W1 4 (by kernel_rfl) rfl ?_
    refine dH (wk0 rfl) rfl rfl hE hp rfl [N0,N0,N0] (fun w=>by simp[Instr.alloc,go_sem]<;>rfl) ?_
    intro a w b20 hE hp
    have hp:=r4 hp
    refine aB (aC ⟨fun _=>⟨_,((hp.less hle15).less hle14)⟩,fun _=>⟨_,(((hp.get 2 rfl).less hle15).less hle14)⟩,fun _=>⟨_,(((hp.get 3 rfl).less hle15).less hle14)⟩,trivial⟩ fun hS=>?_)
    refine W1 6 (by kernel_rfl) rfl ?_
    refine aU (wk0 rfl) rfl hE hp rfl rfl rfl 0 rfl dA.size_ rfl (aN ⟨(aH.one (aH.mono oK hle15)),(aH.one (aH.mono oL hle15)),(aH.one (aH.mono mG hle15)),trivial⟩) [wG,wH,uY] rfl ?_
    intro w hp
    have hp:=r4 hp
    refine aB (aC ⟨fun _=>⟨_,((hp.less hle15).less hle14)⟩,fun _=>⟨_,(((hp.get 2 rfl).less hle15).less hle14)⟩,fun _=>⟨_,(((hp.get 3 rfl).less hle15).less hle14)⟩,trivial⟩ fun hS=>?_)
    refine W1 7 (by kernel_rfl) rfl ?_
    refine aU (wk0 rfl) rfl hE hp rfl rfl rfl 1 rfl dA.size_ rfl (aN ⟨(aH.one uN),(aH.one uO),(aH.one rY),trivial⟩) [N7,N8,zJ] rfl ?_
    intro w hp
    have hp:=r4 hp
    refine aB (aC ⟨fun _=>⟨_,((hp.less hle15).less hle14)⟩,fun _=>⟨_,(((hp.get 2 rfl).less hle15).less hle14)⟩,fun _=>⟨_,(((hp.get 3 rfl).less hle15).less hle14)⟩,trivial⟩ fun hS=>?_)
    exact bP (by kernel_rfl) ⟨ρ15,_,_,_,_,_,_,_,_,(PH.le.tr hle14 hle15),uN,uO,rY,(aH.mono oK hle15),(aH.mono oL hle15),(aH.mono mG hle15),hE.cut ⟨rfl,rfl,rfl,trivial⟩,((((hp.get 3 rfl).get 3 rfl).get 2 rfl).get 3 rfl)⟩
   refine dQ rfl ?_
   refine dH (wk0 rfl) rfl rfl hE hp rfl [N0,N0,N0] (fun w=>by simp[Instr.alloc,go_sem]<;>rfl) ?_
   intro a w b21 hE hp
   have hp:=r4 hp
   refine aB (aC ⟨fun _=>⟨_,(hp.less hle14)⟩,fun _=>⟨_,((hp.get 2 rfl).less hle14)⟩,fun _=>⟨_,((hp.get 3 rfl).less hle14)⟩,trivial⟩ fun hS=>?_)
   refine W1 3 (by kernel_rfl) rfl ?_
   refine Cl hE rfl rfl jA (bD p1 aP (aH.mono bU hle14) hp x3 ex3) ⟨rfl,trivial⟩ fun v a w hR hE=>?_
   obtain⟨ρ16,N9,O0,zK,hle16,rfl,uP,uQ,rZ,hp⟩:=hR
   have hp:=r4 hp
   refine aB (aC ⟨fun _=>⟨_,((hp.less hle16).less hle14)⟩,fun _=>⟨_,(((hp.get 2 rfl).less hle16).less hle14)⟩,fun _=>⟨_,(((hp.get 3 rfl).less hle16).less hle14)⟩,trivial⟩ fun hS=>?_)
   refine W1 6 (by kernel_rfl) rfl ?_
   refine aU (wk0 rfl) rfl hE hp rfl rfl rfl 0 rfl dA.size_ rfl (aN ⟨(aH.one (aH.mono oK hle16)),(aH.one (aH.mono oL hle16)),(aH.one (aH.mono mG hle16)),trivial⟩) [wG,wH,uY] rfl ?_
   intro w hp
   have hp:=r4 hp
   refine aB (aC ⟨fun _=>⟨_,((hp.less hle16).less hle14)⟩,fun _=>⟨_,(((hp.get 2 rfl).less hle16).less hle14)⟩,fun _=>⟨_,(((hp.get 3 rfl).less hle16).less hle14)⟩,trivial⟩ fun hS=>?_)
   refine W1 7 (by kernel_rfl) rfl ?_
   refine aU (wk0 rfl) rfl hE hp rfl rfl rfl 1 rfl dA.size_ rfl (aN ⟨(aH.one uP),(aH.one uQ),(aH.one rZ),trivial⟩) [N9,O0,zK] rfl ?_
   intro w hp
   have hp:=r4 hp
   refine aB (aC ⟨fun _=>⟨_,((hp.less hle16).less hle14)⟩,fun _=>⟨_,(((hp.get 2 rfl).less hle16).less hle14)⟩,fun _=>⟨_,(((hp.get 3 rfl).less hle16).less hle14)⟩,trivial⟩ fun hS=>?_)
   exact bP (by kernel_rfl) ⟨ρ16,_,_,_,_,_,_,_,_,(PH.le.tr hle14 hle16),uP,uQ,rZ,(aH.mono oK hle16),(aH.mono oL hle16),(aH.mono mG hle16),hE.cut ⟨rfl,rfl,rfl,trivial⟩,((((hp.get 3 rfl).get 3 rfl).get 2 rfl).get 3 rfl)⟩
  refine dQ rfl ?_
  refine dH (wk0 rfl) rfl rfl hE hp rfl [N0,N0,N0] (fun w=>by simp[Instr.alloc,go_sem]<;>rfl) ?_
  intro a w b22 hE hp
  have hp:=r4 hp
  refine aB (aC ⟨gp0 hp,gp 2 hp rfl,gp 3 hp rfl,trivial⟩ fun hS=>?_)
  refine W1 1 (by kernel_rfl) rfl ?_
  refine Cl hE rfl rfl jA (bD p0 aI aZ hp x2 ex2) ⟨rfl,trivial⟩ fun v a w hR hE=>?_
  obtain⟨ρ17,O1,O3,zL,hle17,rfl,uS,uT,sD,hp⟩:=hR
  have hp:=r4 hp
  refine aB (aC ⟨fun _=>⟨_,(hp.less hle17)⟩,fun _=>⟨_,((hp.get 2 rfl).less hle17)⟩,fun _=>⟨_,((hp.get 3 rfl).less hle17)⟩,trivial⟩ fun hS=>?_)
  refine W1 3 (by kernel_rfl) rfl ?_
  refine Cl hE rfl rfl jA (bD p1 aP (aH.mono bU hle17) hp x3 ex3) ⟨rfl,trivial⟩ fun v a w hR hE=>?_
  obtain⟨ρ18,aE8,aE9,aC4,hle18,rfl,H8,H9,yT,hp⟩:=hR
  have hp:=r4 hp
  refine aB (aC ⟨fun _=>⟨_,((hp.less hle18).less hle17)⟩,fun _=>⟨_,(((hp.get 2 rfl).less hle18).less hle17)⟩,fun _=>⟨_,(((hp.get 3 rfl).less hle18).less hle17)⟩,trivial⟩ fun hS=>?_)
  refine W1 6 (by kernel_rfl) rfl ?_
  refine aU (wk0 rfl) rfl hE hp rfl rfl rfl 0 rfl dA.size_ rfl (aN ⟨(aH.one (aH.mono uS hle18)),(aH.one (aH.mono uT hle18)),(aH.one (aH.mono sD hle18)),trivial⟩) [O1,O3,zL] rfl ?_
  intro w hp
  have hp:=r4 hp
  refine aB (aC ⟨fun _=>⟨_,((hp.less hle18).less hle17)⟩,fun _=>⟨_,(((hp.get 2 rfl).less hle18).less hle17)⟩,fun _=>⟨_,(((hp.get 3 rfl).less hle18).less hle17)⟩,trivial⟩ fun hS=>?_)
  refine W1 7 (by kernel_rfl) rfl ?_
  refine aU (wk0 rfl) rfl hE hp rfl rfl rfl 1 rfl dA.size_ rfl (aN ⟨(aH.one H8),(aH.one H9),(aH.one yT),trivial⟩) [aE8,aE9,aC4] rfl ?_
  intro w hp
  have hp:=r4 hp
  refine aB (aC ⟨fun _=>⟨_,((hp.less hle18).less hle17)⟩,fun _=>⟨_,(((hp.get 2 rfl).less hle18).less hle17)⟩,fun _=>⟨_,(((hp.get 3 rfl).less hle18).less hle17)⟩,trivial⟩ fun hS=>?_)
  exact bP (by kernel_rfl) ⟨ρ18,_,_,_,_,_,_,_,_,(PH.le.tr hle17 hle18),H8,H9,yT,(aH.mono uS hle18),(aH.mono uT hle18),(aH.mono sD hle18),hE.cut ⟨rfl,rfl,rfl,trivial⟩,((((hp.get 3 rfl).get 3 rfl).get 2 rfl).get 3 rfl)⟩
 rintro a w ⟨ρy1,y6,y5,yv1,yv2,yv3,yv4,yv5,yv6,hley1,yh1,yh2,yh3,yh4,yh5,yh6,hE,hp⟩
 refine aF (aA ?_)
 refine S hE 3 rfl fun a hE=>aB (aF ?_)
 refine aA (V hE hp rfl (xf hE jR rfl rfl) fun a hE=>?_)
 refine V hE hp rfl (xl hE iE 0 rfl rfl rfl rfl) fun a hE=>V hE hp rfl (dB rfl hE rfl (aH.len yh1 gI)) fun a hE=>?_
 obtain⟨x4,ex4,hm⟩:=bnd hm
 refine s_make (wk0 rfl) rfl rfl hE hp rfl (El:=4) (bytes:=1) (by kernel_rfl) (false:Bool) (by kernel_rfl) (by kernel_rfl) rfl rfl ex4 ?_
 intro v1 a w hE hp
 have hp:=r5 hp
 refine S hE 1 rfl fun a hE=>aB (aF ?_)
 refine aF (aA ?_)
 refine S hE 1 rfl fun a hE=>V hE hp rfl (dB rfl hE rfl (aH.len (aH.mono hp2 hley1) eP)) fun a hE=>S hE 1 rfl fun a hE=>aB ?_
 have hp:=hp.emp (aG.nil (α:=Chg) 58)
 have hp:=r6 hp
 have hp:=hp.emp (aG.nil (α:=Chg) 58)
 have hp:=r7 hp
 obtain⟨b23,hc2,hm⟩:=bnd hm
 refine dJ (fun a w=>∃(w15:Value) (w14:Value) (w7:Value),Env 111 [(2,vp2),(9,(Pv y6 0)),(10,w15),(11,w14),(12,N0),(13,w7)] a∧Hp Z ρy1 (aG 58 w15 b23.1::aG 58 w14 b23.2.1::aG 4 w7 b23.2.2::Pt y6 (.cells #[yv1,yv2,yv3] 75 (0,0))::Pt y5 (.cells #[yv4,yv5,yv6] 75 (0,0))::Pt b2 (.cells #[(Iv p1.kind),(.string p1.text),(Iv p1.at_),(Iv p1.fin),aP] 24 (0,0))::Pt b1 (.cells #[(Iv p0.kind),(.string p0.text),(Iv p0.at_),(Iv p0.fin),aI] 24 (0,0))::L) w) ?_ ?_
 ·refine dY hc2 (fun s a w=>∃(w15:Value) (w14:Value) (w7:Value),Env 111 [(2,vp2),(8,(Pv y5 0)),(9,(Pv y6 0)),(10,w15),(11,w14),(12,N0),(13,w7),(32,vp2),(33,(Iv (p2.length:Int))),(34,(Iv s.1))] a∧Hp Z ρy1 (aG 58 w15 s.2.1::aG 58 w14 s.2.2.1::aG 4 w7 s.2.2.2::Pt y6 (.cells #[yv1,yv2,yv3] 75 (0,0))::Pt y5 (.cells #[yv4,yv5,yv6] 75 (0,0))::Pt b2 (.cells #[(Iv p1.kind),(.string p1.text),(Iv p1.at_),(Iv p1.fin),aP] 24 (0,0))::Pt b1 (.cells #[(Iv p0.kind),(.string p0.text),(Iv p0.at_),(Iv p0.fin),aI] 24 (0,0))::L) w) ?_ ?_
  ·exact⟨_,_,_,hE.cut ⟨rfl,rfl,rfl,rfl,rfl,rfl,rfl,rfl,rfl,rfl,trivial⟩,hp⟩
  rintro⟨aQ,aT,eF,iD⟩ st a w ⟨w15,w14,w7,hE,hp⟩ hl1
  dsimp only at hE hp hl1
  unfold zV at hl1
  refine aF (aA ?_)
  refine S hE 1 rfl fun a hE=>aB (aF ?_)
  refine dI hE rfl (fun hc3=>?_) (fun hc3=>?_)
  ·replace hl1:=(it hc3).symm.trans hl1
   refine bC (aF ?_)
   refine dN (aF ?_)
   refine aA ?_
   obtain⟨x5,ex5,hl1⟩:=bnd hl1
   obtain⟨b24,b24o,b24c,b24r,b24k,b24f⟩:=aH.at (aH.mono hp2 hley1) eP ex5
   obtain rfl:b24c=Enc.enc x5:=b24k
   have b24f:AtP ρy1 b24 b24o [(Iv x5.a),(Iv x5.b)]:=b24f
   refine V hE hp rfl (aO rfl hE rfl rfl b24r) fun a hE=>V hE hp rfl (aJ rfl hE rfl (fun w hw=>aW (cs:=[(Iv x5.a),(Iv x5.b)]) fB (fun j u hj=>cell_of hw.le (b24f j u hj)))) fun a hE=>?_
   refine dH (wk0 rfl) rfl rfl hE hp rfl [(Iv 0),(Iv 0)] (fun w=>by simp[Instr.alloc,go_sem]<;>rfl) ?_
   intro a w b25 hE hp
   have hp:=r8 hp
   refine aU (wk0 rfl) rfl hE hp rfl rfl rfl 0 rfl fB.size_ rfl (aN ⟨rfl,rfl,trivial⟩) [(Iv x5.a),(Iv x5.b)] rfl ?_
   intro w hp
   have hp:=r8 hp
   refine aB (dN ?_)
   refine aF (aA ?_)
   refine V hE hp rfl (xf hE fD rfl rfl) fun a hE=>V hE hp rfl (xl hE aX 0 rfl rfl rfl rfl) fun a hE=>S hE 2 rfl fun a hE=>aB ?_
   refine dI hE rfl (fun hc4=>?_) (fun hc4=>?_)
   ·replace hl1:=(it hc4).symm.trans hl1
    refine aA (S hE 1 rfl fun a hE=>?_)
    refine V hE hp rfl (xf hE fU rfl rfl) fun a hE=>V hE hp rfl (xl hE aX 0 rfl rfl rfl rfl) fun a hE=>V hE hp rfl (v:=(.agg #[(Iv 1),(Iv x5.a),(Iv 0),(Iv 0),(Iv 0),(.string ByteArray.empty)])) (lN rfl hE [(0,(Iv 1)),(1,(Iv x5.a))] (by exact⟨⟨rfl,rfl⟩,⟨rfl,rfl⟩,trivial⟩) (fun w=>by simp[Instr.build,Instr.fill,Value.cells,go_sem]<;>rfl)) fun a hE=>?_
    refine fE (wk0 rfl) rfl rfl hE hp rfl [(0,(.agg #[(Iv 1),(Iv x5.a),(Iv 0),(Iv 0),(Iv 0),(.string ByteArray.empty)]))] ⟨⟨rfl,rfl⟩,trivial⟩ [(Iv 1),(Iv x5.a),(Iv 0),(Iv 0),(Iv 0),(.string ByteArray.empty)] 58 (fun w=>by simp[Instr.buildSlice,Instr.fill,Value.cells,go_sem]) ?_
    intro a w b26 hE hp
    have hp:=r9 hp
    obtain⟨x6,ex6,hl1⟩:=bnd hl1
    refine fM (wk0 rfl) rfl rfl hE hp rfl wC rfl rfl 3 rfl rfl (l2:=[(Chg.mk 1 x5.a 0 0 0 ByteArray.empty)]) rfl (fun j u hj=>by have:=Hp.cN 0 rfl 0 _ (aS rfl) w hp j u hj;simpa using this) ex6 ?_
    intro v2 a w hE hp
    have hp:=r9 hp
    refine S hE 1 rfl fun a hE=>aB ?_
    have hE:=hE.cut (E':=[(2,vp2),(8,(Pv y5 0)),(9,(Pv y6 0)),(10,w15),(11,v2),(12,N0),(13,w7),(32,vp2),(33,(Iv (p2.length:Int))),(34,(Iv aQ))]) ⟨rfl,rfl,rfl,rfl,rfl,rfl,rfl,rfl,rfl,rfl,trivial⟩
    refine aA ?_
    obtain⟨x7,ex7,hl1⟩:=bnd hl1
    refine V hE hp rfl (bF rfl hE rfl rfl (aK ex7)) fun a hE=>S hE 1 rfl fun a hE=>aB ?_
    exact⟨_,(oj hl1).symm,_,_,_,hE.cut ⟨rfl,rfl,rfl,rfl,rfl,rfl,rfl,rfl,rfl,rfl,trivial⟩,(((hp.get 1 rfl).drop).drop)⟩
   replace hl1:=(ie hc4).symm.trans hl1
   refine aF (aA ?_)
   refine V hE hp rfl (xf hE fU rfl rfl) fun a hE=>V hE hp rfl (xl hE aX 0 rfl rfl rfl rfl) fun a hE=>S hE 2 rfl fun a hE=>aB ?_
   refine dI hE rfl (fun hc5=>?_) (fun hc5=>?_)
   ·replace hl1:=(it hc5).symm.trans hl1
    refine aF (aA ?_)
    refine S hE 1 rfl fun a hE=>V hE hp rfl (xf hE fD rfl rfl) fun a hE=>V hE hp rfl (xl hE aX 0 rfl rfl rfl rfl) fun a hE=>?_
    obtain⟨x8,ex8,hl1⟩:=bnd hl1
    obtain⟨b27,b27o,b27r,b27v,b27f⟩:=aG.at hp 3 rfl zT ex8
    refine V hE hp rfl (aO rfl hE rfl rfl b27r) fun a hE=>?_
    refine aA0 (wk0 rfl) rfl hE hp rfl rfl rfl 3 rfl ex8 b27v 0 (e':=true) aC2.size_ rfl rfl rfl ⟨rfl,rfl⟩ ?_
    intro w hp
    have hp:=r8 hp
    refine aB (aF ?_)
    refine aA (V hE hp rfl (xf hE jR rfl rfl) fun a hE=>?_)
    refine V hE hp rfl (xl hE iE 4 rfl rfl rfl rfl) fun a hE=>V hE hp rfl (xf hE fD rfl rfl) fun a hE=>V hE hp rfl (xl hE aX 0 rfl rfl rfl rfl) fun a hE=>?_
    obtain⟨x9,ex9,hl1⟩:=bnd hl1
    obtain⟨b28,b28o,b28c,b28r,b28k,b28f⟩:=aH.at yh1 gI ex9
    obtain⟨F7,rfl,hb28_kids⟩:=NodeAt.opens b28k
    have b28f:AtP ρy1 b28 b28o [(Iv x9.kind),(.string x9.text),(Iv x9.at_),(Iv x9.fin),F7]:=b28f
    refine V hE hp rfl (aO rfl hE rfl rfl b28r) fun a hE=>V hE hp rfl (aJ rfl hE rfl (fun w hw=>aW (cs:=[(Iv x9.kind),(.string x9.text),(Iv x9.at_),(Iv x9.fin),F7]) bV (fun j u hj=>cell_of hw.le (b28f j u hj)))) fun a hE=>?_
    refine dH (wk0 rfl) rfl rfl hE hp rfl [(Iv 0),(.string ByteArray.empty),(Iv 0),(Iv 0),N0] (fun w=>by simp[Instr.alloc,go_sem]<;>rfl) ?_
    intro a w b29 hE hp
    have hp:=r9 hp
    refine aU (wk0 rfl) rfl hE hp rfl rfl rfl 0 rfl bV.size_ rfl (aN ⟨rfl,rfl,rfl,rfl,(aH.one hb28_kids),trivial⟩) [(Iv x9.kind),(.string x9.text),(Iv x9.at_),(Iv x9.fin),F7] rfl ?_
    intro w hp
    have hp:=r9 hp
    refine aB ?_
    have hE:=hE.cut (E':=[(2,vp2),(8,(Pv y5 0)),(9,(Pv y6 0)),(10,w15),(11,w14),(12,N0),(13,w7),(15,(Pv b25 0)),(16,(Pv b29 0)),(32,vp2),(33,(Iv (p2.length:Int))),(34,(Iv aQ))]) ⟨rfl,rfl,rfl,rfl,rfl,rfl,rfl,rfl,rfl,rfl,rfl,rfl,trivial⟩
    refine aF ?_
    refine kZ (by kernel_rfl) (by kernel_rfl) hp ?_
    refine Vq hE rfl (xf hE jR rfl rfl) fun a hE=>Vq hE rfl (xl hE iE 6 rfl rfl rfl rfl) fun a hE=>Vq hE rfl (xf hE fU rfl rfl) fun a hE=>Vq hE rfl (xl hE aX 1 rfl rfl rfl rfl) fun a hE=>?_
    obtain⟨x10,ex10,hl1⟩:=bnd hl1
    obtain⟨b30,b30o,b30c,b30r,b30k,b30f⟩:=aH.at yh4 gI ex10
    obtain⟨aD7,rfl,hb30_kids⟩:=NodeAt.opens b30k
    have b30f:AtP ρy1 b30 b30o [(Iv x10.kind),(.string x10.text),(Iv x10.at_),(Iv x10.fin),aD7]:=b30f
    refine Vq hE rfl (aO rfl hE rfl rfl b30r) fun a hE=>Vq hE rfl (aJ rfl hE rfl (fun w hw=>aW (cs:=[(Iv x10.kind),(.string x10.text),(Iv x10.at_),(Iv x10.fin),aD7]) bV (fun j u hj=>cell_of hw.le (b30f j u hj)))) fun a hE=>Vq hE rfl (aJ rfl hE rfl (fun w hw=>aW (cs:=[(Iv x9.kind),(.string x9.text),(Iv x9.at_),(Iv x9.fin),F7]) bV (Hp.cN 0 rfl 0 _ (aS rfl) w hw))) fun a hE=>?_
    obtain⟨x11,ex11,hl1⟩:=bnd hl1
    refine U4 (wk0 rfl) rfl rfl hE rfl [(.agg #[(Iv x10.kind),(.string x10.text),(Iv x10.at_),(Iv x10.fin),aD7]),(.agg #[(Iv x9.kind),(.string x9.text),(Iv x9.at_),(Iv x9.fin),F7])] ⟨rfl,rfl,trivial⟩ ent41 (v:=(.bool x11)) (fun w hw=>Calls.mono (xG x10 aD7 hb30_kids x9 F7 hb28_kids hw x11 ex11) fun e w' ⟨v,he,hv,hh⟩=>⟨by rw[he,hv],hh⟩) ?_
    intro a hE
    refine Sq hE 1 rfl fun a hE=>?_
    refine lU fun w hp=>?_
    have hp:=r9 hp
    refine dI hE rfl (fun hc6=>?_) (fun hc6=>?_)
    ·replace hl1:=(it hc6).symm.trans hl1
     refine aA (S hE 1 rfl fun a hE=>?_)
     refine V hE hp rfl (xf hE fU rfl rfl) fun a hE=>V hE hp rfl (xl hE aX 1 rfl rfl rfl rfl) fun a hE=>V hE hp rfl (xf hE wK rfl rfl) fun a hE=>V hE hp rfl (xl hE aX 0 rfl rfl rfl rfl) fun a hE=>V hE hp rfl (xf hE vG rfl rfl) fun a hE=>V hE hp rfl (xl hE U5 0 rfl rfl rfl rfl) fun a hE=>V hE hp rfl (v:=(.agg #[(Iv 0),(Iv x5.a),(Iv 0),(Iv 0),(Iv x9.kind),(.string x9.text)])) (lN rfl hE [(0,(Iv 0)),(1,(Iv x5.a)),(4,(Iv x9.kind)),(5,(.string x9.text))] (by exact⟨⟨rfl,rfl⟩,⟨rfl,rfl⟩,⟨rfl,rfl⟩,⟨rfl,rfl⟩,trivial⟩) (fun w=>by simp[Instr.build,Instr.fill,Value.cells,go_sem])) fun a hE=>?_
     refine fE (wk0 rfl) rfl rfl hE hp rfl [(0,(.agg #[(Iv 0),(Iv x5.a),(Iv 0),(Iv 0),(Iv x9.kind),(.string x9.text)]))] ⟨⟨rfl,rfl⟩,trivial⟩ [(Iv 0),(Iv x5.a),(Iv 0),(Iv 0),(Iv x9.kind),(.string x9.text)] 58 (fun w=>by simp[Instr.buildSlice,Instr.fill,Value.cells,go_sem]) ?_
     intro a w b31 hE hp
     have hp:=r10 hp
     obtain⟨x12,ex12,hl1⟩:=bnd hl1
     refine fM (wk0 rfl) rfl rfl hE hp rfl wC rfl rfl 3 rfl rfl (l2:=[(Chg.mk 0 x5.a 0 0 x9.kind x9.text)]) rfl (fun j u hj=>by have:=Hp.cN 0 rfl 0 _ (aS rfl) w hp j u hj;simpa using this) ex12 ?_
     intro v3 a w hE hp
     have hp:=r10 hp
     refine S hE 1 rfl fun a hE=>aB ?_
     have hE:=hE.cut (E':=[(2,vp2),(8,(Pv y5 0)),(9,(Pv y6 0)),(10,v3),(11,w14),(12,N0),(13,w7),(32,vp2),(33,(Iv (p2.length:Int))),(34,(Iv aQ))]) ⟨rfl,rfl,rfl,rfl,rfl,rfl,rfl,rfl,rfl,rfl,trivial⟩
     refine aA ?_
     obtain⟨x13,ex13,hl1⟩:=bnd hl1
     refine V hE hp rfl (bF rfl hE rfl rfl (aK ex13)) fun a hE=>S hE 1 rfl fun a hE=>aB ?_
     exact⟨_,(oj hl1).symm,_,_,_,hE.cut ⟨rfl,rfl,rfl,rfl,rfl,rfl,rfl,rfl,rfl,rfl,trivial⟩,(((((hp.get 2 rfl).drop).get 1 rfl).drop).drop)⟩
    replace hl1:=(ie hc6).symm.trans hl1
    refine bC (aA ?_)
    obtain⟨x14,ex14,hl1⟩:=bnd hl1
    refine V hE hp rfl (bF rfl hE rfl rfl (aK ex14)) fun a hE=>S hE 1 rfl fun a hE=>aB ?_
    exact⟨_,(oj hl1).symm,_,_,_,hE.cut ⟨rfl,rfl,rfl,rfl,rfl,rfl,rfl,rfl,rfl,rfl,trivial⟩,(((hp.get 1 rfl).drop).drop)⟩
   replace hl1:=(ie hc5).symm.trans hl1
   refine bC (aA ?_)
   obtain⟨x15,ex15,hl1⟩:=bnd hl1
   refine V hE hp rfl (bF rfl hE rfl rfl (aK ex15)) fun a hE=>S hE 1 rfl fun a hE=>aB ?_
   exact⟨_,(oj hl1).symm,_,_,_,hE.cut ⟨rfl,rfl,rfl,rfl,rfl,rfl,rfl,rfl,rfl,rfl,trivial⟩,(hp.drop)⟩
  replace hl1:=(ie hc3).symm.trans hl1
  refine dU ?_
  refine⟨_,(oj hl1).symm,fun hbb=>?_⟩
  subst hbb
  exact⟨_,_,_,hE.cut ⟨rfl,rfl,rfl,rfl,rfl,rfl,trivial⟩,hp⟩
 rintro a w ⟨w15,w14,w7,hE,hp⟩
 refine aF (aF ?_)
 refine aA (S hE 1 rfl fun a hE=>?_)
 refine V hE hp rfl (dB rfl hE rfl (aH.len (aH.mono hp2 hley1) eP)) fun a hE=>S hE 1 rfl fun a hE=>aB ?_
 have hp:=hp.emp (aG.nil (α:=Chg) 58)
 have hp:=r8 hp
 obtain⟨b32,hc7,hm⟩:=bnd hm
 refine dJ (fun a w=>∃(w27:Value) (w7:Value),Env 111 [(10,w15),(11,w14),(12,w27)] a∧Hp Z ρy1 (aG 58 w27 b32.1::aG 58 w15 b23.1::aG 58 w14 b23.2.1::aG 4 w7 b32.2::Pt y6 (.cells #[yv1,yv2,yv3] 75 (0,0))::Pt y5 (.cells #[yv4,yv5,yv6] 75 (0,0))::Pt b2 (.cells #[(Iv p1.kind),(.string p1.text),(Iv p1.at_),(Iv p1.fin),aP] 24 (0,0))::Pt b1 (.cells #[(Iv p0.kind),(.string p0.text),(Iv p0.at_),(Iv p0.fin),aI] 24 (0,0))::L) w) ?_ ?_
 ·refine dY hc7 (fun s a w=>∃(w27:Value) (w7:Value),Env 111 [(9,(Pv y6 0)),(10,w15),(11,w14),(12,w27),(13,w7),(82,vp2),(83,(Iv (p2.length:Int))),(84,(Iv s.1))] a∧Hp Z ρy1 (aG 58 w27 s.2.1::aG 58 w15 b23.1::aG 58 w14 b23.2.1::aG 4 w7 s.2.2::Pt y6 (.cells #[yv1,yv2,yv3] 75 (0,0))::Pt y5 (.cells #[yv4,yv5,yv6] 75 (0,0))::Pt b2 (.cells #[(Iv p1.kind),(.string p1.text),(Iv p1.at_),(Iv p1.fin),aP] 24 (0,0))::Pt b1 (.cells #[(Iv p0.kind),(.string p0.text),(Iv p0.at_),(Iv p0.fin),aI] 24 (0,0))::L) w) ?_ ?_
  ·exact⟨_,_,hE.cut ⟨rfl,rfl,rfl,rfl,rfl,rfl,rfl,rfl,trivial⟩,hp⟩
  rintro⟨bK,dR,xK⟩ st a w ⟨w27,w7,hE,hp⟩ hl2
  dsimp only at hE hp hl2
  unfold zW at hl2
  refine aF (aA ?_)
  refine S hE 1 rfl fun a hE=>aB (aF ?_)
  refine dI hE rfl (fun hc8=>?_) (fun hc8=>?_)
  ·replace hl2:=(it hc8).symm.trans hl2
   refine bC (aF ?_)
   refine dN (aF ?_)
   refine aA ?_
   obtain⟨x16,ex16,hl2⟩:=bnd hl2
   obtain⟨b33,b33o,b33c,b33r,b33k,b33f⟩:=aH.at (aH.mono hp2 hley1) eP ex16
   obtain rfl:b33c=Enc.enc x16:=b33k
   have b33f:AtP ρy1 b33 b33o [(Iv x16.a),(Iv x16.b)]:=b33f
   refine V hE hp rfl (aO rfl hE rfl rfl b33r) fun a hE=>V hE hp rfl (aJ rfl hE rfl (fun w hw=>aW (cs:=[(Iv x16.a),(Iv x16.b)]) fB (fun j u hj=>cell_of hw.le (b33f j u hj)))) fun a hE=>?_
   refine dH (wk0 rfl) rfl rfl hE hp rfl [(Iv 0),(Iv 0)] (fun w=>by simp[Instr.alloc,go_sem]<;>rfl) ?_
   intro a w b34 hE hp
   have hp:=r9 hp
   refine aU (wk0 rfl) rfl hE hp rfl rfl rfl 0 rfl fB.size_ rfl (aN ⟨rfl,rfl,trivial⟩) [(Iv x16.a),(Iv x16.b)] rfl ?_
   intro w hp
   have hp:=r9 hp
   refine aB (aF ?_)
   refine aA (V hE hp rfl (xf hE fU rfl rfl) fun a hE=>?_)
   refine V hE hp rfl (xl hE aX 0 rfl rfl rfl rfl) fun a hE=>S hE 1 rfl fun a hE=>aB ?_
   refine dI hE rfl (fun hc9=>?_) (fun hc9=>?_)
   ·replace hl2:=(it hc9).symm.trans hl2
    refine aF (aA ?_)
    refine S hE 1 rfl fun a hE=>V hE hp rfl (aJ rfl hE rfl (fun w hw=>aW (cs:=[yv1,yv2,yv3]) dA (Hp.cN 5 rfl 0 _ (aS rfl) w hw))) fun a hE=>V hE hp rfl (xf hE fD rfl rfl) fun a hE=>V hE hp rfl (xl hE aX 0 rfl rfl rfl rfl) fun a hE=>S hE 1 rfl fun a hE=>?_
    obtain⟨k1,k1a,k1d,k1h⟩:=(hp.get 4 rfl).lend
    obtain⟨x17,ex17,hl2⟩:=bnd hl2
    refine Cl hE rfl rfl ent42 (H5 x3 yv1 (aH.mono yh1 (PH.le_un _ _)) yv2 (aH.mono yh2 (PH.le_un _ _)) yv3 (aH.mono yh3 (PH.le_un _ _)) x16.b xK w7 (aG.ro k1d k1a) k1h x17 ex17) ⟨rfl,rfl,rfl,trivial⟩ fun v a w hR hE=>?_
    obtain⟨rfl,hp⟩:=hR
    have hp:=Hp.back k1a k1d hp
    have hp:=r9 hp
    refine fE (wk0 rfl) rfl rfl hE hp rfl [(0,(.agg #[(Iv x17.op),(Iv x17.node),(Iv x17.index),(Iv x17.count),(Iv x17.kind),(.string x17.text)]))] ⟨⟨rfl,rfl⟩,trivial⟩ [(Iv x17.op),(Iv x17.node),(Iv x17.index),(Iv x17.count),(Iv x17.kind),(.string x17.text)] 58 (fun w=>by simp[Instr.buildSlice,Instr.fill,Value.cells,go_sem]) ?_
    intro a w b35 hE hp
    have hp:=r10 hp
    obtain⟨x18,ex18,hl2⟩:=bnd hl2
    refine fM (wk0 rfl) rfl rfl hE hp rfl wC rfl rfl 3 rfl rfl (l2:=[x17]) rfl (fun j u hj=>by have:=Hp.cN 0 rfl 0 _ (aS rfl) w hp j u hj;simpa using this) ex18 ?_
    intro v4 a w hE hp
    have hp:=r10 hp
    refine S hE 1 rfl fun a hE=>aB ?_
    have hE:=hE.cut (E':=[(9,(Pv y6 0)),(10,w15),(11,w14),(12,v4),(13,w7),(18,(Pv b34 0)),(82,vp2),(83,(Iv (p2.length:Int))),(84,(Iv bK))]) ⟨rfl,rfl,rfl,rfl,rfl,rfl,rfl,rfl,rfl,trivial⟩
    refine aA (S hE 1 rfl fun a hE=>?_)
    refine V hE hp rfl (xf hE fD rfl rfl) fun a hE=>V hE hp rfl (xl hE aX 2 rfl rfl rfl rfl) fun a hE=>?_
    obtain⟨x19,ex19,hl2⟩:=bnd hl2
    obtain⟨b36,b36o,b36r,b36v,b36f⟩:=aG.at hp 1 rfl zT ex19
    refine V hE hp rfl (aO rfl hE rfl rfl b36r) fun a hE=>?_
    refine aA0 (wk0 rfl) rfl hE hp rfl rfl rfl 1 rfl ex19 b36v 0 (e':=true) aC2.size_ rfl rfl rfl ⟨rfl,rfl⟩ ?_
    intro w hp
    have hp:=r10 hp
    refine aB (aA ?_)
    obtain⟨x20,ex20,hl2⟩:=bnd hl2
    refine V hE hp rfl (bF rfl hE rfl rfl (aK ex20)) fun a hE=>S hE 1 rfl fun a hE=>aB ?_
    exact⟨_,(oj hl2).symm,_,_,hE.cut ⟨rfl,rfl,rfl,rfl,rfl,rfl,rfl,rfl,trivial⟩,((((((((((((hp.get 9 rfl).get 9 rfl).get 9 rfl).get 9 rfl).get 5 rfl).get 9 rfl).get 9 rfl).get 9 rfl).get 9 rfl).drop).get 8 rfl).drop)⟩
   replace hl2:=(ie hc9).symm.trans hl2
   refine bC (aA ?_)
   obtain⟨x21,ex21,hl2⟩:=bnd hl2
   refine V hE hp rfl (bF rfl hE rfl rfl (aK ex21)) fun a hE=>S hE 1 rfl fun a hE=>aB ?_
   exact⟨_,(oj hl2).symm,_,_,hE.cut ⟨rfl,rfl,rfl,rfl,rfl,rfl,rfl,rfl,trivial⟩,(hp.drop)⟩
  replace hl2:=(ie hc8).symm.trans hl2
  refine dU ?_
  refine⟨_,(oj hl2).symm,fun hbb=>?_⟩
  subst hbb
  exact⟨_,_,hE.cut ⟨rfl,rfl,rfl,trivial⟩,hp⟩
 rintro a w ⟨w27,w7,hE,hp⟩
 refine aF (aA ?_)
 refine S hE 1 rfl fun a hE=>?_
 obtain⟨x22,ex22,hm⟩:=bnd hm
 refine Cl hE rfl rfl ent43 (aF6 b23.2.1 w14 (hp.get 2 rfl) x22 ex22) ⟨rfl,trivial⟩ fun v a w hR hE=>?_
 obtain⟨rfl,hp⟩:=hR
 have hp:=r8 hp
 refine aB (aF ?_)
 refine aA (S hE 3 rfl fun a hE=>?_)
 refine fE (wk0 rfl) rfl rfl hE hp rfl [(0,w15),(1,w14),(2,w27)] ⟨⟨rfl,rfl⟩,⟨rfl,rfl⟩,⟨rfl,rfl⟩,trivial⟩ [w15,w14,w27] 34 (fun w=>by have hc0:=aG.cells hp 2 rfl;simp only[Value.cells] at hc0;have hc1:=aG.cells hp 0 rfl;simp only[Value.cells] at hc1;have hc2:=aG.cells hp 1 rfl;simp only[Value.cells] at hc2;simp[Instr.buildSlice,Instr.fill,Value.cells,hc0,hc1,hc2,go_sem]) ?_
 intro a w b37 hE hp
 have hp:=r9 hp
 obtain⟨k2,k2a,k2d,hp⟩:=(hp.get 3 rfl).lend
 have f1:aH (ρy1.un k2) w15 b23.1:=aG.ro k2d k2a
 have hp:=r8 hp
 obtain⟨k3,k3a,k3d,hp⟩:=(hp.get 1 rfl).lend
 have f2:aH ((ρy1.un k2).un k3) w14 x22:=aG.ro k3d k3a
 have hp:Hp Z ((ρy1.un k2).un k3) (_::_::_::_::_::_::_::L) w:=hp
 obtain⟨k4,k4a,k4d,hp⟩:=(hp.get 1 rfl).lend
 have f3:aH (((ρy1.un k2).un k3).un k4) w27 b32.1:=aG.ro k4d k4a
 have hp:Hp Z (((ρy1.un k2).un k3).un k4) (_::_::_::_::_::_::L) w:=hp
 obtain⟨k5,k5a,k5d,hp⟩:=(hp.get 0 rfl).lend
 have f4:aH ((((ρy1.un k2).un k3).un k4).un k5) (.slice (some ⟨b37,0,none⟩) 3 3) ([b23.1,x22,b32.1]:List (List Chg)):=aH.of_all (l:=(([b23.1,x22,b32.1]:List (List Chg)))) k5d k5a ⟨_,_,rfl,⟨_,rfl,((aH.mono (aH.mono (aH.mono f1 (PH.le_un _ k3)) (PH.le_un _ k4)) (PH.le_un _ k5)))⟩,⟨_,_,rfl,⟨_,rfl,((aH.mono (aH.mono f2 (PH.le_un _ k4)) (PH.le_un _ k5)))⟩,⟨_,_,rfl,⟨_,rfl,((aH.mono f3 (PH.le_un _ k5)))⟩,rfl⟩⟩⟩
 have hp:Hp Z ((((ρy1.un k2).un k3).un k4).un k5) (_::_::_::_::_::L) w:=hp
 obtain⟨x23,ex23,hm⟩:=bnd hm
 refine s_call (wk0 rfl) rfl rfl hE rfl [(.slice (some ⟨b37,0,none⟩) 3 3)] ⟨rfl,trivial⟩ ent44 (aG9 ([b23.1,x22,b32.1]:List (List Chg)) (.slice (some ⟨b37,0,none⟩) 3 3) f4 hp x23 ex23) Ret.ret ?_
 intro vr21 a w hR hE
 obtain⟨u,rfl,hp⟩:=Ret.of hR
 have hp:Hp Z ((((ρy1.un k2).un k3).un k4).un k5) (aG 58 vr21 x23::_::_::_::_::_::L) w:=hp
 refine S hE 2 rfl fun a hE=>aB ?_
 have hE:=hE.cut (E':=[(6,vr21),(7,(Iv 0))]) ⟨rfl,rfl,trivial⟩
 refine dD ?_
 obtain rfl:=oj hm
 exact yG hE rfl rfl rfl ⟨_,rfl,_,rfl,(((((((((((((((hp.get 5 rfl).drop).get 4 rfl).drop).get 3 rfl).drop).get 2 rfl).drop).get 1 rfl).drop).less (PH.le_un _ k5)).less (PH.le_un _ k4)).less (PH.le_un _ k3)).less (PH.le_un _ k2)).less hley1)⟩
end Go.Proofs.YtopnldfjcciieaaGreat

/- The code goes as its model: (assessor/align.numbered).insertion, slices.Reverse[[]assessor/api.Change,assessor/api.Change], slices.Concat[[]assessor/api.Change, -/
import Derived.Test.YtopnldfjcciieaaGreatKLeT
import Derived.Test.YtopnldfjcciieaaGreatKLe3
import Derived.Test.YtopnldfjcciieaaGreatKLe5
import Derived.Test.YtopnldfjcciieaaGreatKLe8
import Derived.Test.YtopnldfjcciieaaGreatKLe9
set_option linter.unusedVariables false
set_option linter.unusedSimpArgs false
set_option maxRecDepth 100000
set_option maxHeartbeats 4000000
namespace Go.Proofs.YtopnldfjcciieaaGreat
open Go.RowKit
theorem Z8 {Z:World} {ρ:PH} {L:List bQ} {w:World} (k:Nmb) (gG:Value) (J8:aH ρ gG k.nodes) (gJ:Value) (Y2:aH ρ gJ k.sizes) (fC:Value) (sD:aH ρ fC k.parent) (R:Int) (U:(List Bool)) (vp2:Value) (hp2:aH ρ vp2 U) (B:Hp Z ρ (L) w) (r:Chg) (X:tV k R U=some r):
  Calls Tryz.prog 42 #[(.agg #[gG,gJ,fC]),(Iv R),vp2] w (Ret fun v w'=>v=(.agg #[(Iv r.op),(Iv r.node),(Iv r.index),(Iv r.count),(Iv r.kind),(.string r.text)])∧Hp Z ρ (L) w'):=by
 refine enter (N:=132) Tryz.func42 O O [(0,(.agg #[gG,gJ,fC])),(1,(Iv R)),(2,vp2)] O (bH ⟨O,O,O,tv⟩) fun a A=>?_
 unfold tV at X
 refine aG (aA ?_)
 refine iH (wk0 O) O O A B O (v:=(.agg #[gG,gJ,fC])) O ?_
 intro a w b1 A B
 have B:=r1 B
 refine dF (wk0 O) O O A B O [(Iv 0),(Iv 0),(Iv 0),(Iv 0),(Iv 0),(.string ByteArray.empty)] (fun w=>by simp[Instr.alloc,go_sem]<;>rfl) ?_
 intro a w b2 A B
 have B:=r2 B
 refine aB (aG ?_)
 obtain⟨M,ex1,X⟩:=bnd X
 obtain⟨K,ex2,X⟩:=bnd X
 have B:=B.drew
 refine gK ([([],At0 Z ρ),([],At1 Z ρ (Pt b1 (.cells #[gG,gJ,fC] 75 (0,0))))]:Facts) (fun a w=>∃y3:Nat,Env 132 [(1,(Iv R)),(2,vp2),(3,(Pv b1 0)),(6,(Pv b2 0)),(7,(Pv y3 0))] a∧Hp Z ρ (Pt y3 (.cells #[(Iv 2),(Iv (-1)),(Iv 0),(Iv 0),(Iv M.kind),(.string K.text)] 58 (0,0))::Pt b2 (.cells #[(Iv 0),(Iv 0),(Iv 0),(Iv 0),(Iv 0),(.string ByteArray.empty)] 58 (0,0))::Pt b1 (.cells #[gG,gJ,fC] 75 (0,0))::L) w) kr ⟨fun _=>⟨_,B⟩,fun _=>⟨_,(B.get 1 O)⟩,tv⟩ (fun I=>?_) ?_
 ·
  generalize w.drew=w at I B⊢
  refine T0 0 A I O O O kr (fun _=>xf A lQ O O) fun a A I=>T 1 1 A I O O O kr (fun _=>xl A iK 0 O O O O) fun a A I=>Ts [2] A I O O kr fun a A I=>?_
  obtain⟨b6,b6o,b6c,b6r,b6k,b6f⟩:=aH.at J8 iZ ex1
  obtain⟨aM5,rfl,hb6_kids⟩:=NodeAt.opens b6k
  have b6f:AtP ρ b6 b6o [(Iv M.kind),(.string M.text),(Iv M.at_),(Iv M.fin),aM5]:=b6f
  refine T0 3 A I O O O kr (fun _=>aO O A O O b6r) fun a A I=>T0 4 A I O O O kr (fun _=>xf A zH O O) fun a A I=>T0 5 A I O O O kr (fun _=>aK O A O (fun w H=>aZ aW (b6f.c 0 O w H))) fun a A I=>T0 6 A I O O O kr (fun _=>xf A lQ O O) fun a A I=>T 7 1 A I O O O kr (fun _=>xl A iK 0 O O O O) fun a A I=>Ts [8] A I O O kr fun a A I=>?_
  obtain⟨b7,b7o,b7c,b7r,b7k,b7f⟩:=aH.at J8 iZ ex2
  obtain⟨aM6,rfl,hb7_kids⟩:=NodeAt.opens b7k
  have b7f:AtP ρ b7 b7o [(Iv K.kind),(.string K.text),(Iv K.at_),(Iv K.fin),aM6]:=b7f
  refine T0 9 A I O O O kr (fun _=>aO O A O O b7r) fun a A I=>T0 10 A I O O O kr (fun _=>xf A xC O O) fun a A I=>T0 11 A I O O O kr (fun _=>aK O A O (fun w H=>aZ V8 (b7f.c 1 O w H))) fun a A I=>T0 12 A I O O O kr (v:=(.agg #[(Iv 2),(Iv (-1)),(Iv 0),(Iv 0),(Iv M.kind),(.string K.text)])) (fun _=>oD O A [(0,(Iv 2)),(1,(Iv (-1))),(4,(Iv M.kind)),(5,(.string K.text))] (by exact⟨⟨O,O⟩,⟨O,O⟩,⟨O,O⟩,⟨O,O⟩,tv⟩) (fun w=>by simp[Instr.build,Instr.fill,Value.cells,go_sem])) fun a A I=>?_
  refine W1 13 kr O ?_
  refine dF (wk0 O) O O A B O [(Iv 0),(Iv 0),(Iv 0),(Iv 0),(Iv 0),(.string ByteArray.empty)] (fun w=>by simp[Instr.alloc,go_sem]<;>rfl) ?_
  intro a w b8 A B
  have B:=r3 B
  refine aB (aF ⟨gp0 B,gp 2 B O,tv⟩ fun I=>?_)
  refine W1 14 kr O ?_
  refine aV (wk0 O) O A B O O O 0 O H7.size_ O (aP ⟨O,O,O,O,O,O,tv⟩) [(Iv 2),(Iv (-1)),(Iv 0),(Iv 0),(Iv M.kind),(.string K.text)] O ?_
  intro w B
  have B:=r3 B
  refine aB (aF ⟨gp0 B,gp 2 B O,tv⟩ fun I=>?_)
  exact bT kr ⟨_,A.cut ⟨O,O,O,O,O,tv⟩,B⟩
 rintro a w ⟨y3,A,B⟩
 refine aG (aG ?_)
 refine aA (S A 1 O fun a A=>?_)
 refine V A B O (bW O A O (aH.len hp2 yY)) fun a A=>S A 1 O fun a A=>aB ?_
 obtain⟨b9,hc1,X⟩:=bnd X
 refine dM (fun a w=>Env 132 [(1,(Iv R)),(2,vp2),(3,(Pv b1 0)),(6,(Pv b2 0)),(7,(Pv y3 0))] a∧Hp Z ρ (Pt y3 (.cells #[(Iv 2),(Iv b9),(Iv 0),(Iv 0),(Iv M.kind),(.string K.text)] 58 (0,0))::Pt b2 (.cells #[(Iv 0),(Iv 0),(Iv 0),(Iv 0),(Iv 0),(.string ByteArray.empty)] 58 (0,0))::Pt b1 (.cells #[gG,gJ,fC] 75 (0,0))::L) w) ?_ ?_
 ·refine eQ hc1 (fun s a w=>Env 132 [(1,(Iv R)),(2,vp2),(3,(Pv b1 0)),(6,(Pv b2 0)),(7,(Pv y3 0)),(26,vp2),(27,(Iv (U.length:Int))),(28,(Iv s.1))] a∧Hp Z ρ (Pt y3 (.cells #[(Iv 2),(Iv s.2),(Iv 0),(Iv 0),(Iv M.kind),(.string K.text)] 58 (0,0))::Pt b2 (.cells #[(Iv 0),(Iv 0),(Iv 0),(Iv 0),(Iv 0),(.string ByteArray.empty)] 58 (0,0))::Pt b1 (.cells #[gG,gJ,fC] 75 (0,0))::L) w) ?_ ?_
  ·exact⟨A.cut ⟨O,O,O,O,O,O,O,O,tv⟩,B⟩
  rintro⟨aQ,aU⟩ st a w ⟨A,B⟩ C
  dsimp only at A B C
  unfold vT at C
  refine aG (aA ?_)
  refine S A 1 O fun a A=>aB (aG ?_)
  refine dK A O (fun j=>?_) (fun j=>?_)
  ·replace C:=(it j).symm.trans C
   refine bI (aG ?_)
   refine dN (aG ?_)
   refine aA (S A 1 O fun a A=>?_)
   obtain⟨x3,ex3,C⟩:=bnd C
   obtain⟨b10,b10o,b10c,b10r,b10k,b10f⟩:=aH.at hp2 yY ex3
   obtain rfl:b10c=Enc.enc x3:=b10k
   have b10f:AtP ρ b10 b10o [(.bool x3)]:=b10f
   refine V A B O (aO O A O O b10r) fun a A=>V A B O (aK O A O (fun w H=>aZ N8 (b10f.c 0 O w H))) fun a A=>S A 2 O fun a A=>aB (aG ?_)
   refine aG (aA ?_)
   refine S A 1 O fun a A=>V A B O (xf A rY O O) fun a A=>V A B O (xl A aT 2 O O O O) fun a A=>S A 1 O fun a A=>?_
   obtain⟨x4,ex4,C⟩:=bnd C
   obtain⟨b11,b11o,b11c,b11r,b11k,b11f⟩:=aH.at sD bD ex4
   obtain rfl:b11c=Enc.enc x4:=b11k
   have b11f:AtP ρ b11 b11o [(Iv x4)]:=b11f
   refine V A B O (aO O A O O b11r) fun a A=>V A B O (aK O A O (fun w H=>aZ aW (b11f.c 0 O w H))) fun a A=>S A 1 O fun a A=>aB ?_
   have A:=A.cut (E':=[(1,(Iv R)),(2,vp2),(3,(Pv b1 0)),(6,(Pv b2 0)),(7,(Pv y3 0)),(9,(.bool x3)),(26,vp2),(27,(Iv (U.length:Int))),(28,(Iv aQ)),(39,(.bool (decide (aQ=x4))))]) ⟨O,O,O,O,O,O,O,O,O,O,tv⟩
   refine dK A O (fun i=>?_) (fun i=>?_)
   ·replace C:=(it i).symm.trans C
    refine aG (aA ?_)
    refine V A B O (xf A aF7 O O) fun a A=>V A B O (xl A aW 0 O O O O) fun a A=>?_
    obtain⟨x5,ex5,C⟩:=bnd C
    refine V A B O (bF O A O O (aN ex5)) fun a A=>V A B O (xf A aF7 O O) fun a A=>?_
    refine aV (wk0 O) O A B O O O 0 O aW.size_ O (aP ⟨O,tv⟩) [(Iv 2),(Iv x5),(Iv 0),(Iv 0),(Iv M.kind),(.string K.text)] O ?_
    intro w B
    have B:=r3 B
    refine aB ?_
    refine dZ ?_
    refine⟨_,(oj C).symm,fun hbb=>?_⟩
    subst hbb
    exact⟨A.cut ⟨O,O,O,O,O,tv⟩,B⟩
   replace C:=(ie i).symm.trans C
   refine bI (aG ?_)
   refine aA (S A 2 O fun a A=>?_)
   obtain⟨m1,hg1,C⟩:=bnd C
   refine jI [_,_,_,_,_,_,_] (fun a w=>Env 132 [(52,(.bool m1)),(1,(Iv R)),(2,vp2),(3,(Pv b1 0)),(6,(Pv b2 0)),(7,(Pv y3 0)),(26,vp2),(27,(Iv (U.length:Int))),(28,(Iv aQ))] a∧Hp Z ρ (Pt y3 (.cells #[(Iv 2),(Iv aU),(Iv 0),(Iv 0),(Iv M.kind),(.string K.text)] 58 (0,0))::Pt b2 (.cells #[(Iv 0),(Iv 0),(Iv 0),(Iv 0),(Iv 0),(.string ByteArray.empty)] 58 (0,0))::Pt b1 (.cells #[gG,gJ,fC] 75 (0,0))::L) w) ?_ ?_
   ·rcases vA x3 with F|F
    ·
     replace hg1:=(it F).symm.trans hg1
     refine G A B F O (xf A rY O O) fun a A=>G A B F O (xl A aT 2 O O O O) fun a A=>Gs A F O O fun a A=>?_
     obtain⟨x6,ex6,hg1⟩:=bnd hg1
     obtain⟨b12,b12o,b12c,b12r,b12k,b12f⟩:=aH.at sD bD ex6
     obtain rfl:b12c=Enc.enc x6:=b12k
     have b12f:AtP ρ b12 b12o [(Iv x6)]:=b12f
     refine G A B F O (aO O A O O b12r) fun a A=>G A B F O (aK O A O (fun w H=>aZ aW (b12f.c 0 O w H))) fun a A=>Gs A F O O fun a A=>pk1 A F O O O O fun a A=>?_
     obtain rfl:=oj hg1
     exact aB ⟨A.cut ⟨O,O,O,O,O,O,O,O,O,tv⟩,B⟩
    replace hg1:=(ie F).symm.trans hg1
    refine Gk A F O fun a A=>Gk A F O fun a A=>Gk A F O fun a A=>Gk A F O fun a A=>Gk A F O fun a A=>Gk A F O fun a A=>pk0 A F O O O O fun a A=>?_
    obtain rfl:=oj hg1
    exact aB ⟨A.cut ⟨O,O,O,O,O,O,O,O,O,tv⟩,B⟩
   rintro a w ⟨A,B⟩
   refine aB ?_
   refine dK A O (fun h=>?_) (fun h=>?_)
   ·replace C:=(it h).symm.trans C
    refine aA (V A B O (xf A aF7 O O) fun a A=>?_)
    refine V A B O (xl A aW 0 O O O O) fun a A=>?_
    obtain⟨x7,ex7,C⟩:=bnd C
    refine V A B O (bF O A O O (aN ex7)) fun a A=>V A B O (xf A aF7 O O) fun a A=>?_
    refine aV (wk0 O) O A B O O O 0 O aW.size_ O (aP ⟨O,tv⟩) [(Iv 2),(Iv x7),(Iv 0),(Iv 0),(Iv M.kind),(.string K.text)] O ?_
    intro w B
    have B:=r3 B
    refine aB (aA ?_)
    obtain⟨x8,ex8,C⟩:=bnd C
    refine V A B O (bF O A O O (aN ex8)) fun a A=>S A 1 O fun a A=>aB ?_
    exact⟨_,(oj C).symm,A.cut ⟨O,O,O,O,O,O,O,O,tv⟩,B⟩
   replace C:=(ie h).symm.trans C
   refine bI (aA ?_)
   obtain⟨x9,ex9,C⟩:=bnd C
   refine V A B O (bF O A O O (aN ex9)) fun a A=>S A 1 O fun a A=>aB ?_
   exact⟨_,(oj C).symm,A.cut ⟨O,O,O,O,O,O,O,O,tv⟩,B⟩
  replace C:=(ie j).symm.trans C
  refine dZ ?_
  refine⟨_,(oj C).symm,fun hbb=>?_⟩
  subst hbb
  exact⟨A.cut ⟨O,O,O,O,O,tv⟩,B⟩
 rintro a w ⟨A,B⟩
 refine aG (aG ?_)
 refine aA (S A 1 O fun a A=>?_)
 refine V A B O (bW O A O (aH.len hp2 yY)) fun a A=>S A 1 O fun a A=>aB ?_
 obtain⟨b13,hc6,X⟩:=bnd X
 refine dM (fun a w=>Env 132 [(6,(Pv b2 0)),(7,(Pv y3 0))] a∧Hp Z ρ (Pt y3 (.cells #[(Iv 2),(Iv b9),(Iv b13.1),(Iv b13.2),(Iv M.kind),(.string K.text)] 58 (0,0))::Pt b2 (.cells #[(Iv 0),(Iv 0),(Iv 0),(Iv 0),(Iv 0),(.string ByteArray.empty)] 58 (0,0))::Pt b1 (.cells #[gG,gJ,fC] 75 (0,0))::L) w) ?_ ?_
 ·refine eQ hc6 (fun s a w=>Env 132 [(1,(Iv R)),(2,vp2),(3,(Pv b1 0)),(6,(Pv b2 0)),(7,(Pv y3 0)),(58,vp2),(59,(Iv (U.length:Int))),(60,(Iv s.1))] a∧Hp Z ρ (Pt y3 (.cells #[(Iv 2),(Iv b9),(Iv s.2.1),(Iv s.2.2),(Iv M.kind),(.string K.text)] 58 (0,0))::Pt b2 (.cells #[(Iv 0),(Iv 0),(Iv 0),(Iv 0),(Iv 0),(.string ByteArray.empty)] 58 (0,0))::Pt b1 (.cells #[gG,gJ,fC] 75 (0,0))::L) w) ?_ ?_
  ·exact⟨A.cut ⟨O,O,O,O,O,O,O,O,tv⟩,B⟩
  rintro⟨bP,eP,G6⟩ st a w ⟨A,B⟩ J
  dsimp only at A B J
  unfold vU at J
  refine aG (aA ?_)
  refine S A 1 O fun a A=>aB (aG ?_)
  refine dK A O (fun g=>?_) (fun g=>?_)
  ·replace J:=(it g).symm.trans J
   refine bI (aG ?_)
   obtain⟨j1,hj1,J⟩:=bnd J
   refine dM (fun a w=>Env 132 [(1,(Iv R)),(2,vp2),(3,(Pv b1 0)),(6,(Pv b2 0)),(7,(Pv y3 0)),(58,vp2),(59,(Iv (U.length:Int))),(60,(Iv bP))] a∧Hp Z ρ (Pt y3 (.cells #[(Iv 2),(Iv b9),(Iv j1.1),(Iv j1.2),(Iv M.kind),(.string K.text)] 58 (0,0))::Pt b2 (.cells #[(Iv 0),(Iv 0),(Iv 0),(Iv 0),(Iv 0),(.string ByteArray.empty)] 58 (0,0))::Pt b1 (.cells #[gG,gJ,fC] 75 (0,0))::L) w) ?_ ?_
   ·
    refine aG (aA ?_)
    refine S A 1 O fun a A=>?_
    obtain⟨b,ex10,hj1⟩:=bnd hj1
    obtain⟨b14,b14o,b14c,b14r,b14k,b14f⟩:=aH.at hp2 yY ex10
    obtain rfl:b14c=Enc.enc b:=b14k
    have b14f:AtP ρ b14 b14o [(.bool b)]:=b14f
    refine V A B O (aO O A O O b14r) fun a A=>V A B O (aK O A O (fun w H=>aZ N8 (b14f.c 0 O w H))) fun a A=>S A 2 O fun a A=>aB (aG ?_)
    refine aG ?_
    refine jU kr kr B ?_
    refine Sq A 3 O fun a A=>?_
    obtain⟨m2,hg2,hj1⟩:=bnd hj1
    refine q_cut [_,_,_,_,_,_,_,_,_,_,_,_,_,_,_,_,_,_] (fun a=>Env 132 [(85,(.bool m2)),(1,(Iv R)),(2,vp2),(3,(Pv b1 0)),(6,(Pv b2 0)),(7,(Pv y3 0)),(10,(Iv bP)),(58,vp2),(59,(Iv (U.length:Int))),(60,(Iv bP))] a) ?_ ?_
    ·rcases vA (!b) with E|E
     ·
      replace hg2:=(it E).symm.trans hg2
      refine Gkq A E O fun a A=>Gkq A E O fun a A=>Gkq A E O fun a A=>Gkq A E O fun a A=>Gkq A E O fun a A=>Gkq A E O fun a A=>Gkq A E O fun a A=>?_
      refine q_skip (wk3 A O O O) O O A ?_
      intro a A
      refine q_skip (wk3 A O O O) O O A ?_
      intro a A
      refine q_skip (wk3 A O O O) O O A ?_
      intro a A
      refine q_skip (wk3 A O O O) O O A ?_
      intro a A
      refine q_skip (wk3 A O O O) O O A ?_
      intro a A
      refine q_skip (wk3 A O O O) O O A ?_
      intro a A
      refine q_skip (wk3 A O O O) O O A ?_
      intro a A
      refine q_skip (wk3 A O O O) O O A ?_
      intro a A
      refine q_skip (wk3 A O O O) O O A ?_
      intro a A
      refine Gkq A E O fun a A=>?_
      refine Vq A O (v:=(.bool true)) (jM O A O E O) fun a A=>?_
      obtain rfl:=oj hg2
      exact jQ (A.cut ⟨O,O,O,O,O,O,O,O,O,O,tv⟩)
     replace hg2:=(ie E).symm.trans hg2
     refine Gq A E O (xf A rY O O) fun a A=>Gq A E O (xl A aT 2 O O O O) fun a A=>Gq A E O (iR O A O) fun a A=>?_
     obtain⟨W,ex11,hg2⟩:=bnd hg2
     obtain⟨b15,b15o,b15c,b15r,b15k,b15f⟩:=aH.at sD bD ex11
     obtain rfl:b15c=Enc.enc W:=b15k
     have b15f:AtP ρ b15 b15o [(Iv W)]:=b15f
     refine Gq A E O (aO O A O O b15r) fun a A=>Gq A E O (aK O A O (fun w H=>aZ aW (b15f.c 0 O w H))) fun a A=>Gq A E O (ex_geq O A O O) fun a A=>Gq A E O (iR O A O) fun a A=>?_
     obtain⟨m3,hg3,hg2⟩:=bnd hg2
     refine q_cut [_,_,_,_,_,_,_,_,_,_] (fun a=>Env 132 [(84,(.bool m3)),(1,(Iv R)),(2,vp2),(3,(Pv b1 0)),(6,(Pv b2 0)),(7,(Pv y3 0)),(10,(Iv bP)),(58,vp2),(59,(Iv (U.length:Int))),(60,(Iv bP)),(67,(.bool (!b))),(68,(Pv b1 2)),(69,fC),(70,(Iv R)),(71,(Pv b15 b15o)),(72,(Iv W)),(73,(.bool (decide (0≤W)))),(74,(.bool (decide (0≤W))))] a) ?_ ?_
     ·rcases vA (decide (0≤W)) with D|D
      ·
       replace hg3:=(it D).symm.trans hg3
       refine Gq A D O (aK O A O (fun w H=>aX (cs:=[gG,gJ,fC]) dG (Hp.cN 2 O 0 _ (aS O) w H))) fun a A=>Gq A D O (xf A rY O O) fun a A=>Gq A D O (xl A aT 2 O O O O) fun a A=>Gq A D O (iR O A O) fun a A=>?_
       obtain⟨Y,ex12,hg3⟩:=bnd hg3
       obtain⟨b16,b16o,b16c,b16r,b16k,b16f⟩:=aH.at sD bD ex12
       obtain rfl:b16c=Enc.enc Y:=b16k
       have b16f:AtP ρ b16 b16o [(Iv Y)]:=b16f
       refine Gq A D O (aO O A O O b16r) fun a A=>Gq A D O (aK O A O (fun w H=>aZ aW (b16f.c 0 O w H))) fun a A=>Gq A D O (iR O A O) fun a A=>?_
       obtain⟨f,ex13,hg3⟩:=bnd hg3
       refine aE8 (wk1 A O O O D) O O A O [(.agg #[gG,gJ,fC]),(Iv Y),(Iv bP)] ⟨O,O,O,tv⟩ ent45 (v:=(.bool f)) (fun w H=>Calls.mono (lN k gG J8 gJ Y2 fC sD Y bP H f ex13) fun e w' ⟨v,he,hv,hh⟩=>⟨by rw[he,hv],hh⟩) ?_
       intro a A
       refine Gq A D O (ex_not O A O) fun a A=>Gq A E O (v:=(.bool (!f))) (jM O A O D O) fun a A=>?_
       obtain rfl:=oj hg3
       exact jQ (A.cut ⟨O,O,O,O,O,O,O,O,O,O,O,O,O,O,O,O,O,O,tv⟩)
      replace hg3:=(ie D).symm.trans hg3
      refine Gkq A D O fun a A=>Gkq A D O fun a A=>Gkq A D O fun a A=>Gkq A D O fun a A=>Gkq A D O fun a A=>Gkq A D O fun a A=>Gkq A D O fun a A=>Gkq A D O fun a A=>Gkq A D O fun a A=>Gq A E O (v:=(.bool false)) (iV O A O D O) fun a A=>?_
      obtain rfl:=oj hg3
      exact jQ (A.cut ⟨O,O,O,O,O,O,O,O,O,O,O,O,O,O,O,O,O,O,tv⟩)
     intro a A
     refine Vq A O (v:=(.bool m3)) (iV O A O E O) fun a A=>?_
     obtain rfl:=oj hg2
     exact jQ (A.cut ⟨O,O,O,O,O,O,O,O,O,O,tv⟩)
    intro a A
    refine jQ fun w B=>?_
    have B:=r3 B
    refine dK A O (fun hc10=>?_) (fun hc10=>?_)
    ·replace hj1:=(it hc10).symm.trans hj1
     refine dZ ?_
     obtain rfl:=oj hj1
     exact⟨A.cut ⟨O,O,O,O,O,O,O,O,tv⟩,B⟩
    replace hj1:=(ie hc10).symm.trans hj1
    refine bI (aG ?_)
    refine aA (V A B O (xf A rY O O) fun a A=>?_)
    refine V A B O (xl A aT 2 O O O O) fun a A=>S A 1 O fun a A=>?_
    obtain⟨n,z,hj1⟩:=bnd hj1
    obtain⟨b17,b17o,b17c,b17r,b17k,b17f⟩:=aH.at sD bD z
    obtain rfl:b17c=Enc.enc n:=b17k
    have b17f:AtP ρ b17 b17o [(Iv n)]:=b17f
    refine V A B O (aO O A O O b17r) fun a A=>V A B O (aK O A O (fun w H=>aZ aW (b17f.c 0 O w H))) fun a A=>S A 1 O fun a A=>aB (aG ?_)
    obtain⟨b18,hc11,hj1⟩:=bnd hj1
    refine dM (fun a w=>Env 132 [(1,(Iv R)),(2,vp2),(3,(Pv b1 0)),(6,(Pv b2 0)),(7,(Pv y3 0)),(10,(Iv bP)),(12,(Iv b18)),(58,vp2),(59,(Iv (U.length:Int))),(60,(Iv bP))] a∧Hp Z ρ (Pt y3 (.cells #[(Iv 2),(Iv b9),(Iv eP),(Iv G6),(Iv M.kind),(.string K.text)] 58 (0,0))::Pt b2 (.cells #[(Iv 0),(Iv 0),(Iv 0),(Iv 0),(Iv 0),(.string ByteArray.empty)] 58 (0,0))::Pt b1 (.cells #[gG,gJ,fC] 75 (0,0))::L) w) ?_ ?_
    ·refine eQ hc11 (fun s a w=>Env 132 [(1,(Iv R)),(2,vp2),(3,(Pv b1 0)),(6,(Pv b2 0)),(7,(Pv y3 0)),(10,(Iv bP)),(12,(Iv s)),(58,vp2),(59,(Iv (U.length:Int))),(60,(Iv bP))] a∧Hp Z ρ (Pt y3 (.cells #[(Iv 2),(Iv b9),(Iv eP),(Iv G6),(Iv M.kind),(.string K.text)] 58 (0,0))::Pt b2 (.cells #[(Iv 0),(Iv 0),(Iv 0),(Iv 0),(Iv 0),(.string ByteArray.empty)] 58 (0,0))::Pt b1 (.cells #[gG,gJ,fC] 75 (0,0))::L) w) ?_ ?_
     ·exact⟨A.cut ⟨O,O,O,O,O,O,O,O,O,O,tv⟩,B⟩
     rintro dR st a w ⟨A,B⟩ Q
     unfold vV at Q
     refine aG (aG ?_)
     refine aA (S A 3 O fun a A=>?_)
     obtain⟨m4,hg4,Q⟩:=bnd Q
     refine jI [_,_,_,_,_,_] (fun a w=>Env 132 [(99,(.bool m4)),(1,(Iv R)),(2,vp2),(3,(Pv b1 0)),(6,(Pv b2 0)),(7,(Pv y3 0)),(10,(Iv bP)),(12,(Iv dR)),(58,vp2),(59,(Iv (U.length:Int))),(60,(Iv bP))] a∧Hp Z ρ (Pt y3 (.cells #[(Iv 2),(Iv b9),(Iv eP),(Iv G6),(Iv M.kind),(.string K.text)] 58 (0,0))::Pt b2 (.cells #[(Iv 0),(Iv 0),(Iv 0),(Iv 0),(Iv 0),(.string ByteArray.empty)] 58 (0,0))::Pt b1 (.cells #[gG,gJ,fC] 75 (0,0))::L) w) ?_ ?_
     ·rcases vA (decide (0≤dR)) with hc12|hc12
      ·
       replace hg4:=(it hc12).symm.trans hg4
       refine Gs A hc12 O O fun a A=>Gs A hc12 O O fun a A=>?_
       obtain⟨m,y,hg4⟩:=bnd hg4
       obtain⟨b19,b19o,b19c,b19r,b19k,b19f⟩:=aH.at hp2 yY y
       obtain rfl:b19c=Enc.enc m:=b19k
       have b19f:AtP ρ b19 b19o [(.bool m)]:=b19f
       refine G A B hc12 O (aO O A O O b19r) fun a A=>G A B hc12 O (aK O A O (fun w H=>aZ N8 (b19f.c 0 O w H))) fun a A=>Gs A hc12 O O fun a A=>pk1 A hc12 O O O O fun a A=>?_
       obtain rfl:=oj hg4
       exact aB ⟨A.cut ⟨O,O,O,O,O,O,O,O,O,O,O,tv⟩,B⟩
      replace hg4:=(ie hc12).symm.trans hg4
      refine Gk A hc12 O fun a A=>Gk A hc12 O fun a A=>Gk A hc12 O fun a A=>Gk A hc12 O fun a A=>Gk A hc12 O fun a A=>pk0 A hc12 O O O O fun a A=>?_
      obtain rfl:=oj hg4
      exact aB ⟨A.cut ⟨O,O,O,O,O,O,O,O,O,O,O,tv⟩,B⟩
     rintro a w ⟨A,B⟩
     refine aB ?_
     refine dK A O (fun hc13=>?_) (fun hc13=>?_)
     ·replace Q:=(it hc13).symm.trans Q
      refine bI (dN ?_)
      refine aA (V A B O (xf A rY O O) fun a A=>?_)
      refine V A B O (xl A aT 2 O O O O) fun a A=>S A 1 O fun a A=>?_
      obtain⟨l,x,Q⟩:=bnd Q
      obtain⟨b20,b20o,b20c,b20r,b20k,b20f⟩:=aH.at sD bD x
      obtain rfl:b20c=Enc.enc l:=b20k
      have b20f:AtP ρ b20 b20o [(Iv l)]:=b20f
      refine V A B O (aO O A O O b20r) fun a A=>V A B O (aK O A O (fun w H=>aZ aW (b20f.c 0 O w H))) fun a A=>S A 1 O fun a A=>aB ?_
      exact⟨_,(oj Q).symm,A.cut ⟨O,O,O,O,O,O,O,O,O,O,tv⟩,B⟩
     replace Q:=(ie hc13).symm.trans Q
     refine dZ ?_
     refine⟨_,(oj Q).symm,fun hbb=>?_⟩
     subst hbb
     exact⟨A.cut ⟨O,O,O,O,O,O,O,O,O,O,tv⟩,B⟩
    rintro a w ⟨A,B⟩
    refine dN (aG ?_)
    refine aA (S A 1 O fun a A=>?_)
    refine V A B O (xf A rY O O) fun a A=>V A B O (xl A aT 2 O O O O) fun a A=>S A 1 O fun a A=>?_
    obtain⟨d,u,hj1⟩:=bnd hj1
    obtain⟨b21,b21o,b21c,b21r,b21k,b21f⟩:=aH.at sD bD u
    obtain rfl:b21c=Enc.enc d:=b21k
    have b21f:AtP ρ b21 b21o [(Iv d)]:=b21f
    refine V A B O (aO O A O O b21r) fun a A=>V A B O (aK O A O (fun w H=>aZ aW (b21f.c 0 O w H))) fun a A=>S A 2 O fun a A=>aB ?_
    have A:=A.cut (E':=[(1,(Iv R)),(2,vp2),(3,(Pv b1 0)),(6,(Pv b2 0)),(7,(Pv y3 0)),(10,(Iv bP)),(58,vp2),(59,(Iv (U.length:Int))),(60,(Iv bP)),(105,(.bool (!decide (b18=d))))]) ⟨O,O,O,O,O,O,O,O,O,O,tv⟩
    refine dK A O (fun hc14=>?_) (fun hc14=>?_)
    ·replace hj1:=(it hc14).symm.trans hj1
     refine bI ?_
     obtain rfl:=oj hj1
     exact⟨A.cut ⟨O,O,O,O,O,O,O,O,tv⟩,B⟩
    replace hj1:=(ie hc14).symm.trans hj1
    refine aG (aA ?_)
    refine S A 4 O fun a A=>aB ?_
    refine dK A O (fun hc15=>?_) (fun hc15=>?_)
    ·replace hj1:=(it hc15).symm.trans hj1
     refine aA (V A B O (xf A fldty58_2 O O) fun a A=>?_)
     refine V A B O (xl A aW 0 O O O O) fun a A=>?_
     obtain⟨x18,t,hj1⟩:=bnd hj1
     refine V A B O (bF O A O O (aN t)) fun a A=>V A B O (xf A fldty58_2 O O) fun a A=>?_
     refine aV (wk0 O) O A B O O O 0 O aW.size_ O (aP ⟨O,tv⟩) [(Iv 2),(Iv b9),(Iv x18),(Iv G6),(Iv M.kind),(.string K.text)] O ?_
     intro w B
     have B:=r3 B
     refine aB ?_
     obtain rfl:=oj hj1
     exact⟨A.cut ⟨O,O,O,O,O,O,O,O,tv⟩,B⟩
    replace hj1:=(ie hc15).symm.trans hj1
    refine aG (aA ?_)
    refine V A B O (aK O A O (fun w H=>aX (cs:=[gG,gJ,fC]) dG (Hp.cN 2 O 0 _ (aS O) w H))) fun a A=>S A 2 O fun a A=>?_
    obtain⟨x19,q,hj1⟩:=bnd hj1
    refine Cl A O O ent45 (lN k gG J8 gJ Y2 fC sD R bP B x19 q) ⟨O,O,O,tv⟩ fun v a w hR A=>?_
    obtain⟨rfl,B⟩:=hR
    have B:=r3 B
    refine S A 1 O fun a A=>aB ?_
    refine dK A O (fun hc16=>?_) (fun hc16=>?_)
    ·replace hj1:=(it hc16).symm.trans hj1
     refine aA (V A B O (xf A fldty58_3 O O) fun a A=>?_)
     refine V A B O (xl A aW 0 O O O O) fun a A=>?_
     obtain⟨x20,p,hj1⟩:=bnd hj1
     refine V A B O (bF O A O O (aN p)) fun a A=>V A B O (xf A fldty58_3 O O) fun a A=>?_
     refine aV (wk0 O) O A B O O O 0 O aW.size_ O (aP ⟨O,tv⟩) [(Iv 2),(Iv b9),(Iv eP),(Iv x20),(Iv M.kind),(.string K.text)] O ?_
     intro w B
     have B:=r3 B
     refine aB ?_
     have A:=A.cut (E':=[(1,(Iv R)),(2,vp2),(3,(Pv b1 0)),(6,(Pv b2 0)),(7,(Pv y3 0)),(58,vp2),(59,(Iv (U.length:Int))),(60,(Iv bP))]) ⟨O,O,O,O,O,O,O,O,tv⟩
     obtain rfl:=oj hj1
     exact⟨A.cut ⟨O,O,O,O,O,O,O,O,tv⟩,B⟩
    replace hj1:=(ie hc16).symm.trans hj1
    refine bI ?_
    obtain rfl:=oj hj1
    exact⟨A.cut ⟨O,O,O,O,O,O,O,O,tv⟩,B⟩
   rintro a w ⟨A,B⟩
   refine aA ?_
   obtain⟨x21,o,J⟩:=bnd J
   refine V A B O (bF O A O O (aN o)) fun a A=>S A 1 O fun a A=>aB ?_
   exact⟨_,(oj J).symm,A.cut ⟨O,O,O,O,O,O,O,O,tv⟩,B⟩
  replace J:=(ie g).symm.trans J
  refine dZ ?_
  refine⟨_,(oj J).symm,fun hbb=>?_⟩
  subst hbb
  exact⟨A.cut ⟨O,O,tv⟩,B⟩
 rintro a w ⟨A,B⟩
 refine aG (aA ?_)
 refine V A B O (aK O A O (fun w H=>aX (cs:=[(Iv 2),(Iv b9),(Iv b13.1),(Iv b13.2),(Iv M.kind),(.string K.text)]) H7 (Hp.cN 0 O 0 _ (aS O) w H))) fun a A=>?_
 refine aV (wk0 O) O A B O O O 1 O H7.size_ O (aP ⟨O,O,O,O,O,O,tv⟩) [(Iv 2),(Iv b9),(Iv b13.1),(Iv b13.2),(Iv M.kind),(.string K.text)] O ?_
 intro w B
 have B:=r3 B
 refine aB (cZ ?_)
 obtain rfl:=oj X
 exact retc1 A O O (aI6 (cs:=[(Iv 2),(Iv b9),(Iv b13.1),(Iv b13.2),(Iv M.kind),(.string K.text)]) H7 (Hp.cN 1 O 0 _ (aS O) _ B)) ⟨_,O,O,(((((B.get 2 O).drop).get 1 O).drop).drop)⟩
theorem aR2 {Z:World} {ρ:PH} {L:List bQ} {w:World} (b:(List Chg)) (vp0:Value) (C:Hp Z ρ (aC 58 vp0 b::L) w) (r:(List Chg)) (H:H5 b=some r):
  Calls Tryz.prog 43 #[vp0] w (Ret fun v w'=>v= .tuple #[]∧Hp Z ρ (aC 58 vp0 r::L) w'):=by
 refine enter (N:=28) Tryz.func43 O O [(0,vp0)] O (bH ⟨O,tv⟩) fun a A=>?_
 unfold H5 at H
 refine aG (aA ?_)
 refine S A 1 O fun a A=>V A C O (bW O A O (aC.len C 0 O zY)) fun a A=>?_
 obtain⟨x1,Y,H⟩:=bnd H
 refine V A C O (dQ O A O O (aN Y)) fun a A=>S A 2 O fun a A=>aB ?_
 obtain⟨b1,Q,H⟩:=bnd H
 refine dM (fun a w=>Env 28 [] a∧Hp Z ρ (aC 58 vp0 b1::L) w) ?_ ?_
 ·refine eQ Q (fun s a w=>Env 28 [(0,vp0),(2,(Iv s.1)),(3,(Iv s.2.1))] a∧Hp Z ρ (aC 58 vp0 s.2.2::L) w) ?_ ?_
  ·exact⟨A.cut ⟨O,O,O,tv⟩,C⟩
  rintro⟨aQ,aU,dS⟩ st a w ⟨A,C⟩ B
  dsimp only at A C B
  unfold J4 at B
  refine aG (aG ?_)
  refine aA (S A 3 O fun a A=>?_)
  refine aB ?_
  refine dK A O (fun G=>?_) (fun G=>?_)
  ·replace B:=(it G).symm.trans B
   refine bI (aG ?_)
   refine dN ?_
   obtain⟨F,X,B⟩:=bnd B
   obtain⟨E,W,B⟩:=bnd B
   obtain⟨x4,J,B⟩:=bnd B
   obtain⟨x5,I,B⟩:=bnd B
   have C:=C.drew
   refine gK ([([],At0 Z ρ),([13,15],At1 Z ρ (aC 58 vp0 dS))]:Facts) (fun a w=>Env 28 [(0,vp0),(2,(Iv aQ)),(3,(Iv aU))] a∧Hp Z ρ (aC 58 vp0 ((dS.set aQ.toNat F).set aU.toNat E)::L) w) kr ⟨fun _=>⟨_,C⟩,fun _=>⟨_,(C.get 0 O)⟩,tv⟩ (fun D=>?_) ?_
   ·
    generalize w.drew=w at D C⊢
    refine Ts [0,1,2,3,4,5] A D O O kr fun a A D=>?_
    obtain⟨b6,b6o,b6r,b6v,b6f⟩:=aC.at C 0 O zY X
    refine T0 6 A D O O O kr (fun _=>aO O A O O b6r) fun a A D=>T 7 1 A D O O O kr (fun _=>aK O A O (fun w K=>aX (cs:=[(Iv F.op),(Iv F.node),(Iv F.index),(Iv F.count),(Iv F.kind),(.string F.text)]) H7 (fun j u M=>b6f j u M _ _ w (K.get 0 O)))) fun a A D=>Ts [8,9] A D O O kr fun a A D=>?_
    obtain⟨b7,b7o,b7r,b7v,b7f⟩:=aC.at C 0 O zY W
    refine T0 10 A D O O O kr (fun _=>aO O A O O b7r) fun a A D=>T 11 1 A D O O O kr (fun _=>aK O A O (fun w K=>aX (cs:=[(Iv E.op),(Iv E.node),(Iv E.index),(Iv E.count),(Iv E.kind),(.string E.text)]) H7 (fun j u M=>b7f j u M _ _ w (K.get 0 O)))) fun a A D=>?_
    obtain⟨b8,b8o,b8r,b8v,b8f⟩:=aC.at C 0 O zY J
    refine T0 12 A D O O O kr (fun _=>aO O A O O b8r) fun a A D=>?_
    refine W1 13 kr O ?_
    refine O6 (wk0 O) O A C O O O 0 O J b8v (e':=F) H7.size_ O (fun q z hz=>b8f q z hz _ _ w (C.get 0 O)) ?_
    intro w C
    have C:=r1 C
    refine aB (aF ⟨gp0 C,dead kr,tv⟩ fun D=>?_)
    obtain⟨b9,b9o,b9r,b9v,b9f⟩:=aC.at C 0 O zY I
    refine T0 14 A D O O O kr (fun _=>aO O A O O b9r) fun a A D=>?_
    refine W1 15 kr O ?_
    refine O6 (wk0 O) O A C O O O 0 O I b9v (e':=E) H7.size_ O (fun q z hz=>b9f q z hz _ _ w (C.get 0 O)) ?_
    intro w C
    have C:=r1 C
    refine aB (aF ⟨gp0 C,dead kr,tv⟩ fun D=>?_)
    exact bT kr ⟨A.cut ⟨O,O,O,tv⟩,C⟩
   rintro a w ⟨A,C⟩
   refine aA (S A 1 O fun a A=>?_)
   obtain⟨x6,U,B⟩:=bnd B
   refine V A C O (bF O A O O (aN U)) fun a A=>S A 1 O fun a A=>?_
   obtain⟨x7,R,B⟩:=bnd B
   refine V A C O (dQ O A O O (aN R)) fun a A=>S A 2 O fun a A=>aB ?_
   exact⟨_,(oj B).symm,A.cut ⟨O,O,O,tv⟩,C⟩
  replace B:=(ie G).symm.trans B
  refine dZ ?_
  refine⟨_,(oj B).symm,fun hbb=>?_⟩
  subst hbb
  exact⟨A.cut trivial,C⟩
 rintro a w ⟨A,C⟩
 obtain rfl:=oj H
 exact aD6 A O ⟨_,O,O,C⟩
theorem aS9 {Z:World} {ρ:PH} {L:List bQ} {w:World} (I:(List (List Chg))) (vp0:Value) (hp0:aH ρ vp0 I) (C:Hp Z ρ (L) w) (r:(List Chg)) (E:L8 I=some r):
  Calls Tryz.prog 44 #[vp0] w (Ret fun v w'=>∃(vr1:Value),v=vr1∧Hp Z ρ (aC 58 vr1 r::L) w'):=by
 refine enter (N:=36) Tryz.func44 O O [(0,vp0)] O (bH ⟨O,tv⟩) fun a A=>?_
 unfold L8 at E
 refine aG (aA ?_)
 refine S A 1 O fun a A=>aB (aG ?_)
 refine aA (S A 1 O fun a A=>?_)
 refine aB (aG ?_)
 refine aG (aA ?_)
 refine S A 1 O fun a A=>V A C O (bW O A O (aH.len hp0 slty111)) fun a A=>S A 1 O fun a A=>aB ?_
 obtain⟨b1,M,E⟩:=bnd E
 refine dM (fun a w=>Env 36 [(0,vp0),(3,(Iv b1))] a∧Hp Z ρ (L) w) ?_ ?_
 ·refine eQ M (fun s a w=>Env 36 [(0,vp0),(3,(Iv s.1)),(9,vp0),(10,(Iv (I.length:Int))),(11,(Iv s.2))] a∧Hp Z ρ (L) w) ?_ ?_
  ·exact⟨A.cut ⟨O,O,O,O,O,tv⟩,C⟩
  rintro⟨aQ,aU⟩ st a w ⟨A,C⟩ B
  dsimp only at A C B
  unfold Q4 at B
  refine aG (aA ?_)
  refine S A 1 O fun a A=>aB (aG ?_)
  refine dK A O (fun H=>?_) (fun H=>?_)
  ·replace B:=(it H).symm.trans B
   refine bI (aG ?_)
   refine dN (aG ?_)
   refine aA ?_
   obtain⟨x1,d,B⟩:=bnd B
   obtain⟨b2,b2o,b2c,b2r,b2k,b2f⟩:=aH.at hp0 slty111 d
   obtain⟨vb2,rfl,R⟩:=b2k
   have b2f:AtP ρ b2 b2o [vb2]:=b2f
   refine V A C O (aO O A O O b2r) fun a A=>V A C O (aK O A O (fun w J=>aZ varty34 (b2f.c 0 O w J))) fun a A=>S A 1 O fun a A=>aB (aG ?_)
   refine aA (S A 2 O fun a A=>?_)
   refine V A C O (bW O A O (aH.len R zY)) fun a A=>?_
   obtain⟨f,b,B⟩:=bnd B
   refine V A C O (bF O A O O (aN b)) fun a A=>S A 1 O fun a A=>aB ?_
   have A:=A.cut (E':=[(0,vp0),(3,(Iv f)),(9,vp0),(10,(Iv (I.length:Int))),(11,(Iv aU))]) ⟨O,O,O,O,O,tv⟩
   refine aG (aA ?_)
   refine S A 2 O fun a A=>aB ?_
   refine dK A O (fun G=>?_) (fun G=>?_)
   ·replace B:=(it G).symm.trans B
    refine aA ?_
    cases B
   replace B:=(ie G).symm.trans B
   refine bI (aA ?_)
   obtain⟨x3,Y,B⟩:=bnd B
   refine V A C O (bF O A O O (aN Y)) fun a A=>S A 1 O fun a A=>aB ?_
   exact⟨_,(oj B).symm,A.cut ⟨O,O,O,O,O,tv⟩,C⟩
  replace B:=(ie H).symm.trans B
  refine dZ ?_
  refine⟨_,(oj B).symm,fun hbb=>?_⟩
  subst hbb
  exact⟨A.cut ⟨O,O,tv⟩,C⟩
 rintro a w ⟨A,C⟩
 refine aG (aA ?_)
 refine S A 1 O fun a A=>?_
 obtain⟨e,X,E⟩:=bnd E
 refine s_call (wk0 O) O O A O [N0,(Iv b1)] ⟨O,O,tv⟩ ent65 (c_grow b1 C e X) Ret.ret ?_
 intro v1 a w g A
 obtain⟨u,hu,C⟩:=Ret.of g
 rw[←hu] at C
 have C:=r1 C
 refine S A 1 O fun a A=>aB (aG ?_)
 refine aG (aA ?_)
 refine S A 1 O fun a A=>V A C O (bW O A O (aH.len hp0 slty111)) fun a A=>S A 1 O fun a A=>aB ?_
 obtain⟨b3,K,E⟩:=bnd E
 refine dM (fun a w=>∃(w2:Value),Env 36 [(6,w2)] a∧Hp Z ρ (aC 58 w2 b3::L) w) ?_ ?_
 ·refine eQ K (fun s a w=>∃(w2:Value),Env 36 [(6,w2),(25,vp0),(26,(Iv (I.length:Int))),(27,(Iv s.1))] a∧Hp Z ρ (aC 58 w2 s.2::L) w) ?_ ?_
  ·exact⟨_,A.cut ⟨O,O,O,O,tv⟩,C⟩
  rintro⟨bP,eP⟩ st a w ⟨w2,A,C⟩ D
  dsimp only at A C D
  unfold Q5 at D
  refine aG (aA ?_)
  refine S A 1 O fun a A=>aB (aG ?_)
  refine dK A O (fun F=>?_) (fun F=>?_)
  ·replace D:=(it F).symm.trans D
   refine bI (aG ?_)
   refine dN (aG ?_)
   refine aA ?_
   obtain⟨x5,W,D⟩:=bnd D
   obtain⟨b4,b4o,b4c,b4r,b4k,b4f⟩:=aH.at hp0 slty111 W
   obtain⟨vb4,rfl,Q⟩:=b4k
   have b4f:AtP ρ b4 b4o [vb4]:=b4f
   refine V A C O (aO O A O O b4r) fun a A=>V A C O (aK O A O (fun w J=>aZ varty34 (b4f.c 0 O w J))) fun a A=>S A 1 O fun a A=>aB (aA ?_)
   refine S A 2 O fun a A=>?_
   obtain⟨x6,U,D⟩:=bnd D
   refine s_apps (wk0 O) O O A C O zY O O 0 O O Q U ?_
   intro v2 a w A C
   have C:=r1 C
   refine S A 1 O fun a A=>aB (aA ?_)
   obtain⟨x7,T,D⟩:=bnd D
   refine V A C O (bF O A O O (aN T)) fun a A=>S A 1 O fun a A=>aB ?_
   exact⟨_,(oj D).symm,_,A.cut ⟨O,O,O,O,tv⟩,C⟩
  replace D:=(ie F).symm.trans D
  refine dZ ?_
  refine⟨_,(oj D).symm,fun hbb=>?_⟩
  subst hbb
  exact⟨_,A.cut ⟨O,tv⟩,C⟩
 rintro a w ⟨w2,A,C⟩
 refine aG (aA ?_)
 refine S A 2 O fun a A=>aB (cZ ?_)
 obtain rfl:=oj E
 exact gY A O O ⟨_,O,_,O,C⟩
theorem c_align_Changes {Z:World} {ρ:PH} {L:List bQ} {w:World} (d:Node) (aI:Value) (aY:aH ρ aI d.kids) (c:Node) (aJ:Value) (bG:aH ρ aJ c.kids) (p2:(List Opn)) (vp2:Value) (hp2:aH ρ vp2 p2) (A:Hp Z ρ (L) w) (r:((List Chg)×Int)) (p:V5 d c p2=some r):
  Calls Tryz.prog 16 #[(.agg #[(Iv d.kind),(.string d.text),(Iv d.at_),(Iv d.fin),aI]),(.agg #[(Iv c.kind),(.string c.text),(Iv c.at_),(Iv c.fin),aJ]),vp2] w (Ret fun v w'=>∃(vr1:Value),v= .tuple #[vr1,(Iv r.2)]∧Hp Z ρ (aC 58 vr1 r.1::L) w'):=by
 refine enter (N:=111) Tryz.func16 O O [(0,(.agg #[(Iv d.kind),(.string d.text),(Iv d.at_),(Iv d.fin),aI])),(1,(.agg #[(Iv c.kind),(.string c.text),(Iv c.at_),(Iv c.fin),aJ])),(2,vp2)] O (bH ⟨O,O,O,tv⟩) fun a B=>?_
 unfold V5 at p
 refine aG (aA ?_)
 refine iH (wk0 O) O O B A O (v:=(.agg #[(Iv d.kind),(.string d.text),(Iv d.at_),(Iv d.fin),aI])) O ?_
 intro a w b1 B A
 have A:=r1 A
 refine iH (wk0 O) O O B A O (v:=(.agg #[(Iv c.kind),(.string c.text),(Iv c.at_),(Iv c.fin),aJ])) O ?_
 intro a w b2 B A
 have A:=r2 A
 refine S B 2 O fun a B=>aB (aG ?_)
 refine aG (aA ?_)
 refine V B A O (aK O B O (fun w t=>aX (cs:=[(Iv d.kind),(.string d.text),(Iv d.at_),(Iv d.fin),aI]) cO (Hp.cN 1 O 0 _ (aS O) w t))) fun a B=>V B A O (aK O B O (fun w t=>aX (cs:=[(Iv c.kind),(.string c.text),(Iv c.at_),(Iv c.fin),aJ]) cO (Hp.cN 0 O 0 _ (aS O) w t))) fun a B=>S B 1 O fun a B=>?_
 obtain⟨x1,ex1,p⟩:=bnd p
 refine Cl B O O ent17 (aE0 d aI aY c aJ bG p2 vp2 hp2 A x1 ex1) ⟨O,O,O,tv⟩ fun v a w k B=>?_
 obtain⟨rfl,A⟩:=k
 have A:=r2 A
 refine S B 1 O fun a B=>aB ?_
 refine dK B O (fun hc1=>?_) (fun hc1=>?_)
 ·replace p:=(it hc1).symm.trans p
  refine aG (aA ?_)
  refine S B 2 O fun a B=>aB (cZ ?_)
  have A:=A.emp (aC.nil (α:=Chg) 58)
  have A:=r3 A
  obtain rfl:=oj p
  exact N7 B O O O ⟨_,O,_,O,((((A.get 2 O).drop).get 1 O).drop)⟩
 replace p:=(ie hc1).symm.trans p
 refine bI (aG ?_)
 obtain⟨x2,ex2,p⟩:=bnd p
 obtain⟨z,q,p⟩:=bnd p
 have A:=A.drew
 refine gK ([([],At0 Z ρ),([],At1 Z ρ (Pt b2 (.cells #[(Iv c.kind),(.string c.text),(Iv c.at_),(Iv c.fin),aJ] 24 (0,0)))),([],At1 Z ρ (Pt b1 (.cells #[(Iv d.kind),(.string d.text),(Iv d.at_),(Iv d.fin),aI] 24 (0,0))))]:Facts) (fun a w=>∃ρy1:PH,∃y6:Nat,∃y5:Nat,∃yv1:Value,∃yv2:Value,∃yv3:Value,∃yv4:Value,∃yv5:Value,∃yv6:Value,ρ.le ρy1∧aH ρy1 yv1 z.nodes∧aH ρy1 yv2 z.sizes∧aH ρy1 yv3 z.parent∧aH ρy1 yv4 x2.nodes∧aH ρy1 yv5 x2.sizes∧aH ρy1 yv6 x2.parent∧Env 111 [(2,vp2),(8,(Pv y5 0)),(9,(Pv y6 0))] a∧Hp Z ρy1 (Pt y6 (.cells #[yv1,yv2,yv3] 75 (0,0))::Pt y5 (.cells #[yv4,yv5,yv6] 75 (0,0))::Pt b2 (.cells #[(Iv c.kind),(.string c.text),(Iv c.at_),(Iv c.fin),aJ] 24 (0,0))::Pt b1 (.cells #[(Iv d.kind),(.string d.text),(Iv d.at_),(Iv d.fin),aI] 24 (0,0))::L) w) kr ⟨fun _=>⟨_,A⟩,fun _=>⟨_,(A.get 0 O)⟩,fun _=>⟨_,(A.get 1 O)⟩,tv⟩ (fun R=>?_) ?_
 ·
  generalize w.drew=w at R A⊢
  refine T 0 2 B R O O O kr (fun _=>aK O B O (fun w t=>aX (cs:=[(Iv d.kind),(.string d.text),(Iv d.at_),(Iv d.fin),aI]) cO (Hp.cN 0 O 0 _ (aS O) w t))) fun a B R=>T 2 1 B R O O O kr (fun _=>aK O B O (fun w t=>aX (cs:=[(Iv c.kind),(.string c.text),(Iv c.at_),(Iv c.fin),aJ]) cO (Hp.cN 0 O 0 _ (aS O) w t))) fun a B R=>?_
  refine fQ [1,4,5] kr O ?_
  refine uE.2 ⟨?_,uE.2 ⟨?_,uE.2 ⟨?_,fun _ h=>absurd h (by simp)⟩⟩⟩
  ·
   refine dV O ?_
   refine Cl B O O kL (bJ d aI aY A x2 ex2) ⟨O,tv⟩ fun v a w k B=>?_
   obtain⟨ρ3,qE,qF,nI,C,rfl,gZ,iC,fJ,A⟩:=k
   have A:=r2 A
   refine aB (aF ⟨fun _=>⟨_,(A.less C)⟩,fun _=>⟨_,((A.get 0 O).less C)⟩,fun _=>⟨_,((A.get 1 O).less C)⟩,tv⟩ fun R=>?_)
   refine fQ [3,4,5] kr O ?_
   refine uE.2 ⟨?_,uE.2 ⟨?_,uE.2 ⟨?_,fun _ h=>absurd h (by simp)⟩⟩⟩
   ·
    refine dV O ?_
    refine Cl B O O kL (bJ c aJ (aH.mono bG C) A z q) ⟨O,tv⟩ fun v a w k B=>?_
    obtain⟨ρ4,wF,wG,tY,E,rfl,qV,qW,oG,A⟩:=k
    have A:=r2 A
    refine aB (aF ⟨fun _=>⟨_,((A.less E).less C)⟩,fun _=>⟨_,(((A.get 0 O).less E).less C)⟩,fun _=>⟨_,(((A.get 1 O).less E).less C)⟩,tv⟩ fun R=>?_)
    refine fQ [4,5] kr O ?_
    refine uE.2 ⟨?_,uE.2 ⟨?_,fun _ h=>absurd h (by simp)⟩⟩
    ·
     refine dV O ?_
     refine dF (wk0 O) O O B A O [N0,N0,N0] (fun w=>by simp[Instr.alloc,go_sem]<;>rfl) ?_
     intro a w b5 B A
     have A:=r3 A
     refine aB (aF ⟨fun _=>⟨_,((A.less E).less C)⟩,fun _=>⟨_,(((A.get 1 O).less E).less C)⟩,fun _=>⟨_,(((A.get 2 O).less E).less C)⟩,tv⟩ fun R=>?_)
     refine W1 5 kr O ?_
     refine dF (wk0 O) O O B A O [N0,N0,N0] (fun w=>by simp[Instr.alloc,go_sem]<;>rfl) ?_
     intro a w b6 B A
     have A:=r4 A
     refine aB (aF ⟨fun _=>⟨_,((A.less E).less C)⟩,fun _=>⟨_,(((A.get 2 O).less E).less C)⟩,fun _=>⟨_,(((A.get 3 O).less E).less C)⟩,tv⟩ fun R=>?_)
     refine W1 6 kr O ?_
     refine aV (wk0 O) O B A O O O 1 O dG.size_ O (aP ⟨(aH.one (aH.mono gZ E)),(aH.one (aH.mono iC E)),(aH.one (aH.mono fJ E)),tv⟩) [qE,qF,nI] O ?_
     intro w A
     have A:=r4 A
     refine aB (aF ⟨fun _=>⟨_,((A.less E).less C)⟩,fun _=>⟨_,(((A.get 2 O).less E).less C)⟩,fun _=>⟨_,(((A.get 3 O).less E).less C)⟩,tv⟩ fun R=>?_)
     refine W1 7 kr O ?_
     refine aV (wk0 O) O B A O O O 0 O dG.size_ O (aP ⟨(aH.one qV),(aH.one qW),(aH.one oG),tv⟩) [wF,wG,tY] O ?_
     intro w A
     have A:=r4 A
     refine aB (aF ⟨fun _=>⟨_,((A.less E).less C)⟩,fun _=>⟨_,(((A.get 2 O).less E).less C)⟩,fun _=>⟨_,(((A.get 3 O).less E).less C)⟩,tv⟩ fun R=>?_)
     exact bT kr ⟨ρ4,_,_,_,_,_,_,_,_,(PH.le.tr C E),qV,qW,oG,(aH.mono gZ E),(aH.mono iC E),(aH.mono fJ E),B.cut ⟨O,O,O,tv⟩,A⟩
    refine dV O ?_
    refine dF (wk0 O) O O B A O [N0,N0,N0] (fun w=>by simp[Instr.alloc,go_sem]<;>rfl) ?_
    intro a w b7 B A
    have A:=r3 A
    refine aB (aF ⟨fun _=>⟨_,((A.less E).less C)⟩,fun _=>⟨_,(((A.get 1 O).less E).less C)⟩,fun _=>⟨_,(((A.get 2 O).less E).less C)⟩,tv⟩ fun R=>?_)
    refine W1 4 kr O ?_
    refine dF (wk0 O) O O B A O [N0,N0,N0] (fun w=>by simp[Instr.alloc,go_sem]<;>rfl) ?_
    intro a w b8 B A
    have A:=r4 A
    refine aB (aF ⟨fun _=>⟨_,((A.less E).less C)⟩,fun _=>⟨_,(((A.get 2 O).less E).less C)⟩,fun _=>⟨_,(((A.get 3 O).less E).less C)⟩,tv⟩ fun R=>?_)
    refine W1 6 kr O ?_
    refine aV (wk0 O) O B A O O O 0 O dG.size_ O (aP ⟨(aH.one (aH.mono gZ E)),(aH.one (aH.mono iC E)),(aH.one (aH.mono fJ E)),tv⟩) [qE,qF,nI] O ?_
    intro w A
    have A:=r4 A
    refine aB (aF ⟨fun _=>⟨_,((A.less E).less C)⟩,fun _=>⟨_,(((A.get 2 O).less E).less C)⟩,fun _=>⟨_,(((A.get 3 O).less E).less C)⟩,tv⟩ fun R=>?_)
    refine W1 7 kr O ?_
    refine aV (wk0 O) O B A O O O 1 O dG.size_ O (aP ⟨(aH.one qV),(aH.one qW),(aH.one oG),tv⟩) [wF,wG,tY] O ?_
    intro w A
    have A:=r4 A
    refine aB (aF ⟨fun _=>⟨_,((A.less E).less C)⟩,fun _=>⟨_,(((A.get 2 O).less E).less C)⟩,fun _=>⟨_,(((A.get 3 O).less E).less C)⟩,tv⟩ fun R=>?_)
    exact bT kr ⟨ρ4,_,_,_,_,_,_,_,_,(PH.le.tr C E),qV,qW,oG,(aH.mono gZ E),(aH.mono iC E),(aH.mono fJ E),B.cut ⟨O,O,O,tv⟩,((((A.get 3 O).get 3 O).get 2 O).get 3 O)⟩
   ·
    refine dV O ?_
    refine dF (wk0 O) O O B A O [N0,N0,N0] (fun w=>by simp[Instr.alloc,go_sem]<;>rfl) ?_
    intro a w b9 B A
    have A:=r3 A
    refine aB (aF ⟨fun _=>⟨_,(A.less C)⟩,fun _=>⟨_,((A.get 1 O).less C)⟩,fun _=>⟨_,((A.get 2 O).less C)⟩,tv⟩ fun R=>?_)
    refine fQ [3,5] kr O ?_
    refine uE.2 ⟨?_,uE.2 ⟨?_,fun _ h=>absurd h (by simp)⟩⟩
    ·
     refine dV O ?_
     refine Cl B O O kL (bJ c aJ (aH.mono bG C) A z q) ⟨O,tv⟩ fun v a w k B=>?_
     obtain⟨ρ5,zK,zL,wW,W,rfl,vO,vP,tN,A⟩:=k
     have A:=r3 A
     refine aB (aF ⟨fun _=>⟨_,((A.less W).less C)⟩,fun _=>⟨_,(((A.get 1 O).less W).less C)⟩,fun _=>⟨_,(((A.get 2 O).less W).less C)⟩,tv⟩ fun R=>?_)
     refine W1 5 kr O ?_
     refine dF (wk0 O) O O B A O [N0,N0,N0] (fun w=>by simp[Instr.alloc,go_sem]<;>rfl) ?_
     intro a w b10 B A
     have A:=r4 A
     refine aB (aF ⟨fun _=>⟨_,((A.less W).less C)⟩,fun _=>⟨_,(((A.get 2 O).less W).less C)⟩,fun _=>⟨_,(((A.get 3 O).less W).less C)⟩,tv⟩ fun R=>?_)
     refine W1 6 kr O ?_
     refine aV (wk0 O) O B A O O O 1 O dG.size_ O (aP ⟨(aH.one (aH.mono gZ W)),(aH.one (aH.mono iC W)),(aH.one (aH.mono fJ W)),tv⟩) [qE,qF,nI] O ?_
     intro w A
     have A:=r4 A
     refine aB (aF ⟨fun _=>⟨_,((A.less W).less C)⟩,fun _=>⟨_,(((A.get 2 O).less W).less C)⟩,fun _=>⟨_,(((A.get 3 O).less W).less C)⟩,tv⟩ fun R=>?_)
     refine W1 7 kr O ?_
     refine aV (wk0 O) O B A O O O 0 O dG.size_ O (aP ⟨(aH.one vO),(aH.one vP),(aH.one tN),tv⟩) [zK,zL,wW] O ?_
     intro w A
     have A:=r4 A
     refine aB (aF ⟨fun _=>⟨_,((A.less W).less C)⟩,fun _=>⟨_,(((A.get 2 O).less W).less C)⟩,fun _=>⟨_,(((A.get 3 O).less W).less C)⟩,tv⟩ fun R=>?_)
     exact bT kr ⟨ρ5,_,_,_,_,_,_,_,_,(PH.le.tr C W),vO,vP,tN,(aH.mono gZ W),(aH.mono iC W),(aH.mono fJ W),B.cut ⟨O,O,O,tv⟩,A⟩
    refine dV O ?_
    refine dF (wk0 O) O O B A O [N0,N0,N0] (fun w=>by simp[Instr.alloc,go_sem]<;>rfl) ?_
    intro a w b11 B A
    have A:=r4 A
    refine aB (aF ⟨fun _=>⟨_,(A.less C)⟩,fun _=>⟨_,((A.get 2 O).less C)⟩,fun _=>⟨_,((A.get 3 O).less C)⟩,tv⟩ fun R=>?_)
    refine W1 3 kr O ?_
    refine Cl B O O kL (bJ c aJ (aH.mono bG C) A z q) ⟨O,tv⟩ fun v a w k B=>?_
    obtain⟨ρ6,aG9,aH0,aC4,i,rfl,D9,E5,yT,A⟩:=k
    have A:=r4 A
    refine aB (aF ⟨fun _=>⟨_,((A.less i).less C)⟩,fun _=>⟨_,(((A.get 2 O).less i).less C)⟩,fun _=>⟨_,(((A.get 3 O).less i).less C)⟩,tv⟩ fun R=>?_)
    refine W1 6 kr O ?_
    refine aV (wk0 O) O B A O O O 1 O dG.size_ O (aP ⟨(aH.one (aH.mono gZ i)),(aH.one (aH.mono iC i)),(aH.one (aH.mono fJ i)),tv⟩) [qE,qF,nI] O ?_
    intro w A
    have A:=r4 A
    refine aB (aF ⟨fun _=>⟨_,((A.less i).less C)⟩,fun _=>⟨_,(((A.get 2 O).less i).less C)⟩,fun _=>⟨_,(((A.get 3 O).less i).less C)⟩,tv⟩ fun R=>?_)
    refine W1 7 kr O ?_
    refine aV (wk0 O) O B A O O O 0 O dG.size_ O (aP ⟨(aH.one D9),(aH.one E5),(aH.one yT),tv⟩) [aG9,aH0,aC4] O ?_
    intro w A
    have A:=r4 A
    refine aB (aF ⟨fun _=>⟨_,((A.less i).less C)⟩,fun _=>⟨_,(((A.get 2 O).less i).less C)⟩,fun _=>⟨_,(((A.get 3 O).less i).less C)⟩,tv⟩ fun R=>?_)
    exact bT kr ⟨ρ6,_,_,_,_,_,_,_,_,(PH.le.tr C i),D9,E5,yT,(aH.mono gZ i),(aH.mono iC i),(aH.mono fJ i),B.cut ⟨O,O,O,tv⟩,A⟩
   refine dV O ?_
   refine dF (wk0 O) O O B A O [N0,N0,N0] (fun w=>by simp[Instr.alloc,go_sem]<;>rfl) ?_
   intro a w b12 B A
   have A:=r3 A
   refine aB (aF ⟨fun _=>⟨_,(A.less C)⟩,fun _=>⟨_,((A.get 1 O).less C)⟩,fun _=>⟨_,((A.get 2 O).less C)⟩,tv⟩ fun R=>?_)
   refine fQ [3,4] kr O ?_
   refine uE.2 ⟨?_,uE.2 ⟨?_,fun _ h=>absurd h (by simp)⟩⟩
   ·
    refine dV O ?_
    refine Cl B O O kL (bJ c aJ (aH.mono bG C) A z q) ⟨O,tv⟩ fun v a w k B=>?_
    obtain⟨ρ7,aH1,aH2,aC5,U,rfl,E8,F5,yU,A⟩:=k
    have A:=r3 A
    refine aB (aF ⟨fun _=>⟨_,((A.less U).less C)⟩,fun _=>⟨_,(((A.get 1 O).less U).less C)⟩,fun _=>⟨_,(((A.get 2 O).less U).less C)⟩,tv⟩ fun R=>?_)
    refine W1 4 kr O ?_
    refine dF (wk0 O) O O B A O [N0,N0,N0] (fun w=>by simp[Instr.alloc,go_sem]<;>rfl) ?_
    intro a w b13 B A
    have A:=r4 A
    refine aB (aF ⟨fun _=>⟨_,((A.less U).less C)⟩,fun _=>⟨_,(((A.get 2 O).less U).less C)⟩,fun _=>⟨_,(((A.get 3 O).less U).less C)⟩,tv⟩ fun R=>?_)
    refine W1 6 kr O ?_
    refine aV (wk0 O) O B A O O O 0 O dG.size_ O (aP ⟨(aH.one (aH.mono gZ U)),(aH.one (aH.mono iC U)),(aH.one (aH.mono fJ U)),tv⟩) [qE,qF,nI] O ?_
    intro w A
    have A:=r4 A
    refine aB (aF ⟨fun _=>⟨_,((A.less U).less C)⟩,fun _=>⟨_,(((A.get 2 O).less U).less C)⟩,fun _=>⟨_,(((A.get 3 O).less U).less C)⟩,tv⟩ fun R=>?_)
    refine W1 7 kr O ?_
    refine aV (wk0 O) O B A O O O 1 O dG.size_ O (aP ⟨(aH.one E8),(aH.one F5),(aH.one yU),tv⟩) [aH1,aH2,aC5] O ?_
    intro w A
    have A:=r4 A
    refine aB (aF ⟨fun _=>⟨_,((A.less U).less C)⟩,fun _=>⟨_,(((A.get 2 O).less U).less C)⟩,fun _=>⟨_,(((A.get 3 O).less U).less C)⟩,tv⟩ fun R=>?_)
    exact bT kr ⟨ρ7,_,_,_,_,_,_,_,_,(PH.le.tr C U),E8,F5,yU,(aH.mono gZ U),(aH.mono iC U),(aH.mono fJ U),B.cut ⟨O,O,O,tv⟩,((((A.get 3 O).get 3 O).get 2 O).get 3 O)⟩
   refine dV O ?_
   refine dF (wk0 O) O O B A O [N0,N0,N0] (fun w=>by simp[Instr.alloc,go_sem]<;>rfl) ?_
   intro a w b14 B A
   have A:=r4 A
   refine aB (aF ⟨fun _=>⟨_,(A.less C)⟩,fun _=>⟨_,((A.get 2 O).less C)⟩,fun _=>⟨_,((A.get 3 O).less C)⟩,tv⟩ fun R=>?_)
   refine W1 3 kr O ?_
   refine Cl B O O kL (bJ c aJ (aH.mono bG C) A z q) ⟨O,tv⟩ fun v a w k B=>?_
   obtain⟨ρ8,Y9,Z4,O4,g,rfl,xG,xH,uX,A⟩:=k
   have A:=r4 A
   refine aB (aF ⟨fun _=>⟨_,((A.less g).less C)⟩,fun _=>⟨_,(((A.get 2 O).less g).less C)⟩,fun _=>⟨_,(((A.get 3 O).less g).less C)⟩,tv⟩ fun R=>?_)
   refine W1 6 kr O ?_
   refine aV (wk0 O) O B A O O O 0 O dG.size_ O (aP ⟨(aH.one (aH.mono gZ g)),(aH.one (aH.mono iC g)),(aH.one (aH.mono fJ g)),tv⟩) [qE,qF,nI] O ?_
   intro w A
   have A:=r4 A
   refine aB (aF ⟨fun _=>⟨_,((A.less g).less C)⟩,fun _=>⟨_,(((A.get 2 O).less g).less C)⟩,fun _=>⟨_,(((A.get 3 O).less g).less C)⟩,tv⟩ fun R=>?_)
   refine W1 7 kr O ?_
   refine aV (wk0 O) O B A O O O 1 O dG.size_ O (aP ⟨(aH.one xG),(aH.one xH),(aH.one uX),tv⟩) [Y9,Z4,O4] O ?_
   intro w A
   have A:=r4 A
   refine aB (aF ⟨fun _=>⟨_,((A.less g).less C)⟩,fun _=>⟨_,(((A.get 2 O).less g).less C)⟩,fun _=>⟨_,(((A.get 3 O).less g).less C)⟩,tv⟩ fun R=>?_)
   exact bT kr ⟨ρ8,_,_,_,_,_,_,_,_,(PH.le.tr C g),xG,xH,uX,(aH.mono gZ g),(aH.mono iC g),(aH.mono fJ g),B.cut ⟨O,O,O,tv⟩,((((A.get 3 O).get 3 O).get 2 O).get 3 O)⟩
  ·
   refine dV O ?_
   refine dF (wk0 O) O O B A O [N0,N0,N0] (fun w=>by simp[Instr.alloc,go_sem]<;>rfl) ?_
   intro a w b15 B A
   have A:=r3 A
   refine aB (aF ⟨gp0 A,gp 1 A O,gp 2 A O,tv⟩ fun R=>?_)
   refine fQ [1,5] kr O ?_
   refine uE.2 ⟨?_,uE.2 ⟨?_,fun _ h=>absurd h (by simp)⟩⟩
   ·
    refine dV O ?_
    refine Cl B O O kL (bJ d aI aY A x2 ex2) ⟨O,tv⟩ fun v a w k B=>?_
    obtain⟨ρ9,zZ,A8,yZ,F,rfl,sF,sG,qG,A⟩:=k
    have A:=r3 A
    refine aB (aF ⟨fun _=>⟨_,(A.less F)⟩,fun _=>⟨_,((A.get 1 O).less F)⟩,fun _=>⟨_,((A.get 2 O).less F)⟩,tv⟩ fun R=>?_)
    refine fQ [3,5] kr O ?_
    refine uE.2 ⟨?_,uE.2 ⟨?_,fun _ h=>absurd h (by simp)⟩⟩
    ·
     refine dV O ?_
     refine Cl B O O kL (bJ c aJ (aH.mono bG F) A z q) ⟨O,tv⟩ fun v a w k B=>?_
     obtain⟨ρ10,aB1,aB2,S9,I,rfl,yH,yI,wJ,A⟩:=k
     have A:=r3 A
     refine aB (aF ⟨fun _=>⟨_,((A.less I).less F)⟩,fun _=>⟨_,(((A.get 1 O).less I).less F)⟩,fun _=>⟨_,(((A.get 2 O).less I).less F)⟩,tv⟩ fun R=>?_)
     refine W1 5 kr O ?_
     refine dF (wk0 O) O O B A O [N0,N0,N0] (fun w=>by simp[Instr.alloc,go_sem]<;>rfl) ?_
     intro a w b16 B A
     have A:=r4 A
     refine aB (aF ⟨fun _=>⟨_,((A.less I).less F)⟩,fun _=>⟨_,(((A.get 2 O).less I).less F)⟩,fun _=>⟨_,(((A.get 3 O).less I).less F)⟩,tv⟩ fun R=>?_)
     refine W1 6 kr O ?_
     refine aV (wk0 O) O B A O O O 1 O dG.size_ O (aP ⟨(aH.one (aH.mono sF I)),(aH.one (aH.mono sG I)),(aH.one (aH.mono qG I)),tv⟩) [zZ,A8,yZ] O ?_
     intro w A
     have A:=r4 A
     refine aB (aF ⟨fun _=>⟨_,((A.less I).less F)⟩,fun _=>⟨_,(((A.get 2 O).less I).less F)⟩,fun _=>⟨_,(((A.get 3 O).less I).less F)⟩,tv⟩ fun R=>?_)
     refine W1 7 kr O ?_
     refine aV (wk0 O) O B A O O O 0 O dG.size_ O (aP ⟨(aH.one yH),(aH.one yI),(aH.one wJ),tv⟩) [aB1,aB2,S9] O ?_
     intro w A
     have A:=r4 A
     refine aB (aF ⟨fun _=>⟨_,((A.less I).less F)⟩,fun _=>⟨_,(((A.get 2 O).less I).less F)⟩,fun _=>⟨_,(((A.get 3 O).less I).less F)⟩,tv⟩ fun R=>?_)
     exact bT kr ⟨ρ10,_,_,_,_,_,_,_,_,(PH.le.tr F I),yH,yI,wJ,(aH.mono sF I),(aH.mono sG I),(aH.mono qG I),B.cut ⟨O,O,O,tv⟩,A⟩
    refine dV O ?_
    refine dF (wk0 O) O O B A O [N0,N0,N0] (fun w=>by simp[Instr.alloc,go_sem]<;>rfl) ?_
    intro a w b17 B A
    have A:=r4 A
    refine aB (aF ⟨fun _=>⟨_,(A.less F)⟩,fun _=>⟨_,((A.get 2 O).less F)⟩,fun _=>⟨_,((A.get 3 O).less F)⟩,tv⟩ fun R=>?_)
    refine W1 3 kr O ?_
    refine Cl B O O kL (bJ c aJ (aH.mono bG F) A z q) ⟨O,tv⟩ fun v a w k B=>?_
    obtain⟨ρ11,aB3,aB4,U0,Q,rfl,yJ,yK,wK,A⟩:=k
    have A:=r4 A
    refine aB (aF ⟨fun _=>⟨_,((A.less Q).less F)⟩,fun _=>⟨_,(((A.get 2 O).less Q).less F)⟩,fun _=>⟨_,(((A.get 3 O).less Q).less F)⟩,tv⟩ fun R=>?_)
    refine W1 6 kr O ?_
    refine aV (wk0 O) O B A O O O 1 O dG.size_ O (aP ⟨(aH.one (aH.mono sF Q)),(aH.one (aH.mono sG Q)),(aH.one (aH.mono qG Q)),tv⟩) [zZ,A8,yZ] O ?_
    intro w A
    have A:=r4 A
    refine aB (aF ⟨fun _=>⟨_,((A.less Q).less F)⟩,fun _=>⟨_,(((A.get 2 O).less Q).less F)⟩,fun _=>⟨_,(((A.get 3 O).less Q).less F)⟩,tv⟩ fun R=>?_)
    refine W1 7 kr O ?_
    refine aV (wk0 O) O B A O O O 0 O dG.size_ O (aP ⟨(aH.one yJ),(aH.one yK),(aH.one wK),tv⟩) [aB3,aB4,U0] O ?_
    intro w A
    have A:=r4 A
    refine aB (aF ⟨fun _=>⟨_,((A.less Q).less F)⟩,fun _=>⟨_,(((A.get 2 O).less Q).less F)⟩,fun _=>⟨_,(((A.get 3 O).less Q).less F)⟩,tv⟩ fun R=>?_)
    exact bT kr ⟨ρ11,_,_,_,_,_,_,_,_,(PH.le.tr F Q),yJ,yK,wK,(aH.mono sF Q),(aH.mono sG Q),(aH.mono qG Q),B.cut ⟨O,O,O,tv⟩,A⟩
   refine dV O ?_
   refine dF (wk0 O) O O B A O [N0,N0,N0] (fun w=>by simp[Instr.alloc,go_sem]<;>rfl) ?_
   intro a w b18 B A
   have A:=r4 A
   refine aB (aF ⟨gp0 A,gp 2 A O,gp 3 A O,tv⟩ fun R=>?_)
   refine W1 1 kr O ?_
   refine Cl B O O kL (bJ d aI aY A x2 ex2) ⟨O,tv⟩ fun v a w k B=>?_
   obtain⟨ρ12,aB5,aB6,U1,Y,rfl,yL,yM,wL,A⟩:=k
   have A:=r4 A
   refine aB (aF ⟨fun _=>⟨_,(A.less Y)⟩,fun _=>⟨_,((A.get 2 O).less Y)⟩,fun _=>⟨_,((A.get 3 O).less Y)⟩,tv⟩ fun R=>?_)
   refine W1 3 kr O ?_
   refine Cl B O O kL (bJ c aJ (aH.mono bG Y) A z q) ⟨O,tv⟩ fun v a w k B=>?_
   obtain⟨ρ13,N9,O0,F8,M,rfl,uU,uV,tH,A⟩:=k
   have A:=r4 A
   refine aB (aF ⟨fun _=>⟨_,((A.less M).less Y)⟩,fun _=>⟨_,(((A.get 2 O).less M).less Y)⟩,fun _=>⟨_,(((A.get 3 O).less M).less Y)⟩,tv⟩ fun R=>?_)
   refine W1 6 kr O ?_
   refine aV (wk0 O) O B A O O O 1 O dG.size_ O (aP ⟨(aH.one (aH.mono yL M)),(aH.one (aH.mono yM M)),(aH.one (aH.mono wL M)),tv⟩) [aB5,aB6,U1] O ?_
   intro w A
   have A:=r4 A
   refine aB (aF ⟨fun _=>⟨_,((A.less M).less Y)⟩,fun _=>⟨_,(((A.get 2 O).less M).less Y)⟩,fun _=>⟨_,(((A.get 3 O).less M).less Y)⟩,tv⟩ fun R=>?_)
   refine W1 7 kr O ?_
   refine aV (wk0 O) O B A O O O 0 O dG.size_ O (aP ⟨(aH.one uU),(aH.one uV),(aH.one tH),tv⟩) [N9,O0,F8] O ?_
   intro w A
   have A:=r4 A
   refine aB (aF ⟨fun _=>⟨_,((A.less M).less Y)⟩,fun _=>⟨_,(((A.get 2 O).less M).less Y)⟩,fun _=>⟨_,(((A.get 3 O).less M).less Y)⟩,tv⟩ fun R=>?_)
   exact bT kr ⟨ρ13,_,_,_,_,_,_,_,_,(PH.le.tr Y M),uU,uV,tH,(aH.mono yL M),(aH.mono yM M),(aH.mono wL M),B.cut ⟨O,O,O,tv⟩,A⟩
  refine dV O ?_
  refine dF (wk0 O) O O B A O [N0,N0,N0] (fun w=>by simp[Instr.alloc,go_sem]<;>rfl) ?_
  intro a w b19 B A
  have A:=r3 A
  refine aB (aF ⟨gp0 A,gp 1 A O,gp 2 A O,tv⟩ fun R=>?_)
  refine fQ [1,4] kr O ?_
  refine uE.2 ⟨?_,uE.2 ⟨?_,fun _ h=>absurd h (by simp)⟩⟩
  ·
   refine dV O ?_
   refine Cl B O O kL (bJ d aI aY A x2 ex2) ⟨O,tv⟩ fun v a w k B=>?_
   obtain⟨ρ14,C9,D5,zA,D,rfl,sH,sJ,qH,A⟩:=k
   have A:=r3 A
   refine aB (aF ⟨fun _=>⟨_,(A.less D)⟩,fun _=>⟨_,((A.get 1 O).less D)⟩,fun _=>⟨_,((A.get 2 O).less D)⟩,tv⟩ fun R=>?_)
   refine fQ [3,4] kr O ?_
   refine uE.2 ⟨?_,uE.2 ⟨?_,fun _ h=>absurd h (by simp)⟩⟩
   ·
    refine dV O ?_
    refine Cl B O O kL (bJ c aJ (aH.mono bG D) A z q) ⟨O,tv⟩ fun v a w k B=>?_
    obtain⟨ρ15,aB7,aB8,U2,H,rfl,yN,yO,wM,A⟩:=k
    have A:=r3 A
    refine aB (aF ⟨fun _=>⟨_,((A.less H).less D)⟩,fun _=>⟨_,(((A.get 1 O).less H).less D)⟩,fun _=>⟨_,(((A.get 2 O).less H).less D)⟩,tv⟩ fun R=>?_)
    refine W1 4 kr O ?_
    refine dF (wk0 O) O O B A O [N0,N0,N0] (fun w=>by simp[Instr.alloc,go_sem]<;>rfl) ?_
    intro a w b20 B A
    have A:=r4 A
    refine aB (aF ⟨fun _=>⟨_,((A.less H).less D)⟩,fun _=>⟨_,(((A.get 2 O).less H).less D)⟩,fun _=>⟨_,(((A.get 3 O).less H).less D)⟩,tv⟩ fun R=>?_)
    refine W1 6 kr O ?_
    refine aV (wk0 O) O B A O O O 0 O dG.size_ O (aP ⟨(aH.one (aH.mono sH H)),(aH.one (aH.mono sJ H)),(aH.one (aH.mono qH H)),tv⟩) [C9,D5,zA] O ?_
    intro w A
    have A:=r4 A
    refine aB (aF ⟨fun _=>⟨_,((A.less H).less D)⟩,fun _=>⟨_,(((A.get 2 O).less H).less D)⟩,fun _=>⟨_,(((A.get 3 O).less H).less D)⟩,tv⟩ fun R=>?_)
    refine W1 7 kr O ?_
    refine aV (wk0 O) O B A O O O 1 O dG.size_ O (aP ⟨(aH.one yN),(aH.one yO),(aH.one wM),tv⟩) [aB7,aB8,U2] O ?_
    intro w A
    have A:=r4 A
    refine aB (aF ⟨fun _=>⟨_,((A.less H).less D)⟩,fun _=>⟨_,(((A.get 2 O).less H).less D)⟩,fun _=>⟨_,(((A.get 3 O).less H).less D)⟩,tv⟩ fun R=>?_)
    exact bT kr ⟨ρ15,_,_,_,_,_,_,_,_,(PH.le.tr D H),yN,yO,wM,(aH.mono sH H),(aH.mono sJ H),(aH.mono qH H),B.cut ⟨O,O,O,tv⟩,((((A.get 3 O).get 3 O).get 2 O).get 3 O)⟩
   refine dV O ?_
   refine dF (wk0 O) O O B A O [N0,N0,N0] (fun w=>by simp[Instr.alloc,go_sem]<;>rfl) ?_
   intro a w b21 B A
   have A:=r4 A
   refine aB (aF ⟨fun _=>⟨_,(A.less D)⟩,fun _=>⟨_,((A.get 2 O).less D)⟩,fun _=>⟨_,((A.get 3 O).less D)⟩,tv⟩ fun R=>?_)
   refine W1 3 kr O ?_
   refine Cl B O O kL (bJ c aJ (aH.mono bG D) A z q) ⟨O,tv⟩ fun v a w k B=>?_
   obtain⟨ρ16,aB9,aC0,U3,K,rfl,yP,yQ,wO,A⟩:=k
   have A:=r4 A
   refine aB (aF ⟨fun _=>⟨_,((A.less K).less D)⟩,fun _=>⟨_,(((A.get 2 O).less K).less D)⟩,fun _=>⟨_,(((A.get 3 O).less K).less D)⟩,tv⟩ fun R=>?_)
   refine W1 6 kr O ?_
   refine aV (wk0 O) O B A O O O 0 O dG.size_ O (aP ⟨(aH.one (aH.mono sH K)),(aH.one (aH.mono sJ K)),(aH.one (aH.mono qH K)),tv⟩) [C9,D5,zA] O ?_
   intro w A
   have A:=r4 A
   refine aB (aF ⟨fun _=>⟨_,((A.less K).less D)⟩,fun _=>⟨_,(((A.get 2 O).less K).less D)⟩,fun _=>⟨_,(((A.get 3 O).less K).less D)⟩,tv⟩ fun R=>?_)
   refine W1 7 kr O ?_
   refine aV (wk0 O) O B A O O O 1 O dG.size_ O (aP ⟨(aH.one yP),(aH.one yQ),(aH.one wO),tv⟩) [aB9,aC0,U3] O ?_
   intro w A
   have A:=r4 A
   refine aB (aF ⟨fun _=>⟨_,((A.less K).less D)⟩,fun _=>⟨_,(((A.get 2 O).less K).less D)⟩,fun _=>⟨_,(((A.get 3 O).less K).less D)⟩,tv⟩ fun R=>?_)
   exact bT kr ⟨ρ16,_,_,_,_,_,_,_,_,(PH.le.tr D K),yP,yQ,wO,(aH.mono sH K),(aH.mono sJ K),(aH.mono qH K),B.cut ⟨O,O,O,tv⟩,((((A.get 3 O).get 3 O).get 2 O).get 3 O)⟩
  refine dV O ?_
  refine dF (wk0 O) O O B A O [N0,N0,N0] (fun w=>by simp[Instr.alloc,go_sem]<;>rfl) ?_
  intro a w b22 B A
  have A:=r4 A
  refine aB (aF ⟨gp0 A,gp 2 A O,gp 3 A O,tv⟩ fun R=>?_)
  refine W1 1 kr O ?_
  refine Cl B O O kL (bJ d aI aY A x2 ex2) ⟨O,tv⟩ fun v a w k B=>?_
  obtain⟨ρ17,aC1,aC2,U4,X,rfl,yR,yS,wQ,A⟩:=k
  have A:=r4 A
  refine aB (aF ⟨fun _=>⟨_,(A.less X)⟩,fun _=>⟨_,((A.get 2 O).less X)⟩,fun _=>⟨_,((A.get 3 O).less X)⟩,tv⟩ fun R=>?_)
  refine W1 3 kr O ?_
  refine Cl B O O kL (bJ c aJ (aH.mono bG X) A z q) ⟨O,tv⟩ fun v a w k B=>?_
  obtain⟨ρ18,aQ3,aQ4,aM7,J,rfl,aA3,aA4,P7,A⟩:=k
  have A:=r4 A
  refine aB (aF ⟨fun _=>⟨_,((A.less J).less X)⟩,fun _=>⟨_,(((A.get 2 O).less J).less X)⟩,fun _=>⟨_,(((A.get 3 O).less J).less X)⟩,tv⟩ fun R=>?_)
  refine W1 6 kr O ?_
  refine aV (wk0 O) O B A O O O 0 O dG.size_ O (aP ⟨(aH.one (aH.mono yR J)),(aH.one (aH.mono yS J)),(aH.one (aH.mono wQ J)),tv⟩) [aC1,aC2,U4] O ?_
  intro w A
  have A:=r4 A
  refine aB (aF ⟨fun _=>⟨_,((A.less J).less X)⟩,fun _=>⟨_,(((A.get 2 O).less J).less X)⟩,fun _=>⟨_,(((A.get 3 O).less J).less X)⟩,tv⟩ fun R=>?_)
  refine W1 7 kr O ?_
  refine aV (wk0 O) O B A O O O 1 O dG.size_ O (aP ⟨(aH.one aA3),(aH.one aA4),(aH.one P7),tv⟩) [aQ3,aQ4,aM7] O ?_
  intro w A
  have A:=r4 A
  refine aB (aF ⟨fun _=>⟨_,((A.less J).less X)⟩,fun _=>⟨_,(((A.get 2 O).less J).less X)⟩,fun _=>⟨_,(((A.get 3 O).less J).less X)⟩,tv⟩ fun R=>?_)
  exact bT kr ⟨ρ18,_,_,_,_,_,_,_,_,(PH.le.tr X J),aA3,aA4,P7,(aH.mono yR J),(aH.mono yS J),(aH.mono wQ J),B.cut ⟨O,O,O,tv⟩,((((A.get 3 O).get 3 O).get 2 O).get 3 O)⟩
 rintro a w ⟨ρy1,y6,y5,yv1,yv2,yv3,yv4,yv5,yv6,hley1,yh1,yh2,yh3,yh4,yh5,yh6,B,A⟩
 refine aG (aA ?_)
 refine S B 3 O fun a B=>aB (aG ?_)
 refine aA (V B A O (xf B lQ O O) fun a B=>?_)
 refine V B A O (xl B iK 0 O O O O) fun a B=>V B A O (bW O B O (aH.len yh1 iZ)) fun a B=>?_
 obtain⟨x4,ex4,p⟩:=bnd p
 refine aM4 (wk0 O) O O B A O (El:=4) (bytes:=1) kr (false:Bool) kr kr O O ex4 ?_
 intro v1 a w B A
 have A:=r5 A
 refine S B 1 O fun a B=>aB (aG ?_)
 refine aG (aA ?_)
 refine S B 1 O fun a B=>V B A O (bW O B O (aH.len (aH.mono hp2 hley1) fE)) fun a B=>S B 1 O fun a B=>aB ?_
 have A:=A.emp (aC.nil (α:=Chg) 58)
 have A:=r6 A
 have A:=A.emp (aC.nil (α:=Chg) 58)
 have A:=r7 A
 obtain⟨b23,hc2,p⟩:=bnd p
 refine dM (fun a w=>∃(w15:Value) (w14:Value) (w7:Value),Env 111 [(2,vp2),(9,(Pv y6 0)),(10,w15),(11,w14),(12,N0),(13,w7)] a∧Hp Z ρy1 (aC 58 w15 b23.1::aC 58 w14 b23.2.1::aC 4 w7 b23.2.2::Pt y6 (.cells #[yv1,yv2,yv3] 75 (0,0))::Pt y5 (.cells #[yv4,yv5,yv6] 75 (0,0))::Pt b2 (.cells #[(Iv c.kind),(.string c.text),(Iv c.at_),(Iv c.fin),aJ] 24 (0,0))::Pt b1 (.cells #[(Iv d.kind),(.string d.text),(Iv d.at_),(Iv d.fin),aI] 24 (0,0))::L) w) ?_ ?_
 ·refine eQ hc2 (fun s a w=>∃(w15:Value) (w14:Value) (w7:Value),Env 111 [(2,vp2),(8,(Pv y5 0)),(9,(Pv y6 0)),(10,w15),(11,w14),(12,N0),(13,w7),(32,vp2),(33,(Iv (p2.length:Int))),(34,(Iv s.1))] a∧Hp Z ρy1 (aC 58 w15 s.2.1::aC 58 w14 s.2.2.1::aC 4 w7 s.2.2.2::Pt y6 (.cells #[yv1,yv2,yv3] 75 (0,0))::Pt y5 (.cells #[yv4,yv5,yv6] 75 (0,0))::Pt b2 (.cells #[(Iv c.kind),(.string c.text),(Iv c.at_),(Iv c.fin),aJ] 24 (0,0))::Pt b1 (.cells #[(Iv d.kind),(.string d.text),(Iv d.at_),(Iv d.fin),aI] 24 (0,0))::L) w) ?_ ?_
  ·exact⟨_,_,_,B.cut ⟨O,O,O,O,O,O,O,O,O,O,tv⟩,A⟩
  rintro⟨aQ,aU,dS,fK⟩ st a w ⟨w15,w14,w7,B,A⟩ G
  dsimp only at B A G
  unfold X0 at G
  refine aG (aA ?_)
  refine S B 1 O fun a B=>aB (aG ?_)
  refine dK B O (fun hc3=>?_) (fun hc3=>?_)
  ·replace G:=(it hc3).symm.trans G
   refine bI (aG ?_)
   refine dN (aG ?_)
   refine aA ?_
   obtain⟨x,ex5,G⟩:=bnd G
   obtain⟨b24,b24o,b24c,b24r,b24k,b24f⟩:=aH.at (aH.mono hp2 hley1) fE ex5
   obtain rfl:b24c=Enc.enc x:=b24k
   have b24f:AtP ρy1 b24 b24o [(Iv x.a),(Iv x.b)]:=b24f
   refine V B A O (aO O B O O b24r) fun a B=>V B A O (aK O B O (fun w t=>aX (cs:=[(Iv x.a),(Iv x.b)]) fH (fun j u hj=>cell_of t.le (b24f j u hj)))) fun a B=>?_
   refine dF (wk0 O) O O B A O [(Iv 0),(Iv 0)] (fun w=>by simp[Instr.alloc,go_sem]<;>rfl) ?_
   intro a w b25 B A
   have A:=r8 A
   refine aV (wk0 O) O B A O O O 0 O fH.size_ O (aP ⟨O,O,tv⟩) [(Iv x.a),(Iv x.b)] O ?_
   intro w A
   have A:=r8 A
   refine aB (dN ?_)
   refine aG (aA ?_)
   refine V B A O (xf B eF O O) fun a B=>V B A O (xl B aW 0 O O O O) fun a B=>S B 2 O fun a B=>aB ?_
   refine dK B O (fun hc4=>?_) (fun hc4=>?_)
   ·replace G:=(it hc4).symm.trans G
    refine aA (S B 1 O fun a B=>?_)
    refine V B A O (xf B fV O O) fun a B=>V B A O (xl B aW 0 O O O O) fun a B=>V B A O (v:=(.agg #[(Iv 1),(Iv x.a),(Iv 0),(Iv 0),(Iv 0),(.string ByteArray.empty)])) (oD O B [(0,(Iv 1)),(1,(Iv x.a))] (by exact⟨⟨O,O⟩,⟨O,O⟩,tv⟩) (fun w=>by simp[Instr.build,Instr.fill,Value.cells,go_sem]<;>rfl)) fun a B=>?_
    refine fU (wk0 O) O O B A O [(0,(.agg #[(Iv 1),(Iv x.a),(Iv 0),(Iv 0),(Iv 0),(.string ByteArray.empty)]))] ⟨⟨O,O⟩,tv⟩ [(Iv 1),(Iv x.a),(Iv 0),(Iv 0),(Iv 0),(.string ByteArray.empty)] 58 (fun w=>by simp[Instr.buildSlice,Instr.fill,Value.cells,go_sem]) ?_
    intro a w b26 B A
    have A:=r9 A
    obtain⟨x6,ex6,G⟩:=bnd G
    refine gB (wk0 O) O O B A O zY O O 3 O O (l2:=[(Chg.mk 1 x.a 0 0 0 ByteArray.empty)]) O (fun j u hj=>by have:=Hp.cN 0 O 0 _ (aS O) w A j u hj;simpa using this) ex6 ?_
    intro v2 a w B A
    have A:=r9 A
    refine S B 1 O fun a B=>aB ?_
    have B:=B.cut (E':=[(2,vp2),(8,(Pv y5 0)),(9,(Pv y6 0)),(10,w15),(11,v2),(12,N0),(13,w7),(32,vp2),(33,(Iv (p2.length:Int))),(34,(Iv aQ))]) ⟨O,O,O,O,O,O,O,O,O,O,tv⟩
    refine aA ?_
    obtain⟨x7,ex7,G⟩:=bnd G
    refine V B A O (bF O B O O (aN ex7)) fun a B=>S B 1 O fun a B=>aB ?_
    exact⟨_,(oj G).symm,_,_,_,B.cut ⟨O,O,O,O,O,O,O,O,O,O,tv⟩,(((A.get 1 O).drop).drop)⟩
   replace G:=(ie hc4).symm.trans G
   refine aG (aA ?_)
   refine V B A O (xf B fV O O) fun a B=>V B A O (xl B aW 0 O O O O) fun a B=>S B 2 O fun a B=>aB ?_
   refine dK B O (fun hc5=>?_) (fun hc5=>?_)
   ·replace G:=(it hc5).symm.trans G
    refine aG (aA ?_)
    refine S B 1 O fun a B=>V B A O (xf B eF O O) fun a B=>V B A O (xl B aW 0 O O O O) fun a B=>?_
    obtain⟨x8,ex8,G⟩:=bnd G
    obtain⟨b27,b27o,b27r,b27v,b27f⟩:=aC.at A 3 O yY ex8
    refine V B A O (aO O B O O b27r) fun a B=>?_
    refine V7 (wk0 O) O B A O O O 3 O ex8 b27v 0 (e':=true) N8.size_ O O O ⟨O,O⟩ ?_
    intro w A
    have A:=r8 A
    refine aB (aG ?_)
    refine aA (V B A O (xf B lQ O O) fun a B=>?_)
    refine V B A O (xl B iK 4 O O O O) fun a B=>V B A O (xf B eF O O) fun a B=>V B A O (xl B aW 0 O O O O) fun a B=>?_
    obtain⟨m,ex9,G⟩:=bnd G
    obtain⟨b28,b28o,b28c,b28r,b28k,b28f⟩:=aH.at yh1 iZ ex9
    obtain⟨Y4,rfl,hb28_kids⟩:=NodeAt.opens b28k
    have b28f:AtP ρy1 b28 b28o [(Iv m.kind),(.string m.text),(Iv m.at_),(Iv m.fin),Y4]:=b28f
    refine V B A O (aO O B O O b28r) fun a B=>V B A O (aK O B O (fun w t=>aX (cs:=[(Iv m.kind),(.string m.text),(Iv m.at_),(Iv m.fin),Y4]) cO (fun j u hj=>cell_of t.le (b28f j u hj)))) fun a B=>?_
    refine dF (wk0 O) O O B A O [(Iv 0),(.string ByteArray.empty),(Iv 0),(Iv 0),N0] (fun w=>by simp[Instr.alloc,go_sem]<;>rfl) ?_
    intro a w b29 B A
    have A:=r9 A
    refine aV (wk0 O) O B A O O O 0 O cO.size_ O (aP ⟨O,O,O,O,(aH.one hb28_kids),tv⟩) [(Iv m.kind),(.string m.text),(Iv m.at_),(Iv m.fin),Y4] O ?_
    intro w A
    have A:=r9 A
    refine aB ?_
    have B:=B.cut (E':=[(2,vp2),(8,(Pv y5 0)),(9,(Pv y6 0)),(10,w15),(11,w14),(12,N0),(13,w7),(15,(Pv b25 0)),(16,(Pv b29 0)),(32,vp2),(33,(Iv (p2.length:Int))),(34,(Iv aQ))]) ⟨O,O,O,O,O,O,O,O,O,O,O,O,tv⟩
    refine aG ?_
    refine jU kr kr A ?_
    refine Vq B O (xf B lQ O O) fun a B=>Vq B O (xl B iK 6 O O O O) fun a B=>Vq B O (xf B fV O O) fun a B=>Vq B O (xl B aW 1 O O O O) fun a B=>?_
    obtain⟨o,ex10,G⟩:=bnd G
    obtain⟨b30,b30o,b30c,b30r,b30k,b30f⟩:=aH.at yh4 iZ ex10
    obtain⟨aP1,rfl,hb30_kids⟩:=NodeAt.opens b30k
    have b30f:AtP ρy1 b30 b30o [(Iv o.kind),(.string o.text),(Iv o.at_),(Iv o.fin),aP1]:=b30f
    refine Vq B O (aO O B O O b30r) fun a B=>Vq B O (aK O B O (fun w t=>aX (cs:=[(Iv o.kind),(.string o.text),(Iv o.at_),(Iv o.fin),aP1]) cO (fun j u hj=>cell_of t.le (b30f j u hj)))) fun a B=>Vq B O (aK O B O (fun w t=>aX (cs:=[(Iv m.kind),(.string m.text),(Iv m.at_),(Iv m.fin),Y4]) cO (Hp.cN 0 O 0 _ (aS O) w t))) fun a B=>?_
    obtain⟨x11,ex11,G⟩:=bnd G
    refine aE8 (wk0 O) O O B O [(.agg #[(Iv o.kind),(.string o.text),(Iv o.at_),(Iv o.fin),aP1]),(.agg #[(Iv m.kind),(.string m.text),(Iv m.at_),(Iv m.fin),Y4])] ⟨O,O,tv⟩ ent41 (v:=(.bool x11)) (fun w t=>Calls.mono (F9 o aP1 hb30_kids m Y4 hb28_kids t x11 ex11) fun e w' ⟨v,he,hv,hh⟩=>⟨by rw[he,hv],hh⟩) ?_
    intro a B
    refine Sq B 1 O fun a B=>?_
    refine jQ fun w A=>?_
    have A:=r9 A
    refine dK B O (fun hc6=>?_) (fun hc6=>?_)
    ·replace G:=(it hc6).symm.trans G
     refine aA (S B 1 O fun a B=>?_)
     refine V B A O (xf B fV O O) fun a B=>V B A O (xl B aW 1 O O O O) fun a B=>V B A O (xf B zH O O) fun a B=>V B A O (xl B aW 0 O O O O) fun a B=>V B A O (xf B xC O O) fun a B=>V B A O (xl B V8 0 O O O O) fun a B=>V B A O (v:=(.agg #[(Iv 0),(Iv x.a),(Iv 0),(Iv 0),(Iv m.kind),(.string m.text)])) (oD O B [(0,(Iv 0)),(1,(Iv x.a)),(4,(Iv m.kind)),(5,(.string m.text))] (by exact⟨⟨O,O⟩,⟨O,O⟩,⟨O,O⟩,⟨O,O⟩,tv⟩) (fun w=>by simp[Instr.build,Instr.fill,Value.cells,go_sem])) fun a B=>?_
     refine fU (wk0 O) O O B A O [(0,(.agg #[(Iv 0),(Iv x.a),(Iv 0),(Iv 0),(Iv m.kind),(.string m.text)]))] ⟨⟨O,O⟩,tv⟩ [(Iv 0),(Iv x.a),(Iv 0),(Iv 0),(Iv m.kind),(.string m.text)] 58 (fun w=>by simp[Instr.buildSlice,Instr.fill,Value.cells,go_sem]) ?_
     intro a w b31 B A
     have A:=r10 A
     obtain⟨x12,ex12,G⟩:=bnd G
     refine gB (wk0 O) O O B A O zY O O 3 O O (l2:=[(Chg.mk 0 x.a 0 0 m.kind m.text)]) O (fun j u hj=>by have:=Hp.cN 0 O 0 _ (aS O) w A j u hj;simpa using this) ex12 ?_
     intro v3 a w B A
     have A:=r10 A
     refine S B 1 O fun a B=>aB ?_
     have B:=B.cut (E':=[(2,vp2),(8,(Pv y5 0)),(9,(Pv y6 0)),(10,v3),(11,w14),(12,N0),(13,w7),(32,vp2),(33,(Iv (p2.length:Int))),(34,(Iv aQ))]) ⟨O,O,O,O,O,O,O,O,O,O,tv⟩
     refine aA ?_
     obtain⟨x13,ex13,G⟩:=bnd G
     refine V B A O (bF O B O O (aN ex13)) fun a B=>S B 1 O fun a B=>aB ?_
     exact⟨_,(oj G).symm,_,_,_,B.cut ⟨O,O,O,O,O,O,O,O,O,O,tv⟩,(((((A.get 2 O).drop).get 1 O).drop).drop)⟩
    replace G:=(ie hc6).symm.trans G
    refine bI (aA ?_)
    obtain⟨x14,ex14,G⟩:=bnd G
    refine V B A O (bF O B O O (aN ex14)) fun a B=>S B 1 O fun a B=>aB ?_
    exact⟨_,(oj G).symm,_,_,_,B.cut ⟨O,O,O,O,O,O,O,O,O,O,tv⟩,(((A.get 1 O).drop).drop)⟩
   replace G:=(ie hc5).symm.trans G
   refine bI (aA ?_)
   obtain⟨x15,ex15,G⟩:=bnd G
   refine V B A O (bF O B O O (aN ex15)) fun a B=>S B 1 O fun a B=>aB ?_
   exact⟨_,(oj G).symm,_,_,_,B.cut ⟨O,O,O,O,O,O,O,O,O,O,tv⟩,(A.drop)⟩
  replace G:=(ie hc3).symm.trans G
  refine dZ ?_
  refine⟨_,(oj G).symm,fun hbb=>?_⟩
  subst hbb
  exact⟨_,_,_,B.cut ⟨O,O,O,O,O,O,tv⟩,A⟩
 rintro a w ⟨w15,w14,w7,B,A⟩
 refine aG (aG ?_)
 refine aA (S B 1 O fun a B=>?_)
 refine V B A O (bW O B O (aH.len (aH.mono hp2 hley1) fE)) fun a B=>S B 1 O fun a B=>aB ?_
 have A:=A.emp (aC.nil (α:=Chg) 58)
 have A:=r8 A
 obtain⟨b32,hc7,p⟩:=bnd p
 refine dM (fun a w=>∃(w27:Value) (w7:Value),Env 111 [(10,w15),(11,w14),(12,w27)] a∧Hp Z ρy1 (aC 58 w27 b32.1::aC 58 w15 b23.1::aC 58 w14 b23.2.1::aC 4 w7 b32.2::Pt y6 (.cells #[yv1,yv2,yv3] 75 (0,0))::Pt y5 (.cells #[yv4,yv5,yv6] 75 (0,0))::Pt b2 (.cells #[(Iv c.kind),(.string c.text),(Iv c.at_),(Iv c.fin),aJ] 24 (0,0))::Pt b1 (.cells #[(Iv d.kind),(.string d.text),(Iv d.at_),(Iv d.fin),aI] 24 (0,0))::L) w) ?_ ?_
 ·refine eQ hc7 (fun s a w=>∃(w27:Value) (w7:Value),Env 111 [(9,(Pv y6 0)),(10,w15),(11,w14),(12,w27),(13,w7),(82,vp2),(83,(Iv (p2.length:Int))),(84,(Iv s.1))] a∧Hp Z ρy1 (aC 58 w27 s.2.1::aC 58 w15 b23.1::aC 58 w14 b23.2.1::aC 4 w7 s.2.2::Pt y6 (.cells #[yv1,yv2,yv3] 75 (0,0))::Pt y5 (.cells #[yv4,yv5,yv6] 75 (0,0))::Pt b2 (.cells #[(Iv c.kind),(.string c.text),(Iv c.at_),(Iv c.fin),aJ] 24 (0,0))::Pt b1 (.cells #[(Iv d.kind),(.string d.text),(Iv d.at_),(Iv d.fin),aI] 24 (0,0))::L) w) ?_ ?_
  ·exact⟨_,_,B.cut ⟨O,O,O,O,O,O,O,O,tv⟩,A⟩
  rintro⟨bP,eP,G6⟩ st a w ⟨w27,w7,B,A⟩ f
  dsimp only at B A f
  unfold X3 at f
  refine aG (aA ?_)
  refine S B 1 O fun a B=>aB (aG ?_)
  refine dK B O (fun hc8=>?_) (fun hc8=>?_)
  ·replace f:=(it hc8).symm.trans f
   refine bI (aG ?_)
   refine dN (aG ?_)
   refine aA ?_
   obtain⟨y,ex16,f⟩:=bnd f
   obtain⟨b33,b33o,b33c,b33r,b33k,b33f⟩:=aH.at (aH.mono hp2 hley1) fE ex16
   obtain rfl:b33c=Enc.enc y:=b33k
   have b33f:AtP ρy1 b33 b33o [(Iv y.a),(Iv y.b)]:=b33f
   refine V B A O (aO O B O O b33r) fun a B=>V B A O (aK O B O (fun w t=>aX (cs:=[(Iv y.a),(Iv y.b)]) fH (fun j u hj=>cell_of t.le (b33f j u hj)))) fun a B=>?_
   refine dF (wk0 O) O O B A O [(Iv 0),(Iv 0)] (fun w=>by simp[Instr.alloc,go_sem]<;>rfl) ?_
   intro a w b34 B A
   have A:=r9 A
   refine aV (wk0 O) O B A O O O 0 O fH.size_ O (aP ⟨O,O,tv⟩) [(Iv y.a),(Iv y.b)] O ?_
   intro w A
   have A:=r9 A
   refine aB (aG ?_)
   refine aA (V B A O (xf B fV O O) fun a B=>?_)
   refine V B A O (xl B aW 0 O O O O) fun a B=>S B 1 O fun a B=>aB ?_
   refine dK B O (fun hc9=>?_) (fun hc9=>?_)
   ·replace f:=(it hc9).symm.trans f
    refine aG (aA ?_)
    refine S B 1 O fun a B=>V B A O (aK O B O (fun w t=>aX (cs:=[yv1,yv2,yv3]) dG (Hp.cN 5 O 0 _ (aS O) w t))) fun a B=>V B A O (xf B eF O O) fun a B=>V B A O (xl B aW 0 O O O O) fun a B=>S B 1 O fun a B=>?_
    obtain⟨k1,k1a,k1d,k1h⟩:=(A.get 4 O).lend
    obtain⟨n,ex17,f⟩:=bnd f
    refine Cl B O O ent42 (Z8 z yv1 (aH.mono yh1 (PH.le_un _ _)) yv2 (aH.mono yh2 (PH.le_un _ _)) yv3 (aH.mono yh3 (PH.le_un _ _)) y.b G6 w7 (aC.ro k1d k1a) k1h n ex17) ⟨O,O,O,tv⟩ fun v a w k B=>?_
    obtain⟨rfl,A⟩:=k
    have A:=Hp.back k1a k1d A
    have A:=r9 A
    refine fU (wk0 O) O O B A O [(0,(.agg #[(Iv n.op),(Iv n.node),(Iv n.index),(Iv n.count),(Iv n.kind),(.string n.text)]))] ⟨⟨O,O⟩,tv⟩ [(Iv n.op),(Iv n.node),(Iv n.index),(Iv n.count),(Iv n.kind),(.string n.text)] 58 (fun w=>by simp[Instr.buildSlice,Instr.fill,Value.cells,go_sem]) ?_
    intro a w b35 B A
    have A:=r10 A
    obtain⟨x18,ex18,f⟩:=bnd f
    refine gB (wk0 O) O O B A O zY O O 3 O O (l2:=[n]) O (fun j u hj=>by have:=Hp.cN 0 O 0 _ (aS O) w A j u hj;simpa using this) ex18 ?_
    intro v4 a w B A
    have A:=r10 A
    refine S B 1 O fun a B=>aB ?_
    have B:=B.cut (E':=[(9,(Pv y6 0)),(10,w15),(11,w14),(12,v4),(13,w7),(18,(Pv b34 0)),(82,vp2),(83,(Iv (p2.length:Int))),(84,(Iv bP))]) ⟨O,O,O,O,O,O,O,O,O,tv⟩
    refine aA (S B 1 O fun a B=>?_)
    refine V B A O (xf B eF O O) fun a B=>V B A O (xl B aW 2 O O O O) fun a B=>?_
    obtain⟨x19,ex19,f⟩:=bnd f
    obtain⟨b36,b36o,b36r,b36v,b36f⟩:=aC.at A 1 O yY ex19
    refine V B A O (aO O B O O b36r) fun a B=>?_
    refine V7 (wk0 O) O B A O O O 1 O ex19 b36v 0 (e':=true) N8.size_ O O O ⟨O,O⟩ ?_
    intro w A
    have A:=r10 A
    refine aB (aA ?_)
    obtain⟨x20,ex20,f⟩:=bnd f
    refine V B A O (bF O B O O (aN ex20)) fun a B=>S B 1 O fun a B=>aB ?_
    exact⟨_,(oj f).symm,_,_,B.cut ⟨O,O,O,O,O,O,O,O,tv⟩,((((((((((((A.get 9 O).get 9 O).get 9 O).get 9 O).get 5 O).get 9 O).get 9 O).get 9 O).get 9 O).drop).get 8 O).drop)⟩
   replace f:=(ie hc9).symm.trans f
   refine bI (aA ?_)
   obtain⟨x21,ex21,f⟩:=bnd f
   refine V B A O (bF O B O O (aN ex21)) fun a B=>S B 1 O fun a B=>aB ?_
   exact⟨_,(oj f).symm,_,_,B.cut ⟨O,O,O,O,O,O,O,O,tv⟩,(A.drop)⟩
  replace f:=(ie hc8).symm.trans f
  refine dZ ?_
  refine⟨_,(oj f).symm,fun hbb=>?_⟩
  subst hbb
  exact⟨_,_,B.cut ⟨O,O,O,tv⟩,A⟩
 rintro a w ⟨w27,w7,B,A⟩
 refine aG (aA ?_)
 refine S B 1 O fun a B=>?_
 obtain⟨x22,ex22,p⟩:=bnd p
 refine Cl B O O ent43 (aR2 b23.2.1 w14 (A.get 2 O) x22 ex22) ⟨O,tv⟩ fun v a w k B=>?_
 obtain⟨rfl,A⟩:=k
 have A:=r8 A
 refine aB (aG ?_)
 refine aA (S B 3 O fun a B=>?_)
 refine fU (wk0 O) O O B A O [(0,w15),(1,w14),(2,w27)] ⟨⟨O,O⟩,⟨O,O⟩,⟨O,O⟩,tv⟩ [w15,w14,w27] 34 (fun w=>by have hc0:=aC.cells A 2 rfl;simp only[Value.cells] at hc0;have hc1:=aC.cells A 0 rfl;simp only[Value.cells] at hc1;have hc2:=aC.cells A 1 rfl;simp only[Value.cells] at hc2;simp[Instr.buildSlice,Instr.fill,Value.cells,hc0,hc1,hc2,go_sem]) ?_
 intro a w b37 B A
 have A:=r9 A
 obtain⟨k2,k2a,k2d,A⟩:=(A.get 3 O).lend
 have f1:aH (ρy1.un k2) w15 b23.1:=aC.ro k2d k2a
 have A:=r8 A
 obtain⟨k3,k3a,k3d,A⟩:=(A.get 1 O).lend
 have f2:aH ((ρy1.un k2).un k3) w14 x22:=aC.ro k3d k3a
 have A:Hp Z ((ρy1.un k2).un k3) (_::_::_::_::_::_::_::L) w:=A
 obtain⟨k4,k4a,k4d,A⟩:=(A.get 1 O).lend
 have f3:aH (((ρy1.un k2).un k3).un k4) w27 b32.1:=aC.ro k4d k4a
 have A:Hp Z (((ρy1.un k2).un k3).un k4) (_::_::_::_::_::_::L) w:=A
 obtain⟨k5,k5a,k5d,A⟩:=(A.get 0 O).lend
 have f4:aH ((((ρy1.un k2).un k3).un k4).un k5) (.slice (some ⟨b37,0,none⟩) 3 3) ([b23.1,x22,b32.1]:List (List Chg)):=aH.of_all (l:=(([b23.1,x22,b32.1]:List (List Chg)))) k5d k5a ⟨_,_,O,⟨_,O,((aH.mono (aH.mono (aH.mono f1 (PH.le_un _ k3)) (PH.le_un _ k4)) (PH.le_un _ k5)))⟩,⟨_,_,O,⟨_,O,((aH.mono (aH.mono f2 (PH.le_un _ k4)) (PH.le_un _ k5)))⟩,⟨_,_,O,⟨_,O,((aH.mono f3 (PH.le_un _ k5)))⟩,O⟩⟩⟩
 have A:Hp Z ((((ρy1.un k2).un k3).un k4).un k5) (_::_::_::_::_::L) w:=A
 obtain⟨x23,ex23,p⟩:=bnd p
 refine s_call (wk0 O) O O B O [(.slice (some ⟨b37,0,none⟩) 3 3)] ⟨O,tv⟩ ent44 (aS9 ([b23.1,x22,b32.1]:List (List Chg)) (.slice (some ⟨b37,0,none⟩) 3 3) f4 A x23 ex23) Ret.ret ?_
 intro vr21 a w k B
 obtain⟨u,rfl,A⟩:=Ret.of k
 have A:Hp Z ((((ρy1.un k2).un k3).un k4).un k5) (aC 58 vr21 x23::_::_::_::_::_::L) w:=A
 refine S B 2 O fun a B=>aB ?_
 have B:=B.cut (E':=[(6,vr21),(7,(Iv 0))]) ⟨O,O,tv⟩
 refine cZ ?_
 obtain rfl:=oj p
 exact N7 B O O O ⟨_,O,_,O,(((((((((((((((A.get 5 O).drop).get 4 O).drop).get 3 O).drop).get 2 O).drop).get 1 O).drop).less (PH.le_un _ k5)).less (PH.le_un _ k4)).less (PH.le_un _ k3)).less (PH.le_un _ k2)).less hley1)⟩
end Go.Proofs.YtopnldfjcciieaaGreat

/- The code goes as its model: assessor/assessorlaw38.AlignForm. (Printed by wip/sp/gen.py.) -/
import Derived.Test.YtopnldfjcciieaaGreatKFoT
import Derived.Test.YtopnldfjcciieaaGreatKFo4
import Derived.Test.YtopnldfjcciieaaGreatKFo5
import Derived.Test.YtopnldfjcciieaaGreatKFo23
import Derived.Test.YtopnldfjcciieaaGreatKFo25
import Derived.Test.YtopnldfjcciieaaGreatKFo24
import Derived.Test.YtopnldfjcciieaaGreatKFo2
import Derived.Test.YtopnldfjcciieaaGreatKFo3
import Derived.Test.YtopnldfjcciieaaGreatKFo6
set_option linter.unusedVariables false
set_option linter.unusedSimpArgs false
set_option maxRecDepth 100000
set_option maxHeartbeats 4000000
namespace Go.Proofs.YtopnldfjcciieaaGreat
open Go.RowKit
theorem c_assessorlaw38_AlignForm {Z:World} {ρ:PH} {L:List bK} {w:World} (p0:Node) (aI:Value) (bD:aH ρ aI p0.kids) (p1:Node) (aJ:Value) (bH:aH ρ aJ p1.kids) (p2:(List Opn)) (vp2:Value) (hp2:aH ρ vp2 p2) (p3:Int) (hp:Hp Z ρ (L) w) (r:Bool) (hm:oG p0 p1 p2 p3=some r):
  Calls Tryz.prog 3 #[(.agg #[(Iv p0.kind),(.string p0.text),(Iv p0.at_),(Iv p0.fin),aI]),(.agg #[(Iv p1.kind),(.string p1.text),(Iv p1.at_),(Iv p1.fin),aJ]),vp2,(Iv p3)] w (Ret fun v w'=>v=(.bool r)∧Hp Z ρ (L) w'):=by
 refine enter (N:=114) Tryz.func3 rfl rfl [(0,(.agg #[(Iv p0.kind),(.string p0.text),(Iv p0.at_),(Iv p0.fin),aI])),(1,(.agg #[(Iv p1.kind),(.string p1.text),(Iv p1.at_),(Iv p1.fin),aJ])),(2,vp2),(3,(Iv p3))] rfl (bC ⟨rfl,rfl,rfl,rfl,trivial⟩) fun a hE=>?_
 unfold oG at hm
 refine aG (aA ?_)
 refine iI (wk0 rfl) rfl rfl hE hp rfl (v:=(.agg #[(Iv p0.kind),(.string p0.text),(Iv p0.at_),(Iv p0.fin),aI])) rfl ?_
 intro a w b1 hE hp
 have hp:=r1 hp
 refine iI (wk0 rfl) rfl rfl hE hp rfl (v:=(.agg #[(Iv p1.kind),(.string p1.text),(Iv p1.at_),(Iv p1.fin),aJ])) rfl ?_
 intro a w b2 hE hp
 have hp:=r2 hp
 refine S hE 1 rfl fun a hE=>aB (aG ?_)
 refine aG (aA ?_)
 obtain⟨x1,ex1,hm⟩:=bnd hm
 refine Cl hE rfl rfl ent10 (aD2 hp x1 ex1) trivial fun v a w hR hE=>?_
 obtain⟨rfl,hp⟩:=hR
 have hp:=r2 hp
 refine S hE 1 rfl fun a hE=>aB ?_
 refine dE hE rfl (fun hc1=>?_) (fun hc1=>?_)
 ·replace hm:=(it hc1).symm.trans hm
  refine aG (aA ?_)
  refine S hE 1 rfl fun a hE=>aB (bZ ?_)
  obtain rfl:=oj hm
  exact gJ hE rfl rfl ⟨_,rfl,rfl,(((hp.get 1 rfl).drop).drop)⟩
 replace hm:=(ie hc1).symm.trans hm
 refine aZ (aG ?_)
 refine aG (aA ?_)
 refine V hE hp rfl (aK rfl hE rfl (fun w hw=>aW (cs:=[(Iv p0.kind),(.string p0.text),(Iv p0.at_),(Iv p0.fin),aI]) bY (Hp.cN 1 rfl 0 _ (aS rfl) w hw))) fun a hE=>V hE hp rfl (aK rfl hE rfl (fun w hw=>aW (cs:=[(Iv p1.kind),(.string p1.text),(Iv p1.at_),(Iv p1.fin),aJ]) bY (Hp.cN 0 rfl 0 _ (aS rfl) w hw))) fun a hE=>?_
 obtain⟨x2,ex2,hm⟩:=bnd hm
 refine Cl hE rfl rfl ent11 (aH2 p0 aI bD p1 aJ bH 15 hp x2 ex2) ⟨rfl,rfl,rfl,trivial⟩ fun v a w hR hE=>?_
 obtain⟨rfl,hp⟩:=hR
 have hp:=r2 hp
 refine S hE 2 rfl fun a hE=>?_
 refine iL [_,_,_,_] (fun a w=>Env 114 [(28,(.bool ((!x2)||(decide (40<(p2.length:Int)))))),(2,vp2),(3,(Iv p3)),(4,(Pv b1 0)),(5,(Pv b2 0))] a∧Hp Z ρ (Pt b2 (.cells #[(Iv p1.kind),(.string p1.text),(Iv p1.at_),(Iv p1.fin),aJ] 24 (0,0))::Pt b1 (.cells #[(Iv p0.kind),(.string p0.text),(Iv p0.at_),(Iv p0.fin),aI] 24 (0,0))::L) w) ?_ ?_
 ·rcases Bool.eq_false_or_eq_true (!x2) with hc2|hc2
  ·
   refine Gk hE hc2 rfl fun a hE=>Gk hE hc2 rfl fun a hE=>Gk hE hc2 rfl fun a hE=>pk1 hE hc2 rfl rfl rfl rfl fun a hE=>?_
   have hE:=hE.eqv (v':=(.bool ((!x2)||(decide (40<(p2.length:Int)))))) (by rw[hc2];rfl)
   exact aB ⟨hE.cut ⟨rfl,rfl,rfl,rfl,rfl,trivial⟩,hp⟩
  refine Gs hE hc2 rfl rfl fun a hE=>G hE hp hc2 rfl (bT rfl hE rfl (aH.len hp2 dW)) fun a hE=>Gs hE hc2 rfl rfl fun a hE=>pk0 hE hc2 rfl rfl rfl rfl fun a hE=>?_
  have hE:=hE.eqv (v':=(.bool ((!x2)||(decide (40<(p2.length:Int)))))) (by rw[hc2];rfl)
  exact aB ⟨hE.cut ⟨rfl,rfl,rfl,rfl,rfl,trivial⟩,hp⟩
 rintro a w ⟨hE,hp⟩
 refine aB ?_
 refine dE hE rfl (fun hc3=>?_) (fun hc3=>?_)
 ·replace hm:=(it hc3).symm.trans hm
  refine aG (aA ?_)
  refine S hE 1 rfl fun a hE=>aB (bZ ?_)
  obtain rfl:=oj hm
  exact gJ hE rfl rfl ⟨_,rfl,rfl,(((hp.get 1 rfl).drop).drop)⟩
 replace hm:=(ie hc3).symm.trans hm
 refine aZ (aG ?_)
 refine aA (V hE hp rfl (aK rfl hE rfl (fun w hw=>aW (cs:=[(Iv p0.kind),(.string p0.text),(Iv p0.at_),(Iv p0.fin),aI]) bY (Hp.cN 1 rfl 0 _ (aS rfl) w hw))) fun a hE=>?_)
 refine V hE hp rfl (aK rfl hE rfl (fun w hw=>aW (cs:=[(Iv p1.kind),(.string p1.text),(Iv p1.at_),(Iv p1.fin),aJ]) bY (Hp.cN 0 rfl 0 _ (aS rfl) w hw))) fun a hE=>S hE 1 rfl fun a hE=>?_
 obtain⟨x3,ex3,hm⟩:=bnd hm
 refine Cl hE rfl rfl ent12 (aD5 p0 aI bD p1 aJ bH p2 vp2 hp2 hp x3 ex3) ⟨rfl,rfl,rfl,trivial⟩ fun v a w hR hE=>?_
 obtain⟨rfl,hp⟩:=hR
 have hp:=r2 hp
 refine S hE 1 rfl fun a hE=>aB (aG ?_)
 refine aA (S hE 2 rfl fun a hE=>?_)
 obtain⟨x4,ex4,hm⟩:=bnd hm
 refine Cl hE rfl rfl ent13 (H9 p2 vp2 hp2 p3 hp x4 ex4) ⟨rfl,rfl,trivial⟩ fun v a w hR hE=>?_
 obtain⟨rfl,hp⟩:=hR
 have hp:=r2 hp
 refine S hE 5 rfl fun a hE=>aB (aG ?_)
 refine aA (S hE 2 rfl fun a hE=>?_)
 obtain⟨x5,ex5,hm⟩:=bnd hm
 refine Cl hE rfl rfl ent14 (Z5 p2 vp2 hp2 p3 hp x5 ex5) ⟨rfl,rfl,trivial⟩ fun v a w hR hE=>?_
 obtain⟨rfl,hp⟩:=hR
 have hp:=r2 hp
 refine S hE 5 rfl fun a hE=>aB ?_
 have hE:=hE.cut (E':=[(2,vp2),(4,(Pv b1 0)),(5,(Pv b2 0)),(9,(.bool x3)),(10,(Iv x4.1)),(11,(.bool x4.2)),(12,(Iv x5.1)),(13,(.bool x5.2))]) ⟨rfl,rfl,rfl,rfl,rfl,rfl,rfl,rfl,trivial⟩
 refine aG (aA ?_)
 refine V hE hp rfl (aK rfl hE rfl (fun w hw=>aW (cs:=[(Iv p0.kind),(.string p0.text),(Iv p0.at_),(Iv p0.fin),aI]) bY (Hp.cN 1 rfl 0 _ (aS rfl) w hw))) fun a hE=>V hE hp rfl (aK rfl hE rfl (fun w hw=>aW (cs:=[(Iv p1.kind),(.string p1.text),(Iv p1.at_),(Iv p1.fin),aJ]) bY (Hp.cN 0 rfl 0 _ (aS rfl) w hw))) fun a hE=>S hE 1 rfl fun a hE=>?_
 obtain⟨x6,ex6,hm⟩:=bnd hm
 refine Cl hE rfl rfl ent15 (aI6 p0 aI bD p1 aJ bH p2 vp2 hp2 hp x6 ex6) ⟨rfl,rfl,rfl,trivial⟩ fun v a w hR hE=>?_
 obtain⟨rfl,hp⟩:=hR
 have hp:=r2 hp
 refine S hE 5 rfl fun a hE=>aB (aG ?_)
 refine aA (V hE hp rfl (aK rfl hE rfl (fun w hw=>aW (cs:=[(Iv p0.kind),(.string p0.text),(Iv p0.at_),(Iv p0.fin),aI]) bY (Hp.cN 1 rfl 0 _ (aS rfl) w hw))) fun a hE=>?_)
 refine V hE hp rfl (aK rfl hE rfl (fun w hw=>aW (cs:=[(Iv p1.kind),(.string p1.text),(Iv p1.at_),(Iv p1.fin),aJ]) bY (Hp.cN 0 rfl 0 _ (aS rfl) w hw))) fun a hE=>S hE 1 rfl fun a hE=>?_
 obtain⟨x7,ex7,hm⟩:=bnd hm
 refine Cl hE rfl rfl ent16 (aD0 p0 aI bD p1 aJ bH p2 vp2 hp2 hp x7 ex7) ⟨rfl,rfl,rfl,trivial⟩ fun v a w hR hE=>?_
 obtain⟨vr10,rfl,hp⟩:=hR
 have hp:=r3 hp
 refine S hE 5 rfl fun a hE=>aB ?_
 have hE:=hE.cut (E':=[(2,vp2),(4,(Pv b1 0)),(5,(Pv b2 0)),(9,(.bool x3)),(10,(Iv x4.1)),(11,(.bool x4.2)),(12,(Iv x5.1)),(13,(.bool x5.2)),(14,(Iv x6.1)),(15,(Iv x6.2)),(16,vr10),(17,(Iv x7.2))]) ⟨rfl,rfl,rfl,rfl,rfl,rfl,rfl,rfl,rfl,rfl,rfl,rfl,trivial⟩
 refine aG (aG ?_)
 refine aA (V hE hp rfl (aK rfl hE rfl (fun w hw=>aW (cs:=[(Iv p0.kind),(.string p0.text),(Iv p0.at_),(Iv p0.fin),aI]) bY (Hp.cN 2 rfl 0 _ (aS rfl) w hw))) fun a hE=>?_)
 refine V hE hp rfl (aK rfl hE rfl (fun w hw=>aW (cs:=[(Iv p1.kind),(.string p1.text),(Iv p1.at_),(Iv p1.fin),aJ]) bY (Hp.cN 1 rfl 0 _ (aS rfl) w hw))) fun a hE=>S hE 1 rfl fun a hE=>?_
 obtain⟨x8,ex8,hm⟩:=bnd hm
 refine Cl hE rfl rfl ent17 (A8 p0 aI bD p1 aJ bH p2 vp2 hp2 hp x8 ex8) ⟨rfl,rfl,rfl,trivial⟩ fun v a w hR hE=>?_
 obtain⟨rfl,hp⟩:=hR
 have hp:=r3 hp
 refine S hE 1 rfl fun a hE=>V hE hp rfl (v:=(.bool (!(x8==x3)))) (ex_bneq bty4 rfl hE rfl rfl) fun a hE=>S hE 1 rfl fun a hE=>?_
 refine iL [_,_,_,_] (fun a w=>Env 114 [(69,(.bool ((!(x8==x3))||(!decide (x4.1=x5.1))))),(2,vp2),(4,(Pv b1 0)),(5,(Pv b2 0)),(9,(.bool x3)),(11,(.bool x4.2)),(13,(.bool x5.2)),(14,(Iv x6.1)),(15,(Iv x6.2)),(16,vr10),(17,(Iv x7.2))] a∧Hp Z ρ (aC 58 vr10 x7.1::Pt b2 (.cells #[(Iv p1.kind),(.string p1.text),(Iv p1.at_),(Iv p1.fin),aJ] 24 (0,0))::Pt b1 (.cells #[(Iv p0.kind),(.string p0.text),(Iv p0.at_),(Iv p0.fin),aI] 24 (0,0))::L) w) ?_ ?_
 ·rcases Bool.eq_false_or_eq_true (!(x8==x3)) with hc4|hc4
  ·
   refine Gk hE hc4 rfl fun a hE=>Gk hE hc4 rfl fun a hE=>Gk hE hc4 rfl fun a hE=>pk1 hE hc4 rfl rfl rfl rfl fun a hE=>?_
   have hE:=hE.eqv (v':=(.bool ((!(x8==x3))||(!decide (x4.1=x5.1))))) (by rw[hc4];rfl)
   exact aB ⟨hE.cut ⟨rfl,rfl,rfl,rfl,rfl,rfl,rfl,rfl,rfl,rfl,rfl,trivial⟩,hp⟩
  refine Gs hE hc4 rfl rfl fun a hE=>Gs hE hc4 rfl rfl fun a hE=>Gs hE hc4 rfl rfl fun a hE=>pk0 hE hc4 rfl rfl rfl rfl fun a hE=>?_
  have hE:=hE.eqv (v':=(.bool ((!(x8==x3))||(!decide (x4.1=x5.1))))) (by rw[hc4];rfl)
  exact aB ⟨hE.cut ⟨rfl,rfl,rfl,rfl,rfl,rfl,rfl,rfl,rfl,rfl,rfl,trivial⟩,hp⟩
 rintro a w ⟨hE,hp⟩
 refine S hE 1 rfl fun a hE=>?_
 refine iL [_,_,_,_] (fun a w=>Env 114 [(74,(.bool (((!(x8==x3))||(!decide (x4.1=x5.1)))||(!(x4.2==x5.2))))),(2,vp2),(4,(Pv b1 0)),(5,(Pv b2 0)),(9,(.bool x3)),(14,(Iv x6.1)),(15,(Iv x6.2)),(16,vr10),(17,(Iv x7.2))] a∧Hp Z ρ (aC 58 vr10 x7.1::Pt b2 (.cells #[(Iv p1.kind),(.string p1.text),(Iv p1.at_),(Iv p1.fin),aJ] 24 (0,0))::Pt b1 (.cells #[(Iv p0.kind),(.string p0.text),(Iv p0.at_),(Iv p0.fin),aI] 24 (0,0))::L) w) ?_ ?_
 ·rcases Bool.eq_false_or_eq_true ((!(x8==x3))||(!decide (x4.1=x5.1))) with hc5|hc5
  ·
   refine Gk hE hc5 rfl fun a hE=>Gk hE hc5 rfl fun a hE=>Gk hE hc5 rfl fun a hE=>pk1 hE hc5 rfl rfl rfl rfl fun a hE=>?_
   have hE:=hE.eqv (v':=(.bool (((!(x8==x3))||(!decide (x4.1=x5.1)))||(!(x4.2==x5.2))))) (by rw[hc5];rfl)
   exact aB ⟨hE.cut ⟨rfl,rfl,rfl,rfl,rfl,rfl,rfl,rfl,rfl,trivial⟩,hp⟩
  refine Gs hE hc5 rfl rfl fun a hE=>Gs hE hc5 rfl rfl fun a hE=>G hE hp hc5 rfl (v:=(.bool (!(x4.2==x5.2)))) (ex_bneq bty4 rfl hE rfl rfl) fun a hE=>pk0 hE hc5 rfl rfl rfl rfl fun a hE=>?_
  have hE:=hE.eqv (v':=(.bool (((!(x8==x3))||(!decide (x4.1=x5.1)))||(!(x4.2==x5.2))))) (by rw[hc5];rfl)
  exact aB ⟨hE.cut ⟨rfl,rfl,rfl,rfl,rfl,rfl,rfl,rfl,rfl,trivial⟩,hp⟩
 rintro a w ⟨hE,hp⟩
 refine aB ?_
 refine dE hE rfl (fun hc6=>?_) (fun hc6=>?_)
 ·replace hm:=(it hc6).symm.trans hm
  refine aG (aA ?_)
  refine S hE 1 rfl fun a hE=>aB (bZ ?_)
  obtain rfl:=oj hm
  exact gJ hE rfl rfl ⟨_,rfl,rfl,(((((hp.get 2 rfl).drop).get 1 rfl).drop).drop)⟩
 replace hm:=(ie hc6).symm.trans hm
 refine aZ (aG ?_)
 refine aG (aA ?_)
 refine S hE 2 rfl fun a hE=>aB ?_
 refine dE hE rfl (fun hc7=>?_) (fun hc7=>?_)
 ·replace hm:=(it hc7).symm.trans hm
  refine aG (aA ?_)
  refine S hE 3 rfl fun a hE=>?_
  refine iL [_,_,_] (fun a w=>Env 114 [(82,(.bool ((decide (x6.1=0))&&(decide (x6.2=1))))),(16,vr10),(17,(Iv x7.2))] a∧Hp Z ρ (aC 58 vr10 x7.1::Pt b2 (.cells #[(Iv p1.kind),(.string p1.text),(Iv p1.at_),(Iv p1.fin),aJ] 24 (0,0))::Pt b1 (.cells #[(Iv p0.kind),(.string p0.text),(Iv p0.at_),(Iv p0.fin),aI] 24 (0,0))::L) w) ?_ ?_
  ·rcases Bool.eq_false_or_eq_true (decide (x6.1=0)) with hc8|hc8
   ·
    refine Gs hE hc8 rfl rfl fun a hE=>Gs hE hc8 rfl rfl fun a hE=>pk1 hE hc8 rfl rfl rfl rfl fun a hE=>?_
    have hE:=hE.eqv (v':=(.bool ((decide (x6.1=0))&&(decide (x6.2=1))))) (by rw[hc8];rfl)
    exact aB ⟨hE.cut ⟨rfl,rfl,rfl,trivial⟩,hp⟩
   refine Gk hE hc8 rfl fun a hE=>Gk hE hc8 rfl fun a hE=>pk0 hE hc8 rfl rfl rfl rfl fun a hE=>?_
   have hE:=hE.eqv (v':=(.bool ((decide (x6.1=0))&&(decide (x6.2=1))))) (by rw[hc8];rfl)
   exact aB ⟨hE.cut ⟨rfl,rfl,rfl,trivial⟩,hp⟩
  rintro a w ⟨hE,hp⟩
  refine S hE 1 rfl fun a hE=>?_
  refine iL [_,_,_,_] (fun a w=>Env 114 [(87,(.bool (((decide (x6.1=0))&&(decide (x6.2=1)))&&(decide ((x7.1.length:Int)=0))))),(17,(Iv x7.2))] a∧Hp Z ρ (aC 58 vr10 x7.1::Pt b2 (.cells #[(Iv p1.kind),(.string p1.text),(Iv p1.at_),(Iv p1.fin),aJ] 24 (0,0))::Pt b1 (.cells #[(Iv p0.kind),(.string p0.text),(Iv p0.at_),(Iv p0.fin),aI] 24 (0,0))::L) w) ?_ ?_
  ·rcases Bool.eq_false_or_eq_true ((decide (x6.1=0))&&(decide (x6.2=1))) with hc9|hc9
   ·
    refine Gs hE hc9 rfl rfl fun a hE=>G hE hp hc9 rfl (bT rfl hE rfl (aC.len hp 0 rfl uQ)) fun a hE=>Gs hE hc9 rfl rfl fun a hE=>pk1 hE hc9 rfl rfl rfl rfl fun a hE=>?_
    have hE:=hE.eqv (v':=(.bool (((decide (x6.1=0))&&(decide (x6.2=1)))&&(decide ((x7.1.length:Int)=0))))) (by rw[hc9];rfl)
    exact aB ⟨hE.cut ⟨rfl,rfl,trivial⟩,hp⟩
   refine Gk hE hc9 rfl fun a hE=>Gk hE hc9 rfl fun a hE=>Gk hE hc9 rfl fun a hE=>pk0 hE hc9 rfl rfl rfl rfl fun a hE=>?_
   have hE:=hE.eqv (v':=(.bool (((decide (x6.1=0))&&(decide (x6.2=1)))&&(decide ((x7.1.length:Int)=0))))) (by rw[hc9];rfl)
   exact aB ⟨hE.cut ⟨rfl,rfl,trivial⟩,hp⟩
  rintro a w ⟨hE,hp⟩
  refine S hE 1 rfl fun a hE=>?_
  refine iL [_,_,_] (fun a w=>Env 114 [(91,(.bool ((((decide (x6.1=0))&&(decide (x6.2=1)))&&(decide ((x7.1.length:Int)=0)))&&(decide (x7.2=1)))))] a∧Hp Z ρ (aC 58 vr10 x7.1::Pt b2 (.cells #[(Iv p1.kind),(.string p1.text),(Iv p1.at_),(Iv p1.fin),aJ] 24 (0,0))::Pt b1 (.cells #[(Iv p0.kind),(.string p0.text),(Iv p0.at_),(Iv p0.fin),aI] 24 (0,0))::L) w) ?_ ?_
  ·rcases Bool.eq_false_or_eq_true (((decide (x6.1=0))&&(decide (x6.2=1)))&&(decide ((x7.1.length:Int)=0))) with hc10|hc10
   ·
    refine Gs hE hc10 rfl rfl fun a hE=>Gs hE hc10 rfl rfl fun a hE=>pk1 hE hc10 rfl rfl rfl rfl fun a hE=>?_
    have hE:=hE.eqv (v':=(.bool ((((decide (x6.1=0))&&(decide (x6.2=1)))&&(decide ((x7.1.length:Int)=0)))&&(decide (x7.2=1))))) (by rw[hc10];rfl)
    exact aB ⟨hE.cut ⟨rfl,trivial⟩,hp⟩
   refine Gk hE hc10 rfl fun a hE=>Gk hE hc10 rfl fun a hE=>pk0 hE hc10 rfl rfl rfl rfl fun a hE=>?_
   have hE:=hE.eqv (v':=(.bool ((((decide (x6.1=0))&&(decide (x6.2=1)))&&(decide ((x7.1.length:Int)=0)))&&(decide (x7.2=1))))) (by rw[hc10];rfl)
   exact aB ⟨hE.cut ⟨rfl,trivial⟩,hp⟩
  rintro a w ⟨hE,hp⟩
  refine S hE 1 rfl fun a hE=>aB (bZ ?_)
  obtain rfl:=oj hm
  exact gJ hE rfl rfl ⟨_,rfl,rfl,(((((hp.get 2 rfl).drop).get 1 rfl).drop).drop)⟩
 replace hm:=(ie hc7).symm.trans hm
 refine aZ (aG ?_)
 refine aA (S hE 3 rfl fun a hE=>?_)
 obtain⟨m1,hg1,hm⟩:=bnd hm
 refine iL [_,_,_,_,_,_,_] (fun a w=>Env 114 [(101,(.bool m1)),(2,vp2),(4,(Pv b1 0)),(5,(Pv b2 0)),(16,vr10),(17,(Iv x7.2))] a∧Hp Z ρ (aC 58 vr10 x7.1::Pt b2 (.cells #[(Iv p1.kind),(.string p1.text),(Iv p1.at_),(Iv p1.fin),aJ] 24 (0,0))::Pt b1 (.cells #[(Iv p0.kind),(.string p0.text),(Iv p0.at_),(Iv p0.fin),aI] 24 (0,0))::L) w) ?_ ?_
 ·rcases Bool.eq_false_or_eq_true (decide (x6.2=0)) with hc11|hc11
  ·
   replace hg1:=(it hc11).symm.trans hg1
   refine Gs hE hc11 rfl rfl fun a hE=>G hE hp hc11 rfl (aK rfl hE rfl (fun w hw=>aW (cs:=[(Iv p0.kind),(.string p0.text),(Iv p0.at_),(Iv p0.fin),aI]) bY (Hp.cN 2 rfl 0 _ (aS rfl) w hw))) fun a hE=>G hE hp hc11 rfl (aK rfl hE rfl (fun w hw=>aW (cs:=[(Iv p1.kind),(.string p1.text),(Iv p1.at_),(Iv p1.fin),aJ]) bY (Hp.cN 1 rfl 0 _ (aS rfl) w hw))) fun a hE=>Gs hE hc11 rfl rfl fun a hE=>?_
   obtain⟨x9,ex9,hg1⟩:=bnd hg1
   refine Cg hE hc11 rfl rfl ent18 (aE2 p0 aI bD p1 aJ bH p2 vp2 hp2 hp x9 ex9) ⟨rfl,rfl,rfl,trivial⟩ fun v a w hR hE=>?_
   obtain⟨rfl,hp⟩:=hR
   have hp:=r3 hp
   refine Gs hE hc11 rfl rfl fun a hE=>pk1 hE hc11 rfl rfl rfl rfl fun a hE=>?_
   obtain rfl:=oj hg1
   exact aB ⟨hE.cut ⟨rfl,rfl,rfl,rfl,rfl,rfl,trivial⟩,hp⟩
  replace hg1:=(ie hc11).symm.trans hg1
  refine Gk hE hc11 rfl fun a hE=>Gk hE hc11 rfl fun a hE=>Gk hE hc11 rfl fun a hE=>Gk hE hc11 rfl fun a hE=>Gk hE hc11 rfl fun a hE=>Gk hE hc11 rfl fun a hE=>pk0 hE hc11 rfl rfl rfl rfl fun a hE=>?_
  obtain rfl:=oj hg1
  exact aB ⟨hE.cut ⟨rfl,rfl,rfl,rfl,rfl,rfl,trivial⟩,hp⟩
 rintro a w ⟨hE,hp⟩
 refine S hE 1 rfl fun a hE=>?_
 refine iL [_,_,_] (fun a w=>Env 114 [(105,(.bool (m1&&(decide (x7.2=0))))),(2,vp2),(4,(Pv b1 0)),(5,(Pv b2 0)),(16,vr10)] a∧Hp Z ρ (aC 58 vr10 x7.1::Pt b2 (.cells #[(Iv p1.kind),(.string p1.text),(Iv p1.at_),(Iv p1.fin),aJ] 24 (0,0))::Pt b1 (.cells #[(Iv p0.kind),(.string p0.text),(Iv p0.at_),(Iv p0.fin),aI] 24 (0,0))::L) w) ?_ ?_
 ·rcases Bool.eq_false_or_eq_true m1 with hc12|hc12
  ·
   refine Gs hE hc12 rfl rfl fun a hE=>Gs hE hc12 rfl rfl fun a hE=>pk1 hE hc12 rfl rfl rfl rfl fun a hE=>?_
   have hE:=hE.eqv (v':=(.bool (m1&&(decide (x7.2=0))))) (by rw[hc12];rfl)
   exact aB ⟨hE.cut ⟨rfl,rfl,rfl,rfl,rfl,trivial⟩,hp⟩
  refine Gk hE hc12 rfl fun a hE=>Gk hE hc12 rfl fun a hE=>pk0 hE hc12 rfl rfl rfl rfl fun a hE=>?_
  have hE:=hE.eqv (v':=(.bool (m1&&(decide (x7.2=0))))) (by rw[hc12];rfl)
  exact aB ⟨hE.cut ⟨rfl,rfl,rfl,rfl,rfl,trivial⟩,hp⟩
 rintro a w ⟨hE,hp⟩
 refine S hE 1 rfl fun a hE=>?_
 obtain⟨m2,hg2,hm⟩:=bnd hm
 refine iL [_,_,_,_,_,_,_] (fun a w=>Env 114 [(113,(.bool m2))] a∧Hp Z ρ (aC 58 vr10 x7.1::Pt b2 (.cells #[(Iv p1.kind),(.string p1.text),(Iv p1.at_),(Iv p1.fin),aJ] 24 (0,0))::Pt b1 (.cells #[(Iv p0.kind),(.string p0.text),(Iv p0.at_),(Iv p0.fin),aI] 24 (0,0))::L) w) ?_ ?_
 ·rcases Bool.eq_false_or_eq_true (m1&&(decide (x7.2=0))) with hc13|hc13
  ·
   replace hg2:=(it hc13).symm.trans hg2
   refine Gs hE hc13 rfl rfl fun a hE=>G hE hp hc13 rfl (aK rfl hE rfl (fun w hw=>aW (cs:=[(Iv p0.kind),(.string p0.text),(Iv p0.at_),(Iv p0.fin),aI]) bY (Hp.cN 2 rfl 0 _ (aS rfl) w hw))) fun a hE=>G hE hp hc13 rfl (aK rfl hE rfl (fun w hw=>aW (cs:=[(Iv p1.kind),(.string p1.text),(Iv p1.at_),(Iv p1.fin),aJ]) bY (Hp.cN 1 rfl 0 _ (aS rfl) w hw))) fun a hE=>Gs hE hc13 rfl rfl fun a hE=>?_
   obtain⟨x10,ex10,hg2⟩:=bnd hg2
   refine s_call (wk1 hE rfl rfl rfl hc13) rfl rfl hE rfl [(.agg #[(Iv p0.kind),(.string p0.text),(Iv p0.at_),(Iv p0.fin),aI]),(.agg #[(Iv p1.kind),(.string p1.text),(Iv p1.at_),(Iv p1.fin),aJ]),vp2] ⟨rfl,rfl,rfl,trivial⟩ ent20 (Z4 p0 aI bD p1 aJ bH p2 vp2 hp2 hp x10 ex10) Ret.ret ?_
   intro vr14 a w hR hE
   obtain⟨u,rfl,hp⟩:=Ret.of hR
   have hp:=r4 hp
   obtain⟨k1,k1a,k1d,k1h⟩:=(hp.get 1 rfl).lend
   obtain⟨k2,k2a,k2d,k2h⟩:=(k1h.get 0 rfl).lend
   obtain⟨x11,ex11,hg2⟩:=bnd hg2
   refine Cg hE hc13 rfl rfl ent19 (zI x7.1 vr10 (aH.mono (aC.ro k1d k1a) (PH.le_un _ _)) x10 vr14 (aC.ro k2d k2a) k2h x11 ex11) ⟨rfl,rfl,trivial⟩ fun v a w hR hE=>?_
   obtain⟨rfl,hp⟩:=hR
   have hp:=Hp.back k2a k2d hp
   have hp:=Hp.back k1a k1d hp
   have hp:=r4 hp
   refine pk1 hE hc13 rfl rfl rfl rfl fun a hE=>?_
   obtain rfl:=oj hg2
   exact aB ⟨hE.cut ⟨rfl,trivial⟩,((hp.get 1 rfl).drop)⟩
  replace hg2:=(ie hc13).symm.trans hg2
  refine Gk hE hc13 rfl fun a hE=>Gk hE hc13 rfl fun a hE=>Gk hE hc13 rfl fun a hE=>Gk hE hc13 rfl fun a hE=>Gk hE hc13 rfl fun a hE=>Gk hE hc13 rfl fun a hE=>pk0 hE hc13 rfl rfl rfl rfl fun a hE=>?_
  obtain rfl:=oj hg2
  exact aB ⟨hE.cut ⟨rfl,trivial⟩,hp⟩
 rintro a w ⟨hE,hp⟩
 refine S hE 1 rfl fun a hE=>aB (bZ ?_)
 obtain rfl:=oj hm
 exact gJ hE rfl rfl ⟨_,rfl,rfl,(((((hp.get 2 rfl).drop).get 1 rfl).drop).drop)⟩
theorem loop_at {σ β:Type} {body:σ→Option (Step σ β)} {b:β} (S:Nat→σ):∀(n:Nat),(∀k,k<n→body (S k)=some (.next (S (k+1))))→body (S n)=some (.done b)→dV body (S 0)=some b
 |0,_,h=>kC h
 |n+1,h1,h2=>by
  rw[wL (h1 0 (by omega))]
  exact loop_at (fun k=>S (k+1)) n (fun k hk=>h1 (k+1) (by omega)) h2
theorem wX {σ β:Type} {body:σ→Option (Step σ β)} {b:β} {s:σ} (S:Nat→σ) (n:Nat) (h0:s=S 0) (h1:∀k,k<n→body (S k)=some (.next (S (k+1)))) (h2:body (S n)=some (.done b)):dV body s=some b:=by
 rw[h0];exact loop_at S n h1 h2
theorem xZ {σ β γ:Type} {body:σ→Option (Step σ β)} {s:σ} {f:β→Option γ} {r:Option γ} (S:Nat→σ) (n:Nat) (b:β) (h0:s=S 0) (h1:∀k,k<n→body (S k)=some (.next (S (k+1)))) (h2:body (S n)=some (.done b)) (hf:f b=r):(dV body s).bind f=r:=by
 rw[wX S n h0 h1 h2];exact hf
theorem mW {n:Int} (h: -9223372036854775808≤n∧n≤9223372036854775807):inK .i64 n=some n:=inK_ok n h.1 h.2
theorem gU {k:Nat} (h:k≤4611686018427387904):inK .i64 ((k:Int)+1)=some ((k+1:Nat):Int):=by
 rw[inK_ok _ (by omega) (by omega)];rfl
theorem fE {α:Type} {l:List α} {k:Nat} {a:α} (h:l[k]?=some a):idx l (k:Int)=some a:=by
 unfold idx;rw[if_pos (by omega)];simpa using h
theorem uN {α:Type} {l:List α} {i:Int} {a:α} (h0:0≤i) (h:l[i.toNat]?=some a):idx l i=some a:=by
 unfold idx;rw[if_pos h0,h]
theorem fB {α:Type} {l:List α} {k:Nat} (h:k<l.length):∃a,l[k]?=some a:=⟨_,List.getElem?_eq_getElem h⟩
theorem yV {α:Type} {l m:List α} (h:l.length+m.length≤4294967296):app l m=some (l++m):=by unfold app;rw[if_pos h]
theorem sub_ok {α:Type} {l:List α} {i j:Int} (h0:0≤i) (h1:i≤j) (h2:j≤l.length):sub l i j=some ((l.take j.toNat).drop i.toNat):=by unfold sub;rw[if_pos ⟨h0,h1,h2⟩]
theorem mkc_ok {α:Type} {n c:Int} {z:α} (h:0≤n∧n≤c∧c≤4294967296):mkc n c z=some (List.replicate n.toNat z):=by unfold mkc;rw[if_pos h]
theorem I64.r {n:Int} (h:(Lit.int .i64 n).wf=true): -9223372036854775808≤n∧n≤9223372036854775807:=by
 simp[Lit.wf,IntKind.min,IntKind.max,IntKind.signed,IntKind.bits] at h
 exact⟨by omega,by omega⟩
theorem U8.r {n:Int} (h:(Lit.int .u8 n).wf=true):0≤n∧n≤255:=by
 simp[Lit.wf,IntKind.min,IntKind.max,IntKind.signed,IntKind.bits] at h
 omega
theorem first_or {α:Type} (p:α→Bool):∀(l:List α),(∃k a,l[k]?=some a∧p a=true∧(∀j b,j<k→l[j]?=some b→p b=false)∧l.any p=true∧l.findIdx p=k)∨((∀a∈l,p a=false)∧l.any p=false∧l.findIdx p=l.length)
 | []=>Or.inr ⟨by simp,rfl,rfl⟩
 |x::l=>by
  cases hx:p x with
  |true=>exact Or.inl ⟨0,x,rfl,hx,fun j b hj=>by omega,by simp[hx],by simp[List.findIdx_cons,hx]⟩
  |false=>
   rcases first_or p l with⟨k,a,h1,h2,h3,h4,h5⟩|⟨h1,h2,h3⟩
   ·refine Or.inl ⟨k+1,a,by simpa using h1,h2,fun j b hj hb=>?_,by simp[hx,h4],by simp[List.findIdx_cons,hx,h5]⟩
    cases j with
    |zero=>simp at hb;subst hb;exact hx
    |succ j=>exact h3 j b (by omega) (by simpa using hb)
   refine Or.inr ⟨fun a ha=>?_,by simp[hx,h2],by simp[List.findIdx_cons,hx,h3]⟩
   rcases List.mem_cons.1 ha with rfl|ha
   ·exact hx
   exact h1 a ha
theorem aG7 {α β:Type} {body:Int→Option (Step Int β)} (l:List α) (p:α→Bool) (hit:Nat→α→β) (miss:β)
  (h1:∀(k:Nat) a,l[k]?=some a→body k=some (if p a=true then .done (hit k a) else .next ((k+1:Nat):Int))) (h2:body (l.length:Int)=some (.done miss)):
  (∃k a,l[k]?=some a∧p a=true∧(∀j b,j<k→l[j]?=some b→p b=false)∧l.any p=true∧l.findIdx p=k∧dV body 0=some (hit k a))∨((∀a∈l,p a=false)∧l.any p=false∧l.findIdx p=l.length∧dV body 0=some miss):=by
 rcases first_or p l with⟨k,a,a1,a2,a3,a4,a5⟩|⟨a1,a2,a3⟩
 ·refine Or.inl ⟨k,a,a1,a2,a3,a4,a5,wX (fun j=>(j:Int)) k rfl (fun j hj=>?_) ?_⟩
  ·obtain⟨b,hb⟩:=fB (show j<l.length by have:=(List.getElem?_eq_some_iff.1 a1).1;omega)
   rw[h1 j b hb,a3 j b hj hb];rfl
  rw[h1 k a a1,a2];rfl
 refine Or.inr ⟨a1,a2,a3,wX (fun j=>(j:Int)) l.length rfl (fun j hj=>?_) h2⟩
 obtain⟨b,hb⟩:=fB hj
 rw[h1 j b hb,a1 b (List.mem_of_getElem? hb)];rfl
theorem any_loop {α β:Type} {body:Int→Option (Step Int β)} (l:List α) (p:α→Bool) (hit miss:β)
  (h1:∀(k:Nat) a,l[k]?=some a→body k=some (if p a=true then .done hit else .next ((k+1:Nat):Int))) (h2:body (l.length:Int)=some (.done miss)):dV body 0=some (if l.any p=true then hit else miss):=by
 rcases aG7 l p (fun _ _=>hit) miss h1 h2 with⟨k,a,_,_,_,h,_,e⟩|⟨_,h,_,e⟩
 ·rw[e,h];rfl
 rw[e,h];rfl
theorem drop_cons_of {α:Type} {l:List α} {k:Nat} {a:α} (h:l[k]?=some a):l.drop k=a::l.drop (k+1):=by
 obtain⟨h1,h2⟩:=List.getElem?_eq_some_iff.1 h
 rw[←h2];exact List.drop_eq_getElem_cons h1
theorem iO {α:Type} {l:List α} {k:Nat} {a:α} (h:l[k]?=some a):l.take (k+1)=l.take k++[a]:=by
 obtain⟨h1,h2⟩:=List.getElem?_eq_some_iff.1 h
 rw[←h2];exact List.take_succ_eq_append_getElem h1
theorem rising_ext {α:Type} {r:α→α→Prop} (irr:∀a,¬r a a) (tr:∀a b c,r a b→r b c→r a c):∀{l m:List α},l.Pairwise r→m.Pairwise r→(∀x,x∈l↔x∈m)→l=m
 | [],[],_,_,_=>rfl
 | [],b::m,_,_,h=>by have:=(h b).2 (List.mem_cons_self ..);simp at this
 |a::l,[],_,_,h=>by have:=(h a).1 (List.mem_cons_self ..);simp at this
 |a::l,b::m,hl,hm,h=>by
  obtain⟨l1,l2⟩:=List.pairwise_cons.1 hl
  obtain⟨m1,m2⟩:=List.pairwise_cons.1 hm
  have e:a=b:=by
   rcases List.mem_cons.1 ((h a).1 (List.mem_cons_self ..)) with e|h1
   ·exact e
   rcases List.mem_cons.1 ((h b).2 (List.mem_cons_self ..)) with e|h2
   ·exact e.symm
   exact absurd (tr _ _ _ (m1 a h1) (l1 b h2)) (irr b)
  subst e
  congr 1
  refine rising_ext irr tr l2 m2 fun x=>?_
  constructor
  ·intro hx
   rcases List.mem_cons.1 ((h x).1 (List.mem_cons_of_mem _ hx)) with e|h1
   ·subst e;exact absurd (l1 x hx) (irr x)
   exact h1
  intro hx
  rcases List.mem_cons.1 ((h x).2 (List.mem_cons_of_mem _ hx)) with e|h1
  ·subst e;exact absurd (m1 x hx) (irr x)
  exact h1
theorem bsn {α β:Type} (a:α) (f:α→Option β):(some a).bind f=f a:=rfl
mutual
def prN:Node→Nat→Int→List (Node×Int×Nat)
 |⟨a,b,c,d,kids⟩,z,p=>(⟨a,b,c,d,kids⟩,p,z)::prL kids (z+1) z
def prL:List Node→Nat→Int→List (Node×Int×Nat)
 | [],_,_=>[]
 |n::r,z,p=>prN n z p++prL r (z+bW n) p
end
theorem prN_eq (n:Node) (z:Nat) (p:Int):prN n z p=(n,p,z)::prL n.kids (z+1) z:=by obtain⟨a,b,c,d,k⟩:=n;rw[prN]
theorem aG5 (z:Nat) (p:Int):prL [] z p=[]:=by rw[prL]
theorem aF2 (n:Node) (r:List Node) (z:Nat) (p:Int):prL (n::r) z p=prN n z p++prL r (z+bW n) p:=by rw[prL]
theorem prL_app:∀(A B:List Node) (z:Nat) (p:Int),prL (A++B) z p=prL A z p++prL B (z+qI A) p
 | [],B,z,p=>by rw[aG5,qI];rfl
 |n::A,B,z,p=>by rw[List.cons_append,aF2,aF2,prL_app A B,yC,List.append_assoc,Nat.add_assoc]
theorem prL_take {l:List Node} {i:Nat} {n:Node} (h:l[i]?=some n) (z:Nat) (p:Int):prL (l.take (i+1)) z p=prL (l.take i) z p++prN n (z+qI (l.take i)) p:=by
 rw[iO h,prL_app,aF2,aG5,List.append_nil]
theorem node_ind {P:Node→Prop} {Q:List Node→Prop} (h1:∀n,Q n.kids→P n) (h2:Q []) (h3:∀n r,P n→Q r→Q (n::r)):(∀n,P n)∧∀l,Q l:=by
 have hq:∀(m:Nat) (l:List Node),SizeOf.sizeOf l≤m→Q l:=by
  intro m
  induction m with
  |zero=>intro l h;cases l<;>simp at h
  |succ m ih=>
   intro l h
   cases l with
   |nil=>exact h2
   |cons n r=>
    simp only[List.cons.sizeOf_spec] at h
    have hs:SizeOf.sizeOf n.kids<SizeOf.sizeOf n:=by obtain⟨a,b,c,d,kids⟩:=n;simp;omega
    exact h3 n r (h1 n (ih _ (by omega))) (ih r (by omega))
 exact⟨fun n=>h1 n (hq _ _ (Nat.le_refl _)),fun l=>hq _ _ (Nat.le_refl _)⟩
theorem tK:(∀n z p,(prN n z p).length=bW n)∧∀l z p,(prL l z p).length=qI l:=by
 refine node_ind (fun n h z p=>?_) (fun z p=>by rw[aG5,qI];rfl) (fun n r h1 h2 z p=>?_)
 ·rw[prN_eq,List.length_cons,h,yY];omega
 rw[aF2,List.length_append,h1,h2,yC]
theorem pr_at:(∀n z p (j:Nat) m q k,(prN n z p)[j]?=some (m,q,k)→k=z+j∧k+bW m≤z+bW n∧(q=p∧j=0∧m=n∨(z:Int)≤q∧q<k∧0<j))∧
  ∀l z p (j:Nat) m q k,(prL l z p)[j]?=some (m,q,k)→k=z+j∧k+bW m≤z+qI l∧(q=p∨(z:Int)≤q∧q<k):=by
 refine node_ind (fun n h z p j m q k hj=>?_) (fun z p j m q k hj=>?_) (fun n r h1 h2 z p j m q k hj=>?_)
 ·rw[prN_eq] at hj
  have hc:=yY n
  cases j with
  |zero=>
   simp only[List.getElem?_cons_zero,Option.some.injEq,Prod.mk.injEq] at hj
   obtain⟨rfl,rfl,rfl⟩:=hj
   exact⟨rfl,Nat.le_refl _,Or.inl ⟨rfl,rfl,rfl⟩⟩
  |succ j=>
   rw[List.getElem?_cons_succ] at hj
   obtain⟨a1,a2,a3⟩:=h _ _ j m q k hj
   refine⟨by omega,by omega,Or.inr ?_⟩
   rcases a3 with e|e<;>omega
 ·rw[aG5] at hj;simp at hj
 rw[aF2] at hj
 have hc:=yC n r
 have hl:=tK.1 n z p
 rcases Nat.lt_or_ge j (prN n z p).length with hh|hh
 ·rw[List.getElem?_append_left hh] at hj
  obtain⟨a1,a2,a3⟩:=h1 z p j m q k hj
  refine⟨a1,by omega,?_⟩
  rcases a3 with e|e
  ·exact Or.inl e.1
  exact Or.inr ⟨e.1,e.2.1⟩
 rw[List.getElem?_append_right hh] at hj
 obtain⟨a1,a2,a3⟩:=h2 _ p _ m q k hj
 refine⟨by omega,by omega,?_⟩
 rcases a3 with e|e
 ·exact Or.inl e
 exact Or.inr (by omega)
def nmb (l:List (Node×Int×Nat)):Nmb:=⟨l.map (·.1),l.map fun x=>(bW x.1:Int),l.map (·.2.1)⟩
def spn (x:Node×Int×Nat):Span:=⟨x.1.kind,x.1.text,((x.2.2+bW x.1:Nat):Int),x.2.1⟩
theorem number_r:∀(f:Nat) (n:Node),SizeOf.sizeOf n<f→∀(p:Int) (B:List (Node×Int×Nat)),B.length+bW n≤100000→oN f n p (nmb B)=some (nmb (B++prN n B.length p)):=by
 intro f
 induction f with
 |zero=>intro n h;omega
 |succ f ih=>
  intro n hsz p B hb
  have hc:=yY n
  have hl:=D9 n.kids
  unfold oN qX
  have hN:(nmb B).nodes.length=B.length∧(nmb B).sizes.length=B.length∧(nmb B).parent.length=B.length:=by simp[nmb]
  rw[yV (by simp only[List.length_singleton];omega),bsn,show aC7 n=some (bW n:Int) by unfold aC7;rw[if_pos (by omega)],bsn,yV (by simp only[List.length_singleton];omega),bsn,yV (by simp only[List.length_singleton];omega),bsn]
  let G (i:Nat):Nmb:=nmb (B++((n,p,B.length)::prL (n.kids.take i) (B.length+1) B.length))
  refine xZ (fun i=>((i:Int),(G i).nodes,(G i).sizes,(G i).parent)) n.kids.length ((G n.kids.length).nodes,(G n.kids.length).sizes,(G n.kids.length).parent) (by simp[G,nmb,aG5]) (fun i hi=>?_) ?_ ?_
  ·obtain⟨x,hx⟩:=fB hi
   have e1:=aA0 hx
   have e2:=cntL_le n.kids (i+1)
   have e3:=tK.2 (n.kids.take i) (B.length+1) B.length
   simp only[oC]
   rw[if_pos (by simp;omega),fE hx,bsn,hN.1]
   have:=ih x (by have:=node_sz hx;omega) (B.length:Int) (B++((n,p,B.length)::prL (n.kids.take i) (B.length+1) B.length)) (by simp only[List.length_append,List.length_cons];omega)
   rw[show(Nmb.mk (G i).nodes (G i).sizes (G i).parent)=nmb (B++((n,p,B.length)::prL (n.kids.take i) (B.length+1) B.length)) from rfl,this,bsn,gU (by omega),bsn]
   simp only[G]
   rw[prL_take hx]
   simp only[List.length_append,List.length_cons,e3]
   rw[show B.length+(qI (n.kids.take i)+1)=B.length+1+qI (n.kids.take i) by omega]
   simp
  ·simp only[oC]
   rw[if_neg (by simp)]
  simp only[G]
  rw[prN_eq,List.take_of_length_le (Nat.le_refl _)]
theorem aB1 (n:Node) (h:bW n≤100000):jE n=some (nmb (prN n 0 (-1))):=by
 unfold jE zT
 have:=number_r (SizeOf.sizeOf n+1) n (by omega) (-1) [] (by simpa using h)
 rw[show(Nmb.mk ([]) ([]) ([]))=nmb [] from rfl,this];rfl
theorem spans_r:∀(f:Nat) (n:Node),SizeOf.sizeOf n<f→∀(p:Int) (B:List Span),B.length+bW n≤100000→jW f B n p=some (B++(prN n B.length p).map spn):=by
 intro f
 induction f with
 |zero=>intro n h;omega
 |succ f ih=>
  intro n hsz p B hb
  have hc:=yY n
  have hl:=D9 n.kids
  unfold jW nG
  rw[yV (by simp only[List.length_singleton];omega),bsn]
  refine xZ (fun i=>((i:Int),B++(⟨n.kind,n.text,0,p⟩::(prL (n.kids.take i) (B.length+1) B.length).map spn))) n.kids.length (B++(⟨n.kind,n.text,0,p⟩::(prL n.kids (B.length+1) B.length).map spn)) (by simp[aG5]) (fun i hi=>?_) ?_ ?_
  ·obtain⟨x,hx⟩:=fB hi
   have e1:=aA0 hx
   have e2:=cntL_le n.kids (i+1)
   have e3:=tK.2 (n.kids.take i) (B.length+1) B.length
   simp only[kQ]
   rw[if_pos (by simp;omega),fE hx,bsn,ih x (by have:=node_sz hx;omega) (B.length:Int) _ (by simp only[List.length_append,List.length_cons,List.length_map];omega),bsn,gU (by omega),bsn,prL_take hx]
   simp only[List.length_append,List.length_cons,List.length_map,e3]
   rw[show B.length+(qI (n.kids.take i)+1)=B.length+1+qI (n.kids.take i) by omega]
   simp
  ·simp only[kQ]
   rw[if_neg (by simp),List.take_of_length_le (Nat.le_refl _)]
  rw[fE (a:=⟨n.kind,n.text,0,p⟩) (by simp),bsn,Int.toNat_natCast,prN_eq,List.map_cons]
  have e3:=tK.2 n.kids (B.length+1) B.length
  simp only[List.length_append,List.length_cons,List.length_map,e3]
  rw[List.set_append_right _ _ (Nat.le_refl _),Nat.sub_self,List.set_cons_zero]
  congr 3
  unfold spn
  simp only[Span.mk.injEq,and_true,true_and]
  rw[hc];omega
theorem aF8 (n:Node) (h:bW n≤100000):gX n=some ((prN n 0 (-1)).map spn):=by
 unfold gX vG
 rw[spans_r (SizeOf.sizeOf n+1) n (by omega) (-1) [] (by simpa using h)];rfl
theorem up_loop {β:Type} {body:Int→Option (Step Int β)} (p:Nat→Prop) (hit miss:β) (n:Nat):∀(d i:Nat),i+d=n→
  (∀k:Nat,i≤k→k<n→(p k∧body k=some (.done hit))∨(¬p k∧body k=some (.next ((k+1:Nat):Int))))→body (n:Int)=some (.done miss)→
  ((∃k,i≤k∧k<n∧p k)∧dV body (i:Int)=some hit)∨((∀k,i≤k→k<n→¬p k)∧dV body (i:Int)=some miss)
 |0,i,hd,h1,h2=>by
  subst hd
  exact Or.inr ⟨fun k a b=>by omega,kC h2⟩
 |d+1,i,hd,h1,h2=>by
  rcases h1 i (Nat.le_refl _) (by omega) with⟨a,b⟩|⟨a,b⟩
  ·exact Or.inl ⟨⟨i,Nat.le_refl _,by omega,a⟩,kC b⟩
  rw[wL b]
  rcases up_loop p hit miss n d (i+1) (by omega) (fun k x y=>h1 k (by omega) y) h2 with⟨⟨k,x,y,z⟩,e⟩|⟨x,e⟩
  ·exact Or.inl ⟨⟨k,by omega,y,z⟩,e⟩
  refine Or.inr ⟨fun k u v=>?_,e⟩
  rcases Nat.lt_or_ge i k with w|w
  ·exact x k w v
  rwa [show k=i by omega]
structure OkO (nx ny:Nat) (A:List Opn) (o:Opn):Prop where
 fst:A.length<nx→o.a=A.length
 snd:nx≤A.length→o.a= -1∧0≤o.b∧∀q∈A.drop nx,q.b<o.b
 lo: -1≤o.b
 hi:o.b<ny
 inj:0≤o.b→∀q∈A,q.b≠o.b
def Scr (nx ny:Nat) (l:List Opn):Prop:=∀j o,l[j]?=some o→OkO nx ny (l.take j) o
def PrO (sx sy:Nat→Nat) (q o:Opn):Prop:=0≤q.a→0≤q.b→0≤o.a→0≤o.b→q.b<o.b∧(o.a<q.a+sx q.a.toNat↔o.b<q.b+sy q.b.toNat)
structure Vd (nx ny:Nat) (sx sy:Nat→Nat) (l:List Opn):Prop where
 scr:Scr nx ny l
 len:nx≤l.length
 sur:∀b:Nat,b<ny→∃q∈l,q.b=b
 prs:l.Pairwise (PrO sx sy)
def Mk (ny:Nat) (A:List Opn) (m:List Bool):Prop:=m.length=ny∧∀b:Nat,b<ny→(m[b]?=some true↔∃q∈A,q.b=b)
theorem Mk.nil (ny:Nat):Mk ny [] (List.replicate ny false):=⟨by simp,fun b hb=>by simp[List.getElem?_replicate,hb]⟩
theorem Mk.skip {ny:Nat} {A:List Opn} {m:List Bool} {o:Opn} (h:Mk ny A m) (ho:o.b<0):Mk ny (A++[o]) m:=⟨h.1,fun b hb=>by
 rw[h.2 b hb]
 constructor
 ·rintro⟨q,hq,e⟩;exact⟨q,by simp[hq],e⟩
 rintro⟨q,hq,e⟩
 rcases List.mem_append.1 hq with h|h
 ·exact⟨q,h,e⟩
 rw[List.mem_singleton.1 h] at e;omega⟩
theorem Mk.mark {ny:Nat} {A:List Opn} {m:List Bool} {o:Opn} (h:Mk ny A m) (h0:0≤o.b) (h1:o.b<ny):Mk ny (A++[o]) (m.set o.b.toNat true):=⟨by simp[h.1],fun b hb=>by
 rw[List.getElem?_set]
 by_cases e:o.b.toNat=b
 ·rw[if_pos e,if_pos (by rw[h.1];omega)]
  simp only[true_iff]
  exact⟨o,by simp,by omega⟩
 rw[if_neg e,h.2 b hb]
 constructor
 ·rintro⟨q,hq,e⟩;exact⟨q,by simp[hq],e⟩
 rintro⟨q,hq,e2⟩
 rcases List.mem_append.1 hq with h|h
 ·exact⟨q,h,e2⟩
 rw[List.mem_singleton.1 h] at e2;omega⟩
theorem Mk.get {ny:Nat} {A:List Opn} {m:List Bool} {o:Opn} (h:Mk ny A m) (h0:0≤o.b) (h1:o.b<ny):∃x,idx m o.b=some x∧(x=true↔∃q∈A,q.b=o.b):=by
 obtain⟨x,hx⟩:=fB (show o.b.toNat<m.length by rw[h.1];omega)
 have:=h.2 o.b.toNat (by omega)
 rw[hx] at this
 refine⟨x,uN h0 hx,?_⟩
 rw[show((o.b.toNat:Nat):Int)=o.b by omega] at this
 rw[←this];simp
def La (nx:Nat) (A:List Opn) (z:Int):Prop:= -1≤z∧(∀q∈A.drop nx,q.b≤z)∧(z= -1∨∃q∈A.drop nx,q.b=z)
theorem La.iff {nx:Nat} {A:List Opn} {z:Int} (h:La nx A z) (b:Int):z<b↔0≤b∧∀q∈A.drop nx,q.b<b:=by
 obtain⟨h1,h2,h3⟩:=h
 constructor
 ·intro hb;exact⟨by omega,fun q hq=>by have:=h2 q hq;omega⟩
 rintro⟨a,c⟩
 rcases h3 with e|⟨q,hq,e⟩
 ·omega
 have:=c q hq;omega
theorem La.fst {nx:Nat} {A:List Opn} {z:Int} {o:Opn} (h:La nx A z) (hl:A.length<nx):La nx (A++[o]) z:=by
 unfold La at h⊢
 rw[List.drop_eq_nil_of_le (by simp;omega)]
 rw[List.drop_eq_nil_of_le (by omega)] at h
 exact h
theorem La.snd {nx:Nat} {A:List Opn} {z:Int} {o:Opn} (h:La nx A z) (hl:nx≤A.length) (hb:z<o.b):La nx (A++[o]) o.b:=by
 obtain⟨h1,h2,h3⟩:=h
 refine⟨by omega,fun q hq=>?_,Or.inr ⟨o,by rw[List.drop_append_of_le_length hl];simp,rfl⟩⟩
 rw[List.drop_append_of_le_length hl] at hq
 rcases List.mem_append.1 hq with h|h
 ·have:=h2 q h;omega
 rw[List.mem_singleton.1 h];omega
theorem Scr.take {nx ny:Nat} {l:List Opn} {i:Nat} {o:Opn} (h:∀j q,j<i→l[j]?=some q→OkO nx ny (l.take j) q) (ho:l[i]?=some o) (hk:OkO nx ny (l.take i) o):∀j q,j<i+1→l[j]?=some q→OkO nx ny (l.take j) q:=fun j q hj hq=>by
 rcases Nat.lt_or_ge j i with e|e
 ·exact h j q e hq
 obtain rfl:j=i:=by omega
 rw[ho] at hq;cases hq;exact hk
theorem vloop (nx ny:Nat) (l:List Opn) (x:Nmb) (hx:x.nodes.length=nx) (hnx:nx≤100000) (hl:l.length≤9223372036854775807) (hw:∀o∈l,I64 o.a∧I64 o.b):
  ∃r,dV (fun s=>rP l x s.1 s.2.1 s.2.2.1 s.2.2.2) (-1,0,[],List.replicate ny false)=some r∧((r= .ret false∧¬Scr nx ny l)∨∃m,r= .brk (l.filter (fun o=>decide (0≤o.a)&&decide (0≤o.b)),m)∧Scr nx ny l∧Mk ny l m):=by
 refine zS (fun s=>∃i:Nat,s.2.1=(i:Int)∧i≤l.length∧(∀j q,j<i→l[j]?=some q→OkO nx ny (l.take j) q)∧La nx (l.take i) s.1∧s.2.2.1=(l.take i).filter (fun o=>decide (0≤o.a)&&decide (0≤o.b))∧s.2.2.1.length≤nx∧(i≤nx→s.2.2.1.length≤i)∧Mk ny (l.take i) s.2.2.2) (fun s=>l.length-s.2.1.toNat) _ ?_ _ ⟨0,rfl,Nat.zero_le _,fun j q h=>by omega,⟨by simp,by simp,Or.inl rfl⟩,by simp,by simp,by simp,by rw[List.take_zero];exact Mk.nil ny⟩
 rintro⟨z,_,ps,m⟩ ⟨i,rfl,hi,h1,h2,h3,h4,h4',h5⟩
 simp only at h2 h3 h4 h4' h5
 by_cases hlt:i<l.length
 ·obtain⟨o,ho⟩:=fB hlt
  have hwo:=hw o (List.mem_of_getElem? ho)
  unfold I64 at hwo
  have hti:(l.take i).length=i:=by rw[List.length_take];omega
  have hnext:inK .i64 ((i:Int)+1)=some ((i+1:Nat):Int):=by rw[mW (by omega)];rfl
  simp only[rP]
  rw[if_pos (by simp;omega),fE ho,bsn]
  by_cases hc:((i<nx↔0≤o.a)∧(0≤o.a→o.a=i)∧(o.a<0→o.a= -1)∧ -1≤o.b∧o.b<ny∧(o.a<0→z<o.b))
  ·obtain⟨c1,c2,c3,c4,c5,c6⟩:=hc
   rw[if_neg (by
    rw[hx,h5.1]
    simp only[Bool.or_eq_true,Bool.and_eq_true,Bool.not_eq_true',decide_eq_true_eq,decide_eq_false_iff_not,beq_eq_false_iff_ne,ne_eq,decide_eq_decide]
    omega)]
   have hok:(0≤o.b→∀q∈l.take i,q.b≠o.b)→OkO nx ny (l.take i) o:=fun hj=>⟨fun h=>by rw[hti] at h⊢;exact c2 (c1.1 h),fun h=>by
    rw[hti] at h
    have:o.a<0:=by omega
    exact⟨c3 this,(h2.iff o.b).1 (c6 this)⟩,c4,c5,hj⟩
   have hz:La nx (l.take (i+1)) (if o.a<0 then o.b else z):=by
    rw[iO ho]
    split
    ·rename_i hh;exact h2.snd (by omega) (c6 hh)
    exact h2.fst (by omega)
   have hj2:((if(decide (o.a<0))=true then some o.b else some z):Option Int)=some (if o.a<0 then o.b else z):=by
    by_cases hh:o.a<0<;>simp[hh]
   rw[hj2,bsn]
   have hfil1:0≤o.a→0≤o.b→ps++[o]=(l.take (i+1)).filter (fun o=>decide (0≤o.a)&&decide (0≤o.b)):=fun a b=>by
    rw[iO ho,List.filter_append,←h3];simp[a,b]
   have hfil0:o.a<0∨o.b<0→ps=(l.take (i+1)).filter (fun o=>decide (0≤o.a)&&decide (0≤o.b)):=fun a=>by
    rw[iO ho,List.filter_append,←h3,List.filter_cons_of_neg (by simp only[Bool.and_eq_true,decide_eq_true_eq];omega)];simp
   by_cases hb:o.b<0
   ·rw[if_pos (by simpa using hb),bsn]
    simp only
    rw[hnext,bsn]
    refine Or.inl ⟨_,rfl,⟨i+1,rfl,by omega,Scr.take h1 ho (hok fun h=>by omega),hz,hfil0 (Or.inr hb),h4,fun h=>by have:=h4' (by omega);simp only;omega,?_⟩,by simp;omega⟩
    rw[iO ho];exact h5.skip hb
   rw[if_neg (by simpa using hb)]
   obtain⟨y,hy,hyi⟩:=h5.get (o:=o) (by omega) c5
   rw[hy,bsn]
   cases y with
   |true=>
    rw[if_pos rfl,bsn]
    refine Or.inr ⟨_,rfl,Or.inl ⟨rfl,fun hS=>?_⟩⟩
    obtain⟨q,hq,e⟩:=hyi.1 rfl
    exact(hS i o ho).inj (by omega) q hq e
   |false=>
    have hno:∀q∈l.take i,q.b≠o.b:=fun q hq e=>by have:=hyi.2 ⟨q,hq,e⟩;cases this
    rw[if_neg (by simp),bsn]
    by_cases ha:0≤o.a
    ·rw[if_pos (by simpa using ha),yV (by simp;omega),bsn,bsn]
     simp only
     rw[hnext,bsn]
     refine Or.inl ⟨_,rfl,⟨i+1,rfl,by omega,Scr.take h1 ho (hok fun _=>hno),hz,hfil1 ha (by omega),?_,fun h=>?_,?_⟩,by simp;omega⟩
     ·have:=h4' (by omega);simp only[List.length_append,List.length_singleton];omega
     ·have:=h4' (by omega);simp only[List.length_append,List.length_singleton];omega
     rw[iO ho];exact h5.mark (by omega) c5
    rw[if_neg (by simpa using ha),bsn]
    simp only
    rw[hnext,bsn]
    refine Or.inl ⟨_,rfl,⟨i+1,rfl,by omega,Scr.take h1 ho (hok fun _=>hno),hz,hfil0 (Or.inl (by omega)),h4,fun h=>by omega,?_⟩,by simp;omega⟩
    rw[iO ho];exact h5.mark (by omega) c5
  rw[if_pos (by
   rw[hx,h5.1]
   simp only[Bool.or_eq_true,Bool.and_eq_true,Bool.not_eq_true',decide_eq_true_eq,decide_eq_false_iff_not,beq_eq_false_iff_ne,ne_eq,decide_eq_decide]
   omega),bsn]
  refine Or.inr ⟨_,rfl,Or.inl ⟨rfl,fun hS=>hc ?_⟩⟩
  have hk:=hS i o ho
  have k1:=hk.fst
  have k2:=hk.snd
  rw[hti] at k1 k2
  have k3:=hk.lo
  have k4:=hk.hi
  have k5:=h2.iff o.b
  by_cases hin:i<nx
  ·have:=k1 hin
   exact⟨by omega,fun _=>this,by omega,k3,k4,by omega⟩
  obtain⟨e1,e2⟩:=k2 (by omega)
  exact⟨by omega,by omega,fun _=>e1,k3,k4,fun _=>k5.2 e2⟩
 simp only[rP]
 rw[if_neg (by simp;omega)]
 rw[List.take_of_length_le (by omega)] at h3 h5
 exact Or.inr ⟨_,rfl,Or.inr ⟨m,by rw[h3],fun j q hq=>h1 j q (by have:=(List.getElem?_eq_some_iff.1 hq).1;omega) hq,h5⟩⟩
def szp (P:List (Node×Int×Nat)) (i:Nat):Nat:=match P[i]? with
 |none=>0
 |some x=>bW x.1
theorem szp_le (n:Node) (i:Nat) (h:i<bW n):∃m q,(prN n 0 (-1))[i]?=some (m,q,i)∧szp (prN n 0 (-1)) i=bW m∧i+bW m≤bW n:=by
 obtain⟨⟨m,q,k⟩,hx⟩:=fB (l:=prN n 0 (-1)) (k:=i) (by rw[tK.1];exact h)
 obtain⟨a1,a2,a3⟩:=pr_at.1 n 0 (-1) i m q k hx
 rw[Nat.zero_add] at a1 a2
 subst a1
 exact⟨m,q,hx,by unfold szp;rw[hx],a2⟩
theorem above_m (n:Node) (hn:bW n≤100000) (i k:Int) (h0:0≤i) (h1:i<bW n):eY (nmb (prN n 0 (-1))) i k=some (decide (i<k∧k<i+szp (prN n 0 (-1)) i.toNat)):=by
 obtain⟨m,q,a1,a2,a3⟩:=szp_le n i.toNat (by omega)
 unfold eY
 by_cases h:i<k
 ·rw[if_pos (by simpa using h),uN h0 (a:=(bW m:Int)) (by simp[nmb,a1]),bsn,mW (by omega),bsn,bsn,a2]
  congr 1
  simp[h]
 rw[if_neg (by simpa using h),bsn]
 congr 1
 simp[h]
theorem scr_pw {nx ny:Nat} {l:List Opn} (h:Scr nx ny l):l.Pairwise fun q o=>(0≤q.a→0≤o.a→q.a<o.a)∧(0≤o.b→q.b≠o.b):=by
 rw[List.pairwise_iff_getElem]
 intro i j hi hj hij
 have h1:=h i l[i] (List.getElem?_eq_getElem hi)
 have h2:=h j l[j] (List.getElem?_eq_getElem hj)
 have t1:(l.take i).length=i:=by rw[List.length_take];omega
 have t2:(l.take j).length=j:=by rw[List.length_take];omega
 refine⟨fun a b=>?_,fun b=>h2.inj b _ (List.mem_take_iff_getElem.2 ⟨i,by omega,rfl⟩)⟩
 have f1:=h1.fst;have s1:=h1.snd;have f2:=h2.fst;have s2:=h2.snd
 rw[t1] at f1 s1;rw[t2] at f2 s2
 rcases Nat.lt_or_ge i nx with e1|e1
 ·have:=f1 e1
  rcases Nat.lt_or_ge j nx with e2|e2
  ·have:=f2 e2;omega
  have:=(s2 e2).1;omega
 have:=(s1 e1).1;omega
theorem D6 {nx ny:Nat} {l:List Opn} (h:Scr nx ny l):∀o∈l,o.a<nx∧o.b<ny:=fun o ho=>by
 obtain⟨i,hi,rfl⟩:=List.mem_iff_getElem.1 ho
 have h1:=h i l[i] (List.getElem?_eq_getElem hi)
 have t1:(l.take i).length=i:=by rw[List.length_take];omega
 have f1:=h1.fst;have s1:=h1.snd
 rw[t1] at f1 s1
 refine⟨?_,h1.hi⟩
 rcases Nat.lt_or_ge i nx with e1|e1
 ·have:=f1 e1;omega
 have:=(s1 e1).1;omega
def Gd (sx sy:Nat→Nat) (q o:Opn):Prop:=q.b<o.b∧(o.a<q.a+sx q.a.toNat↔o.b<q.b+sy q.b.toNat)
theorem ploop (a b:Node) (ha:bW a≤100000) (hb:bW b≤100000) (ps:List Opn) (m:List Bool) (hl:ps.length≤100000)
  (hr:∀o∈ps,0≤o.a∧o.a<bW a∧0≤o.b∧o.b<bW b) (hp:ps.Pairwise fun q o=>q.a<o.a∧q.b≠o.b):
  (¬ps.Pairwise (Gd (szp (prN a 0 (-1))) (szp (prN b 0 (-1))))∧dV (fun s=>nC (nmb (prN a 0 (-1))) (nmb (prN b 0 (-1))) (ps,m) s) 0=some (.ret false))∨
  (ps.Pairwise (Gd (szp (prN a 0 (-1))) (szp (prN b 0 (-1))))∧dV (fun s=>nC (nmb (prN a 0 (-1))) (nmb (prN b 0 (-1))) (ps,m) s) 0=some (.brk ())):=by
 generalize hsx:szp (prN a 0 (-1))=sx
 generalize hsy:szp (prN b 0 (-1))=sy
 have hp':=List.pairwise_iff_getElem.1 hp
 have main:=up_loop (body:=fun s=>nC (nmb (prN a 0 (-1))) (nmb (prN b 0 (-1))) (ps,m) s) (fun k=>∃j q o,j<k∧ps[j]?=some q∧ps[k]?=some o∧¬Gd sx sy q o) (.ret false) (.brk ()) ps.length ps.length 0 (by omega) (fun k _ hk=>by
  obtain⟨o,ho⟩:=fB hk
  have hro:=hr o (List.mem_of_getElem? ho)
  simp only[nC]
  rw[if_pos (by simp;omega),fE ho,bsn,sub_ok (by omega) (by omega) (by omega),bsn]
  have hx10:(ps.take (k:Int).toNat).drop (0:Int).toNat=ps.take k:=by simp
  rw[hx10]
  have inner:=up_loop (body:=fun s=>rQ (nmb (prN a 0 (-1))) (nmb (prN b 0 (-1))) o (ps.take k) s) (fun j=>∃q,ps[j]?=some q∧¬Gd sx sy q o) (.ret false) (.brk ()) k k 0 (by omega) (fun j _ hj=>by
   obtain⟨q,hq⟩:=fB (show j<ps.length by omega)
   have hrq:=hr q (List.mem_of_getElem? hq)
   obtain⟨hab,hne⟩:q.a<o.a∧q.b≠o.b:=by
    have:=hp' j k (by omega) hk hj
    rwa [(List.getElem?_eq_some_iff.1 hq).2,(List.getElem?_eq_some_iff.1 ho).2] at this
   have hq':(ps.take k)[j]?=some q:=by rw[List.getElem?_take,if_pos hj];exact hq
   simp only[rQ]
   rw[if_pos (by simp;omega),fE hq',bsn,above_m b hb o.b q.b (by omega) (by omega),above_m b hb q.b o.b (by omega) (by omega),above_m a ha q.a o.a (by omega) (by omega),hsx,hsy,bsn]
   have e1:((if(decide (o.b<q.b))=true then some (!decide (o.b<q.b∧q.b<o.b+sy o.b.toNat)) else some false):Option Bool)=some (decide (o.b<q.b∧¬q.b<o.b+sy o.b.toNat)):=by
    by_cases h:o.b<q.b
    ·rw[if_pos (decide_eq_true h)];congr 1
     rw[Bool.eq_iff_iff];simp only[Bool.not_eq_true',decide_eq_false_iff_not,decide_eq_true_eq];omega
    rw[if_neg (by simpa using h),decide_eq_false (by omega)]
   rw[e1,bsn,bsn,bsn]
   have e2:((if(decide (o.b<q.b∧¬q.b<o.b+sy o.b.toNat))=true then some true else some (!((decide (q.a<o.a∧o.a<q.a+sx q.a.toNat))==(decide (q.b<o.b∧o.b<q.b+sy q.b.toNat))))):Option Bool)=some (decide ((o.b<q.b∧¬q.b<o.b+sy o.b.toNat)∨¬((q.a<o.a∧o.a<q.a+sx q.a.toNat)↔(q.b<o.b∧o.b<q.b+sy q.b.toNat)))):=by
    by_cases h:(o.b<q.b∧¬q.b<o.b+sy o.b.toNat)
    ·rw[if_pos (decide_eq_true h),decide_eq_true (Or.inl h)]
    rw[if_neg (by simpa using h)]
    congr 1
    rw[Bool.eq_iff_iff]
    simp only[Bool.not_eq_true',beq_eq_false_iff_ne,ne_eq,decide_eq_decide,decide_eq_true_eq]
    exact⟨Or.inr,fun g=>g.resolve_left h⟩
   rw[e2,bsn,bsn]
   have e3:((if(decide ((o.b<q.b∧¬q.b<o.b+sy o.b.toNat)∨¬((q.a<o.a∧o.a<q.a+sx q.a.toNat)↔(q.b<o.b∧o.b<q.b+sy q.b.toNat))))=true then some true else some (decide (o.b<q.b∧q.b<o.b+sy o.b.toNat))):Option Bool)=some (decide (¬(q.b<o.b∧(o.a<q.a+sx q.a.toNat↔o.b<q.b+sy q.b.toNat)))):=by
    by_cases h:(o.b<q.b∧¬q.b<o.b+sy o.b.toNat)∨¬((q.a<o.a∧o.a<q.a+sx q.a.toNat)↔(q.b<o.b∧o.b<q.b+sy q.b.toNat))
    ·rw[if_pos (decide_eq_true h)]
     exact congrArg some (decide_eq_true (by omega)).symm
    rw[if_neg (by rw[decide_eq_true_eq];exact h)]
    congr 1
    rw[Bool.eq_iff_iff,decide_eq_true_eq,decide_eq_true_eq]
    omega
   rw[e3,bsn]
   by_cases hg:Gd sx sy q o
   ·rw[if_neg (by rw[decide_eq_true_eq];exact fun h=>h hg),mW (by omega),bsn]
    exact Or.inr ⟨fun⟨q',hq2,h⟩=>by rw[hq] at hq2;cases hq2;exact h hg,rfl⟩
   ·rw[if_pos (by rw[decide_eq_true_eq];exact hg)]
    exact Or.inl ⟨⟨q,hq,hg⟩,rfl⟩) (by
   simp only[rQ]
   rw[if_neg (by simp;omega)])
  rcases inner with⟨⟨j,_,hj,q,hq,hg⟩,e⟩|⟨hall,e⟩
  ·refine Or.inl ⟨⟨j,q,o,hj,hq,ho,hg⟩,?_⟩
   rw[show((0:Nat):Int)=0 from rfl] at e
   rw[e,bsn]
  ·refine Or.inr ⟨fun⟨j,q,o',hj,hq,ho',hg⟩=>by rw[ho] at ho';cases ho';exact hall j (Nat.zero_le _) hj ⟨q,hq,hg⟩,?_⟩
   rw[show((0:Nat):Int)=0 from rfl] at e
   rw[e,bsn]
   simp only
   rw[mW (by omega)];rfl) (by
  simp only[nC]
  rw[if_neg (by simp)])
 have iff:ps.Pairwise (Gd sx sy)↔∀k,0≤k→k<ps.length→¬ ∃j q o,j<k∧ps[j]?=some q∧ps[k]?=some o∧¬Gd sx sy q o:=by
  rw[List.pairwise_iff_getElem]
  constructor
  ·rintro h k _ hk ⟨j,q,o,hj,hq,ho,hg⟩
   have:=h j k (by omega) hk hj
   rw[(List.getElem?_eq_some_iff.1 hq).2,(List.getElem?_eq_some_iff.1 ho).2] at this
   exact hg this
  intro h i j hi hj hij
  exact Classical.byContradiction fun hg=>h j (Nat.zero_le _) hj ⟨i,_,_,hij,List.getElem?_eq_getElem hi,List.getElem?_eq_getElem hj,hg⟩
 rcases main with⟨⟨k,h0,hk,h⟩,e⟩|⟨h,e⟩
 ·exact Or.inl ⟨fun hh=>iff.1 hh k h0 hk h,e⟩
 exact Or.inr ⟨iff.2 h,e⟩
theorem contains_m (m:List Bool) (h:m.length≤100000):jG m false=some (decide (false∈m)):=by
 unfold jG oI
 rcases aG7 (body:=fun s=>iZ m false s) m (fun x=> !x) (fun k _=> .ret (k:Int)) (.brk ()) (fun k x hx=>by
  have:=(List.getElem?_eq_some_iff.1 hx).1
  simp only[iZ]
  rw[if_pos (by simp;omega),fE hx,bsn,mW (by omega),bsn]
  cases x<;>rfl) (by
  simp only[iZ]
  rw[if_neg (by simp)]) with⟨k,x,hx,hp,_,_,_,e⟩|⟨hall,_,_,e⟩
 ·rw[e,bsn,bsn]
  congr 1
  rw[decide_eq_true (by omega),decide_eq_true]
  have:x=false:=by simpa using hp
  exact this▸List.mem_of_getElem? hx
 rw[e,bsn,bsn]
 congr 1
 rw[decide_eq_false (by omega),decide_eq_false]
 intro hm
 have:=hall false hm
 simp at this
theorem Mk.all {ny:Nat} {l:List Opn} {m:List Bool} (h:Mk ny l m):false∉m↔∀b:Nat,b<ny→∃q∈l,q.b=b:=by
 constructor
 ·intro hm b hb
  rw[←h.2 b hb]
  obtain⟨x,hx⟩:=fB (show b<m.length by rw[h.1];exact hb)
  cases x with
  |true=>exact hx
  |false=>exact absurd (List.mem_of_getElem? hx) hm
 intro hs hm
 obtain⟨b,hb,e⟩:=List.mem_iff_getElem.1 hm
 have:=(h.2 b (by rw[←h.1];exact hb)).2 (hs b (by rw[←h.1];exact hb))
 rw[List.getElem?_eq_getElem hb,e] at this
 cases this
def Va (a b:Node) (l:List Opn):Prop:=Vd (bW a) (bW b) (szp (prN a 0 (-1))) (szp (prN b 0 (-1))) l
theorem pr_pairs {nx ny:Nat} {sx sy:Nat→Nat} {l:List Opn}:(l.filter (fun o=>decide (0≤o.a)&&decide (0≤o.b))).Pairwise (Gd sx sy)↔l.Pairwise (PrO sx sy):=by
 rw[List.pairwise_filter]
 refine⟨fun h=>h.imp fun{q o} g h1 h2 h3 h4=>g (by simp[h1,h2]) (by simp[h3,h4]),fun h=>h.imp fun{q o} g h1 h2=>?_⟩
 simp only[Bool.and_eq_true,decide_eq_true_eq] at h1 h2
 exact g h1.1 h1.2 h2.1 h2.2
open Classical in
theorem valid_m (a b:Node) (ha:bW a≤100000) (hb:bW b≤100000) (l:List Opn) (hl:l.length≤9223372036854775807) (hw:∀o∈l,I64 o.a∧I64 o.b):qO a b l=some (decide (Va a b l)):=by
 unfold qO
 have na:(nmb (prN a 0 (-1))).nodes.length=bW a:=by unfold nmb;simp[tK.1]
 have nb:(nmb (prN b 0 (-1))).nodes.length=bW b:=by unfold nmb;simp[tK.1]
 rw[aB1 a ha,bsn,aB1 b hb,bsn,na,nb]
 by_cases h0:l.length<bW a
 ·rw[if_pos (by simpa using h0),decide_eq_false fun h=>by have:=h.len;omega]
 rw[if_neg (by simpa using h0),mkc_ok (by omega),bsn,Int.toNat_natCast]
 obtain⟨r,hr,hp⟩:=vloop (bW a) (bW b) l (nmb (prN a 0 (-1))) na ha hl hw
 rw[hr,bsn]
 rcases hp with⟨rfl,hn⟩|⟨m,rfl,hS,hM⟩
 ·simp only
  rw[decide_eq_false fun h=>hn h.scr]
 simp only
 have hrng:=D6 hS
 have hfl:(l.filter (fun o=>decide (0≤o.a)&&decide (0≤o.b))).length≤100000:=by
  have hpw:(l.filter (fun o=>decide (0≤o.a)&&decide (0≤o.b))).Pairwise fun q o=>q.a<o.a:=by
   rw[List.pairwise_filter]
   exact(scr_pw hS).imp fun{q o} g h1 h2=>by
    simp only[Bool.and_eq_true,decide_eq_true_eq] at h1 h2
    exact g.1 h1.1 h2.1
  generalize hF:l.filter (fun o=>decide (0≤o.a)&&decide (0≤o.b))=F at hpw
  have hFr:∀o∈F,0≤o.a∧o.a<bW a:=fun o ho=>by
   rw[←hF,List.mem_filter] at ho
   simp only[Bool.and_eq_true,decide_eq_true_eq] at ho
   exact⟨ho.2.1,(hrng o ho.1).1⟩
  have key:∀(k:Nat) (o:Opn),F[k]?=some o→(k:Int)≤o.a:=by
   intro k
   induction k with
   |zero=>intro o ho;have:=(hFr o (List.mem_of_getElem? ho)).1;omega
   |succ k ih=>
    intro o ho
    have hk:=(List.getElem?_eq_some_iff.1 ho).1
    have h1:=ih F[k] (List.getElem?_eq_getElem (by omega))
    have h2:=List.pairwise_iff_getElem.1 hpw k (k+1) (by omega) hk (by omega)
    rw[(List.getElem?_eq_some_iff.1 ho).2] at h2
    omega
  apply Classical.byContradiction
  intro hc
  obtain⟨o,ho⟩:=fB (show 100000<F.length by omega)
  have h1:=key _ o ho
  have h2:=(hFr o (List.mem_of_getElem? ho)).2
  omega
 have hfr:∀o∈l.filter (fun o=>decide (0≤o.a)&&decide (0≤o.b)),0≤o.a∧o.a<bW a∧0≤o.b∧o.b<bW b:=fun o ho=>by
  rw[List.mem_filter] at ho
  simp only[Bool.and_eq_true,decide_eq_true_eq] at ho
  exact⟨ho.2.1,(hrng o ho.1).1,ho.2.2,(hrng o ho.1).2⟩
 have hfp:(l.filter (fun o=>decide (0≤o.a)&&decide (0≤o.b))).Pairwise fun q o=>q.a<o.a∧q.b≠o.b:=by
  rw[List.pairwise_filter]
  exact(scr_pw hS).imp fun{q o} g h1 h2=>by
   simp only[Bool.and_eq_true,decide_eq_true_eq] at h1 h2
   exact⟨g.1 h1.1 h2.1,g.2 h2.2⟩
 rcases ploop a b ha hb _ m hfl hfr hfp with⟨hn,e⟩|⟨hy,e⟩
 ·rw[e,bsn]
  simp only
  rw[decide_eq_false fun h=>hn (pr_pairs (nx:=bW a) (ny:=bW b).2 h.prs)]
 rw[e,bsn]
 simp only
 rw[contains_m m (by rw[hM.1];exact hb),bsn]
 congr 1
 rw[Bool.eq_iff_iff]
 simp only[Bool.not_eq_true',decide_eq_false_iff_not,decide_eq_true_eq]
 rw[hM.all]
 exact⟨fun h=>⟨hS,by omega,h,(pr_pairs (nx:=bW a) (ny:=bW b)).1 hy⟩,fun h=>h.sur⟩
end Go.Proofs.YtopnldfjcciieaaGreat

/- The code goes as its model: math/bits.Mul32, math/bits.Mul64, math/bits.Mul, slices.Repeat[[]int,int], assessor/align.Align. (Printed by wip/sp/gen.py.) -/
import Derived.Test.YtopnldfjcciieaaGreatKFoT
import Derived.Test.YtopnldfjcciieaaGreatKFo4
import Derived.Test.YtopnldfjcciieaaGreatKFo5
import Derived.Test.YtopnldfjcciieaaGreatKFo11
import Derived.Test.YtopnldfjcciieaaGreatKFo14
import Derived.Test.YtopnldfjcciieaaGreatKFo9
set_option linter.unusedVariables false
set_option linter.unusedSimpArgs false
set_option maxRecDepth 100000
set_option maxHeartbeats 4000000
namespace Go.Proofs.YtopnldfjcciieaaGreat
open Go.RowKit
theorem c_bits_Mul64 {Z:World} {ρ:PH} {L:List bK} {w:World} (p0:Int) (p1:Int) (hp:Hp Z ρ (L) w) (r:(Int×Int)) (hm:aC6 p0 p1=some r):
  Calls Tryz.prog 95 #[(.int .u64 p0),(.int .u64 p1)] w (Ret fun v w'=>v= .tuple #[(.int .u64 r.1),(.int .u64 r.2)]∧Hp Z ρ (L) w'):=by
 refine enter (N:=51) Tryz.func95 rfl rfl [(0,(.int .u64 p0)),(1,(.int .u64 p1))] rfl (bC ⟨rfl,rfl,trivial⟩) fun a hE=>?_
 unfold aC6 at hm
 refine aG (aA ?_)
 refine S hE 2 rfl fun a hE=>aB (aG ?_)
 refine aA (S hE 1 rfl fun a hE=>?_)
 refine V hE hp rfl (v:=(.int .u64 (andK .u64 p0 4294967295))) (ex_and rfl hE rfl rfl) fun a hE=>S hE 1 rfl fun a hE=>aB (aG ?_)
 refine aA (S hE 1 rfl fun a hE=>?_)
 obtain⟨x1,ex1,hm⟩:=bnd hm
 refine V hE hp rfl (v:=(.int .u64 x1)) (aC5 rfl hE rfl rfl ex1) fun a hE=>S hE 1 rfl fun a hE=>aB (aG ?_)
 refine aA (S hE 1 rfl fun a hE=>?_)
 refine V hE hp rfl (v:=(.int .u64 (andK .u64 p1 4294967295))) (ex_and rfl hE rfl rfl) fun a hE=>S hE 1 rfl fun a hE=>aB (aG ?_)
 refine aA (S hE 1 rfl fun a hE=>?_)
 obtain⟨x2,ex2,hm⟩:=bnd hm
 refine V hE hp rfl (v:=(.int .u64 x2)) (aC5 rfl hE rfl rfl ex2) fun a hE=>S hE 1 rfl fun a hE=>aB (aG ?_)
 refine aA (S hE 2 rfl fun a hE=>?_)
 refine V hE hp rfl (aE5 rfl hE rfl rfl rfl) fun a hE=>S hE 1 rfl fun a hE=>aB (aG ?_)
 refine aA (S hE 2 rfl fun a hE=>?_)
 refine V hE hp rfl (aE5 rfl hE rfl rfl rfl) fun a hE=>S hE 1 rfl fun a hE=>?_
 obtain⟨x3,ex3,hm⟩:=bnd hm
 refine V hE hp rfl (v:=(.int .u64 x3)) (aC5 rfl hE rfl rfl ex3) fun a hE=>V hE hp rfl (bF rfl hE rfl rfl rfl) fun a hE=>S hE 1 rfl fun a hE=>aB ?_
 have hE:=hE.cut (E':=[(0,(.int .u64 p0)),(1,(.int .u64 p1)),(6,(.int .u64 (andK .u64 p0 4294967295))),(7,(.int .u64 x1)),(9,(.int .u64 x2)),(11,(.int .u64 (IntKind.wrap .u64 ((IntKind.wrap .u64 (x1*(andK .u64 p1 4294967295)))+x3))))]) ⟨rfl,rfl,rfl,rfl,rfl,rfl,trivial⟩
 refine aG (aA ?_)
 refine S hE 1 rfl fun a hE=>V hE hp rfl (v:=(.int .u64 (andK .u64 (IntKind.wrap .u64 ((IntKind.wrap .u64 (x1*(andK .u64 p1 4294967295)))+x3)) 4294967295))) (ex_and rfl hE rfl rfl) fun a hE=>S hE 1 rfl fun a hE=>aB (aG ?_)
 refine aA (S hE 1 rfl fun a hE=>?_)
 obtain⟨x4,ex4,hm⟩:=bnd hm
 refine V hE hp rfl (v:=(.int .u64 x4)) (aC5 rfl hE rfl rfl ex4) fun a hE=>S hE 1 rfl fun a hE=>aB (aG ?_)
 refine aA (S hE 3 rfl fun a hE=>?_)
 refine V hE hp rfl (aE5 rfl hE rfl rfl rfl) fun a hE=>V hE hp rfl (bF rfl hE rfl rfl rfl) fun a hE=>S hE 1 rfl fun a hE=>aB (aG ?_)
 refine aA (S hE 2 rfl fun a hE=>?_)
 refine V hE hp rfl (aE5 rfl hE rfl rfl rfl) fun a hE=>S hE 1 rfl fun a hE=>V hE hp rfl (bF rfl hE rfl rfl rfl) fun a hE=>S hE 1 rfl fun a hE=>?_
 obtain⟨x5,ex5,hm⟩:=bnd hm
 refine V hE hp rfl (v:=(.int .u64 x5)) (aC5 rfl hE rfl rfl ex5) fun a hE=>V hE hp rfl (bF rfl hE rfl rfl rfl) fun a hE=>S hE 1 rfl fun a hE=>aB ?_
 have hE:=hE.cut (E':=[(0,(.int .u64 p0)),(1,(.int .u64 p1)),(4,(.int .u64 (IntKind.wrap .u64 ((IntKind.wrap .u64 ((IntKind.wrap .u64 (x1*x2))+x4))+x5))))]) ⟨rfl,rfl,rfl,trivial⟩
 refine aG (aA ?_)
 refine S hE 2 rfl fun a hE=>V hE hp rfl (aE5 rfl hE rfl rfl rfl) fun a hE=>S hE 1 rfl fun a hE=>aB (bZ ?_)
 obtain rfl:=oj hm
 exact yU hE rfl rfl rfl ⟨_,rfl,rfl,hp⟩
theorem c_bits_Mul {Z:World} {ρ:PH} {L:List bK} {w:World} (p0:Int) (p1:Int) (hp:Hp Z ρ (L) w) (r:(Int×Int)) (hm:aI2 p0 p1=some r):
  Calls Tryz.prog 70 #[(.int .u64 p0),(.int .u64 p1)] w (Ret fun v w'=>v= .tuple #[(.int .u64 r.1),(.int .u64 r.2)]∧Hp Z ρ (L) w'):=by
 refine enter (N:=30) Tryz.func70 rfl rfl [(0,(.int .u64 p0)),(1,(.int .u64 p1))] rfl (bC ⟨rfl,rfl,trivial⟩) fun a hE=>?_
 unfold aI2 at hm
 refine aG (aA ?_)
 refine S hE 2 rfl fun a hE=>aB (aG ?_)
 refine dE hE rfl (fun hb=>absurd hb (by decide)) (fun hb=>?_)
 refine aZ (aG ?_)
 refine aA (S hE 2 rfl fun a hE=>?_)
 obtain⟨x1,ex1,hm⟩:=bnd hm
 refine Cl hE rfl rfl ent95 (c_bits_Mul64 p0 p1 hp x1 ex1) ⟨rfl,rfl,trivial⟩ fun v a w hR hE=>?_
 obtain⟨rfl,hp⟩:=hR
 have hp:=r0 hp
 refine S hE 5 rfl fun a hE=>aB (aG ?_)
 refine aA (S hE 4 rfl fun a hE=>?_)
 refine aB (bZ ?_)
 obtain rfl:=oj hm
 exact yU hE rfl rfl rfl ⟨_,rfl,rfl,hp⟩
theorem jL {Z:World} {ρ:PH} {L:List bK} {w:World} (p0:(List Int)) (vp0:Value) (hp0:aH ρ vp0 p0) (p1:Int) (hp:Hp Z ρ (L) w) (r:(List Int)) (hm:oW p0 p1=some r):
  Calls Tryz.prog 50 #[vp0,(Iv p1)] w (Ret fun v w'=>∃(vr1:Value),v=vr1∧Hp Z ρ (aC 3 vr1 r::L) w'):=by
 refine enter (N:=48) Tryz.func50 rfl rfl [(0,vp0),(1,(Iv p1))] rfl (bC ⟨rfl,rfl,trivial⟩) fun a hE=>?_
 unfold oW at hm
 refine aG (aA ?_)
 refine S hE 1 rfl fun a hE=>aB (aG ?_)
 refine aG (aA ?_)
 refine S hE 2 rfl fun a hE=>aB ?_
 obtain⟨j1,hj1,hm⟩:=bnd hm
 refine k_cut (fun a w=>Env 48 [(0,vp0),(1,(Iv p1))] a∧Hp Z ρ (L) w) ?_ ?_
 ·
  refine dE hE rfl (fun hc1=>?_) (fun hc1=>?_)
  ·replace hj1:=(it hc1).symm.trans hj1
   refine aA ?_
   cases hj1
  replace hj1:=(ie hc1).symm.trans hj1
  refine aZ ?_
  obtain rfl:=oj hj1
  exact⟨hE.cut ⟨rfl,rfl,trivial⟩,hp⟩
 rintro a w ⟨hE,hp⟩
 refine aG (aA ?_)
 refine S hE 1 rfl fun a hE=>V hE hp rfl (bT rfl hE rfl (aH.len hp0 bI)) fun a hE=>V hE hp rfl (v:=(.int .u64 (IntKind.wrap .u64 (p0.length:Int)))) (yZ rfl hE rfl (fun w _=>by simp[convert,Conv.intToInt,go_sem])) fun a hE=>S hE 1 rfl fun a hE=>V hE hp rfl (v:=(.int .u64 (IntKind.wrap .u64 p1))) (yZ rfl hE rfl (fun w _=>by simp[convert,Conv.intToInt,go_sem])) fun a hE=>?_
 obtain⟨x1,ex1,hm⟩:=bnd hm
 refine Cl hE rfl rfl ent70 (c_bits_Mul (IntKind.wrap .u64 (p0.length:Int)) (IntKind.wrap .u64 p1) hp x1 ex1) ⟨rfl,rfl,trivial⟩ fun v a w hR hE=>?_
 obtain⟨rfl,hp⟩:=hR
 have hp:=r0 hp
 refine S hE 5 rfl fun a hE=>aB (aG ?_)
 refine aG (aA ?_)
 refine S hE 3 rfl fun a hE=>?_
 refine iL [_,_,_] (fun a w=>Env 48 [(26,(.bool ((decide (0<x1.1))||(decide (9223372036854775807<x1.2))))),(0,vp0),(6,(.int .u64 x1.2))] a∧Hp Z ρ (L) w) ?_ ?_
 ·rcases Bool.eq_false_or_eq_true (decide (0<x1.1)) with hc2|hc2
  ·
   refine Gk hE hc2 rfl fun a hE=>Gk hE hc2 rfl fun a hE=>pk1 hE hc2 rfl rfl rfl rfl fun a hE=>?_
   have hE:=hE.eqv (v':=(.bool ((decide (0<x1.1))||(decide (9223372036854775807<x1.2))))) (by rw[hc2];rfl)
   exact aB ⟨hE.cut ⟨rfl,rfl,rfl,trivial⟩,hp⟩
  refine Gs hE hc2 rfl rfl fun a hE=>Gs hE hc2 rfl rfl fun a hE=>pk0 hE hc2 rfl rfl rfl rfl fun a hE=>?_
  have hE:=hE.eqv (v':=(.bool ((decide (0<x1.1))||(decide (9223372036854775807<x1.2))))) (by rw[hc2];rfl)
  exact aB ⟨hE.cut ⟨rfl,rfl,rfl,trivial⟩,hp⟩
 rintro a w ⟨hE,hp⟩
 refine aB ?_
 obtain⟨j2,hj2,hm⟩:=bnd hm
 refine k_cut (fun a w=>Env 48 [(0,vp0),(6,(.int .u64 x1.2))] a∧Hp Z ρ (L) w) ?_ ?_
 ·
  refine dE hE rfl (fun hc3=>?_) (fun hc3=>?_)
  ·replace hj2:=(it hc3).symm.trans hj2
   refine aA ?_
   cases hj2
  replace hj2:=(ie hc3).symm.trans hj2
  refine aZ ?_
  obtain rfl:=oj hj2
  exact⟨hE.cut ⟨rfl,rfl,trivial⟩,hp⟩
 rintro a w ⟨hE,hp⟩
 refine aG (aA ?_)
 refine S hE 1 rfl fun a hE=>?_
 obtain⟨x2,ex2,hm⟩:=bnd hm
 refine V hE hp rfl (v:=(Iv x2)) (yZ rfl hE rfl (fun w _=>by rw[←aO ex2];simp[convert,Conv.intToInt,go_sem])) fun a hE=>?_
 obtain⟨x3,ex3,hm⟩:=bnd hm
 refine aF4 (wk0 rfl) rfl rfl hE hp rfl (El:=3) (bytes:=8) (by kernel_rfl) (0:Int) (by kernel_rfl) (by kernel_rfl) rfl rfl ex3 ?_
 intro v1 a w hE hp
 have hp:=r1 hp
 refine S hE 1 rfl fun a hE=>aB (aG ?_)
 refine aA (S hE 2 rfl fun a hE=>?_)
 refine s_copy (wk0 rfl) rfl rfl hE hp rfl bI rfl 0 rfl rfl hp0 ?_
 intro a w hE hp
 have hp:=r1 hp
 refine S hE 1 rfl fun a hE=>aB (aG ?_)
 obtain⟨b1,hc4,hm⟩:=bnd hm
 refine dH (fun a w=>Env 48 [(7,v1)] a∧Hp Z ρ (aC 3 v1 b1::L) w) ?_ ?_
 ·refine dZ hc4 (fun s a w=>Env 48 [(7,v1),(8,(Iv s.1))] a∧Hp Z ρ (aC 3 v1 s.2::L) w) ?_ ?_
  ·exact⟨hE.cut ⟨rfl,rfl,trivial⟩,hp⟩
  rintro⟨aP,aU⟩ st a w ⟨hE,hp⟩ hl1
  dsimp only at hE hp hl1
  unfold uX at hl1
  refine aG (aG ?_)
  refine aA (S hE 2 rfl fun a hE=>?_)
  refine V hE hp rfl (bT rfl hE rfl (aC.len hp 0 rfl bI)) fun a hE=>S hE 1 rfl fun a hE=>aB ?_
  refine dE hE rfl (fun hc5=>?_) (fun hc5=>?_)
  ·replace hl1:=(it hc5).symm.trans hl1
   refine aZ (dM ?_)
   obtain⟨x4,ex4,hl1⟩:=bnd hl1
   obtain⟨x5,ex5,hl1⟩:=bnd hl1
   obtain⟨x6,ex6,hl1⟩:=bnd hl1
   have hp:=hp.drew
   refine fG ([([],At0 Z ρ)]:Facts) (fun a w=>Env 48 [(7,v1),(8,(Iv x6))] a∧Hp Z ρ (aC 3 v1 (aU.take aP.toNat++cpy x4 x5)::L) w) (by kernel_rfl) ⟨fun _=>⟨_,hp⟩,trivial⟩ (fun hS=>?_) ?_
   ·
    generalize w.drew=w at hS hp⊢
    refine Ts [0,1,2] hE hS rfl rfl (by kernel_rfl) fun a hE hS=>?_
    obtain⟨v4,v4r⟩:=aC.view hp 0 rfl bI (some (.i64,aP)) none rfl rfl ex4
    refine T0 3 hE hS rfl rfl rfl (by kernel_rfl) (v:=v4) (fun _=>pM rfl hE rfl (some (.i64,aP)) none (by exact rfl) (by exact trivial) v4r) fun a hE hS=>Ts [4,5] hE hS rfl rfl (by kernel_rfl) fun a hE hS=>?_
    obtain⟨v5,v5r⟩:=aC.view hp 0 rfl bI none (some (.i64,aP)) rfl rfl ex5
    refine T0 6 hE hS rfl rfl rfl (by kernel_rfl) (v:=v5) (fun _=>pM rfl hE rfl none (some (.i64,aP)) (by exact trivial) (by exact rfl) v5r) fun a hE hS=>?_
    refine W1 7 (by kernel_rfl) rfl ?_
    refine s_copyVV (wk0 rfl) rfl rfl hE hp rfl bI 0 rfl rfl rfl (.i64,aP) none (some (.i64,aP)) rfl rfl ex4 v4r ex5 v5r ?_
    intro a w hE hp
    have hp:=r1 hp
    refine aB (aF ⟨gp0 hp,trivial⟩ fun hS=>?_)
    refine T0 8 hE hS rfl rfl rfl (by kernel_rfl) (fun _=>bF rfl hE rfl rfl (aO ex6)) fun a hE hS=>Ts [9] hE hS rfl rfl (by kernel_rfl) fun a hE hS=>?_
    exact bP (by kernel_rfl) ⟨hE.cut ⟨rfl,rfl,trivial⟩,hp⟩
   rintro a w ⟨hE,hp⟩
   exact⟨_,(oj hl1).symm,hE.cut ⟨rfl,rfl,trivial⟩,hp⟩
  replace hl1:=(ie hc5).symm.trans hl1
  refine dS ?_
  refine⟨_,(oj hl1).symm,fun hbb=>?_⟩
  subst hbb
  exact⟨hE.cut ⟨rfl,trivial⟩,hp⟩
 rintro a w ⟨hE,hp⟩
 refine aG (aA ?_)
 refine S hE 2 rfl fun a hE=>aB (bZ ?_)
 obtain rfl:=oj hm
 exact gJ hE rfl rfl ⟨_,rfl,_,rfl,hp⟩
theorem c_align_Align {Z:World} {ρ:PH} {L:List bK} {w:World} (p0:Node) (aI:Value) (bD:aH ρ aI p0.kids) (p1:Node) (aJ:Value) (bH:aH ρ aJ p1.kids) (hp:Hp Z ρ (L) w) (r:((List Opn)×Int)) (hm:Y4 p0 p1=some r):
  Calls Tryz.prog 21 #[(.agg #[(Iv p0.kind),(.string p0.text),(Iv p0.at_),(Iv p0.fin),aI]),(.agg #[(Iv p1.kind),(.string p1.text),(Iv p1.at_),(Iv p1.fin),aJ])] w (Ret fun v w'=>∃(vr1:Value),v= .tuple #[vr1,(Iv r.2)]∧Hp Z ρ (aC 46 vr1 r.1::L) w'):=by
 refine enter (N:=130) Tryz.func21 rfl rfl [(0,(.agg #[(Iv p0.kind),(.string p0.text),(Iv p0.at_),(Iv p0.fin),aI])),(1,(.agg #[(Iv p1.kind),(.string p1.text),(Iv p1.at_),(Iv p1.fin),aJ]))] rfl (bC ⟨rfl,rfl,trivial⟩) fun a hE=>?_
 unfold Y4 at hm
 refine aG (aA ?_)
 refine iI (wk0 rfl) rfl rfl hE hp rfl (v:=(.agg #[(Iv p0.kind),(.string p0.text),(Iv p0.at_),(Iv p0.fin),aI])) rfl ?_
 intro a w b1 hE hp
 have hp:=r1 hp
 refine iI (wk0 rfl) rfl rfl hE hp rfl (v:=(.agg #[(Iv p1.kind),(.string p1.text),(Iv p1.at_),(Iv p1.fin),aJ])) rfl ?_
 intro a w b2 hE hp
 have hp:=r2 hp
 refine S hE 2 rfl fun a hE=>aB (aG ?_)
 refine aA (V hE hp rfl (aK rfl hE rfl (fun w hw=>aW (cs:=[(Iv p0.kind),(.string p0.text),(Iv p0.at_),(Iv p0.fin),aI]) bY (Hp.cN 1 rfl 0 _ (aS rfl) w hw))) fun a hE=>?_)
 refine V hE hp rfl (aK rfl hE rfl (fun w hw=>aW (cs:=[(Iv p1.kind),(.string p1.text),(Iv p1.at_),(Iv p1.fin),aJ]) bY (Hp.cN 0 rfl 0 _ (aS rfl) w hw))) fun a hE=>?_
 obtain⟨x1,ex1,hm⟩:=bnd hm
 refine Cl hE rfl rfl ent48 (aH4 p0 aI bD p1 aJ bH hp x1 ex1) ⟨rfl,rfl,trivial⟩ fun v a w hR hE=>?_
 obtain⟨vr1,usr1,rfl,hp⟩:=hR
 have hp:=r3 hp
 refine S hE 5 rfl fun a hE=>aB (aG ?_)
 refine aG (aA ?_)
 refine S hE 2 rfl fun a hE=>aB ?_
 refine dE hE rfl (fun hc1=>?_) (fun hc1=>?_)
 ·replace hm:=(it hc1).symm.trans hm
  refine aG (aA ?_)
  refine S hE 3 rfl fun a hE=>aB (bZ ?_)
  have hp:=hp.emp (aC.nil (α:=Opn) 46)
  have hp:=r4 hp
  obtain rfl:=oj hm
  exact yU hE rfl rfl rfl ⟨_,rfl,_,rfl,((((((hp.get 3 rfl).drop).get 2 rfl).drop).get 1 rfl).drop)⟩
 replace hm:=(ie hc1).symm.trans hm
 refine aZ (aG ?_)
 obtain⟨x2,ex2,hm⟩:=bnd hm
 obtain⟨x3,ex3,hm⟩:=bnd hm
 have hp:=hp.drew
 refine fG ([([],At0 Z ρ),([],At1 Z ρ (Pt b2 (.cells #[(Iv p1.kind),(.string p1.text),(Iv p1.at_),(Iv p1.fin),aJ] 24 (0,0)))),([],At1 Z ρ (Pt b1 (.cells #[(Iv p0.kind),(.string p0.text),(Iv p0.at_),(Iv p0.fin),aI] 24 (0,0))))]:Facts) (fun a w=>∃ρy1:PH,∃y6:Nat,∃yv1:Value,∃yv2:Value,∃yv3:Value,∃yv4:Value,∃yv5:Value,∃yv6:Value,ρ.le ρy1∧aH ρy1 yv1 x2.nodes∧aH ρy1 yv2 x2.sizes∧aH ρy1 yv3 x2.parent∧aH ρy1 yv4 x3.nodes∧aH ρy1 yv5 x3.sizes∧aH ρy1 yv6 x3.parent∧Env 130 [(8,(Pv y6 0))] a∧Hp Z ρy1 (Pt y6 (.cells #[yv1,yv2,yv3,yv4,yv5,yv6,N0,N0,N0,N0,vr1,N0,N0] 88 (0,0))::cO 73 3 vr1 usr1 (x1.1:(List (List Int)))::Pt b2 (.cells #[(Iv p1.kind),(.string p1.text),(Iv p1.at_),(Iv p1.fin),aJ] 24 (0,0))::Pt b1 (.cells #[(Iv p0.kind),(.string p0.text),(Iv p0.at_),(Iv p0.fin),aI] 24 (0,0))::L) w) (by kernel_rfl) ⟨fun _=>⟨_,hp⟩,fun _=>⟨_,(hp.get 1 rfl)⟩,fun _=>⟨_,(hp.get 2 rfl)⟩,trivial⟩ (fun hS=>?_) ?_
 ·
  generalize w.drew=w at hS hp⊢
  refine T 0 2 hE hS rfl rfl rfl (by kernel_rfl) (fun _=>aK rfl hE rfl (fun w hw=>aW (cs:=[(Iv p0.kind),(.string p0.text),(Iv p0.at_),(Iv p0.fin),aI]) bY (Hp.cN 0 rfl 0 _ (aS rfl) w hw))) fun a hE hS=>T 2 1 hE hS rfl rfl rfl (by kernel_rfl) (fun _=>aK rfl hE rfl (fun w hw=>aW (cs:=[(Iv p1.kind),(.string p1.text),(Iv p1.at_),(Iv p1.fin),aJ]) bY (Hp.cN 0 rfl 0 _ (aS rfl) w hw))) fun a hE hS=>Ts [4] hE hS rfl rfl (by kernel_rfl) fun a hE hS=>?_
  refine W1 1 (by kernel_rfl) rfl ?_
  refine Cl hE rfl rfl jM (bG p0 aI bD hp x2 ex2) ⟨rfl,trivial⟩ fun v a w hR hE=>?_
  obtain⟨ρ3,tN,tV,qV,hle3,rfl,oL,oM,lX,hp⟩:=hR
  have hp:=r3 hp
  refine aB (aF ⟨fun _=>⟨_,(hp.less hle3)⟩,fun _=>⟨_,((hp.get 1 rfl).less hle3)⟩,fun _=>⟨_,((hp.get 2 rfl).less hle3)⟩,trivial⟩ fun hS=>?_)
  refine W1 3 (by kernel_rfl) rfl ?_
  refine Cl hE rfl rfl jM (bG p1 aJ (aH.mono bH hle3) hp x3 ex3) ⟨rfl,trivial⟩ fun v a w hR hE=>?_
  obtain⟨ρ4,xB,xC,uS,hle4,rfl,sV,sW,qR,hp⟩:=hR
  have hp:=r3 hp
  refine aB (aF ⟨fun _=>⟨_,((hp.less hle4).less hle3)⟩,fun _=>⟨_,(((hp.get 1 rfl).less hle4).less hle3)⟩,fun _=>⟨_,(((hp.get 2 rfl).less hle4).less hle3)⟩,trivial⟩ fun hS=>?_)
  refine T0 5 hE hS rfl rfl rfl (by kernel_rfl) (v:=(.agg #[tN,tV,qV,xB,xC,uS,N0,N0,N0,N0,vr1,N0,N0])) (fun _=>lW rfl hE [(0,(.agg #[tN,tV,qV])),(1,(.agg #[xB,xC,uS])),(6,vr1)] (by exact⟨⟨rfl,rfl⟩,⟨rfl,rfl⟩,⟨rfl,rfl⟩,trivial⟩) (fun w=>by have hc0:=aH.cells (aH.mono oL hle4);simp only[Value.cells] at hc0;have hc1:=aH.cells (aH.mono oM hle4);simp only[Value.cells] at hc1;have hc2:=aH.cells (aH.mono lX hle4);simp only[Value.cells] at hc2;have hc3:=aH.cells sV;simp only[Value.cells] at hc3;have hc4:=aH.cells sW;simp only[Value.cells] at hc4;have hc5:=aH.cells qR;simp only[Value.cells] at hc5;have hc6:=cO.cells hp 0 rfl;simp only[Value.cells] at hc6;simp[Instr.build,Instr.fill,Value.cells,hc0,hc1,hc2,hc3,hc4,hc5,hc6,go_sem])) fun a hE hS=>?_
  refine W1 6 (by kernel_rfl) rfl ?_
  refine iI (wk0 rfl) rfl rfl hE hp rfl (v:=(.agg #[tN,tV,qV,xB,xC,uS,N0,N0,N0,N0,vr1,N0,N0])) rfl ?_
  intro a w b4 hE hp
  have hp:=r4 hp
  refine aB (aF ⟨fun _=>⟨_,((hp.less hle4).less hle3)⟩,fun _=>⟨_,(((hp.get 2 rfl).less hle4).less hle3)⟩,fun _=>⟨_,(((hp.get 3 rfl).less hle4).less hle3)⟩,trivial⟩ fun hS=>?_)
  refine Ts [7] hE hS rfl rfl (by kernel_rfl) fun a hE hS=>?_
  exact bP (by kernel_rfl) ⟨ρ4,_,_,_,_,_,_,_,(PH.le.tr hle3 hle4),(aH.mono oL hle4),(aH.mono oM hle4),(aH.mono lX hle4),sV,sW,qR,hE.cut ⟨rfl,trivial⟩,hp⟩
 rintro a w ⟨ρy1,y6,yv1,yv2,yv3,yv4,yv5,yv6,hley1,yh1,yh2,yh3,yh4,yh5,yh6,hE,hp⟩
 refine aG (aA ?_)
 refine S hE 4 rfl fun a hE=>V hE hp rfl (xf hE fldty88_0 rfl rfl) fun a hE=>V hE hp rfl (aK rfl hE rfl (fun w hw=>aW (cs:=[yv1,yv2,yv3]) dD (Hp.cN 0 rfl 0 _ (aS rfl) w hw))) fun a hE=>?_
 obtain⟨x4,ex4,hm⟩:=bnd hm
 refine Cl hE rfl rfl ent49 (zH x2 yv1 yh1 yv2 yh2 yv3 yh3 hp x4 ex4) ⟨rfl,trivial⟩ fun v a w hR hE=>?_
 obtain⟨ρ5,vr7,vr8,hle5,rfl,hr7,hr8,hp⟩:=hR
 have hp:=r4 hp
 refine S hE 4 rfl fun a hE=>V hE hp rfl (xf hE L8 rfl rfl) fun a hE=>?_
 refine bQ (wk0 rfl) rfl hE hp rfl rfl rfl 0 rfl aY.size_ (aH.cells hr7) (aH.one hr7) rfl [yv1,yv2,yv3,yv4,yv5,yv6,vr7,N0,N0,N0,vr1,N0,N0] rfl ?_
 intro w hp
 have hp:=r4 hp
 refine S hE 1 rfl fun a hE=>V hE hp rfl (xf hE zN rfl rfl) fun a hE=>?_
 refine bQ (wk0 rfl) rfl hE hp rfl rfl rfl 0 rfl aY.size_ (aH.cells hr8) (aH.one hr8) rfl [yv1,yv2,yv3,yv4,yv5,yv6,vr7,vr8,N0,N0,vr1,N0,N0] rfl ?_
 intro w hp
 have hp:=r4 hp
 refine aB (aG ?_)
 refine aA (S hE 4 rfl fun a hE=>?_)
 refine V hE hp rfl (xf hE fldty88_1 rfl rfl) fun a hE=>V hE hp rfl (aK rfl hE rfl (fun w hw=>aW (cs:=[yv4,yv5,yv6]) dD (Hp.cN 0 rfl 3 _ (aS rfl) w hw))) fun a hE=>?_
 obtain⟨x5,ex5,hm⟩:=bnd hm
 refine Cl hE rfl rfl ent49 (zH x3 yv4 (aH.mono yh4 hle5) yv5 (aH.mono yh5 hle5) yv6 (aH.mono yh6 hle5) hp x5 ex5) ⟨rfl,trivial⟩ fun v a w hR hE=>?_
 obtain⟨ρ6,vr9,vr10,hle6,rfl,hr9,hr10,hp⟩:=hR
 have hp:=r4 hp
 refine S hE 4 rfl fun a hE=>V hE hp rfl (xf hE L9 rfl rfl) fun a hE=>?_
 refine bQ (wk0 rfl) rfl hE hp rfl rfl rfl 0 rfl aY.size_ (aH.cells hr9) (aH.one hr9) rfl [yv1,yv2,yv3,yv4,yv5,yv6,vr7,vr8,vr9,N0,vr1,N0,N0] rfl ?_
 intro w hp
 have hp:=r4 hp
 refine S hE 1 rfl fun a hE=>V hE hp rfl (xf hE zO rfl rfl) fun a hE=>?_
 refine bQ (wk0 rfl) rfl hE hp rfl rfl rfl 0 rfl aY.size_ (aH.cells hr10) (aH.one hr10) rfl [yv1,yv2,yv3,yv4,yv5,yv6,vr7,vr8,vr9,vr10,vr1,N0,N0] rfl ?_
 intro w hp
 have hp:=r4 hp
 refine aB ?_
 have hE:=hE.cut (E':=[(8,(Pv y6 0))]) ⟨rfl,trivial⟩
 refine aG ?_
 obtain⟨x6,ex6,hm⟩:=bnd hm
 obtain⟨x7,ex7,hm⟩:=bnd hm
 have hp:=hp.drew
 refine fG ([([],At0 Z ρ6),([20,23],At1 Z ρ6 (Pt y6 (.cells #[yv1,yv2,yv3,yv4,yv5,yv6,vr7,vr8,vr9,vr10,vr1,N0,N0] 88 (0,0))))]:Facts) (fun a w=>∃y9:Nat,∃y10:Value,∃y7:Nat,∃y8:Value,Env 130 [(8,(Pv y6 0))] a∧Hp Z ρ6 (aC 3 (.slice (some ⟨y9,0,none⟩) 1 1) ([(-1)]:List Int)::aC 3 y10 x7::aC 3 (.slice (some ⟨y7,0,none⟩) 1 1) ([(-1)]:List Int)::aC 3 y8 x6::Pt y6 (.cells #[yv1,yv2,yv3,yv4,yv5,yv6,vr7,vr8,vr9,vr10,vr1,y8,y10] 88 (0,0))::cO 73 3 vr1 usr1 (x1.1:(List (List Int)))::Pt b2 (.cells #[(Iv p1.kind),(.string p1.text),(Iv p1.at_),(Iv p1.fin),aJ] 24 (0,0))::Pt b1 (.cells #[(Iv p0.kind),(.string p0.text),(Iv p0.at_),(Iv p0.fin),aI] 24 (0,0))::L) w) (by kernel_rfl) ⟨fun _=>⟨_,hp⟩,fun _=>⟨_,(hp.get 0 rfl)⟩,trivial⟩ (fun hS=>?_) ?_
 ·
  generalize w.drew=w at hS hp⊢
  refine Ts [0,1,3,4] hE hS rfl rfl (by kernel_rfl) fun a hE hS=>T0 5 hE hS rfl rfl rfl (by kernel_rfl) (fun _=>xf hE fldty88_0 rfl rfl) fun a hE hS=>T0 6 hE hS rfl rfl rfl (by kernel_rfl) (fun _=>xf hE kK rfl rfl) fun a hE hS=>T 7 1 hE hS rfl rfl rfl (by kernel_rfl) (fun _=>xl hE iT 0 rfl rfl rfl rfl) fun a hE hS=>T0 8 hE hS rfl rfl rfl (by kernel_rfl) (fun _=>bT rfl hE rfl (aH.len (aH.mono (aH.mono yh1 hle5) hle6) jI)) fun a hE hS=>Ts [11,12] hE hS rfl rfl (by kernel_rfl) fun a hE hS=>T0 13 hE hS rfl rfl rfl (by kernel_rfl) (fun _=>xf hE fldty88_1 rfl rfl) fun a hE hS=>T0 14 hE hS rfl rfl rfl (by kernel_rfl) (fun _=>xf hE kK rfl rfl) fun a hE hS=>T 15 1 hE hS rfl rfl rfl (by kernel_rfl) (fun _=>xl hE iT 0 rfl rfl rfl rfl) fun a hE hS=>T0 16 hE hS rfl rfl rfl (by kernel_rfl) (fun _=>bT rfl hE rfl (aH.len (aH.mono (aH.mono yh4 hle5) hle6) jI)) fun a hE hS=>?_
  refine gW [2,10] (by kernel_rfl) rfl ?_
  refine List.forall_mem_cons.2 ⟨?_,List.forall_mem_cons.2 ⟨?_,fun _ h=>absurd h (by simp)⟩⟩
  ·
   refine dX rfl ?_
   refine fP (wk0 rfl) rfl rfl hE hp rfl [(0,(Iv (-1)))] ⟨⟨rfl,rfl⟩,trivial⟩ [(Iv (-1))] 3 (fun w=>by simp[Instr.buildSlice,Instr.fill,Value.cells,go_sem]) ?_
   intro a w b7 hE hp
   have hp:=r5 hp
   refine aB (aF ⟨gp0 hp,gp 1 hp rfl,trivial⟩ fun hS=>?_)
   refine gW [9,10] (by kernel_rfl) rfl ?_
   refine List.forall_mem_cons.2 ⟨?_,List.forall_mem_cons.2 ⟨?_,fun _ h=>absurd h (by simp)⟩⟩
   ·
    refine dX rfl ?_
    have hp:=(hp.get 0 rfl).imp (qQ (l:=(([(-1)]:List Int):List Int)) (n:=1) rfl (by decide) rfl)
    have hp:=r5 hp
    obtain⟨k3,k3a,k3d,k3h⟩:=(hp.get 0 rfl).lend
    refine s_call (wk0 rfl) rfl rfl hE rfl [(.slice (some ⟨b7,0,none⟩) 1 1),(Iv (x2.nodes.length:Int))] ⟨rfl,rfl,trivial⟩ ent50 (jL ([(-1)]:List Int) (.slice (some ⟨b7,0,none⟩) 1 1) (aC.ro k3d k3a) (x2.nodes.length:Int) k3h x6 ex6) Ret.ret ?_
    intro vr13 a w hR hE
    obtain⟨u,rfl,hp⟩:=Ret.of hR
    have hp:=Hp.back k3a k3d hp
    have hp:=r6 hp
    refine aB (aF ⟨gp0 hp,gp 2 hp rfl,trivial⟩ fun hS=>?_)
    refine W1 10 (by kernel_rfl) rfl ?_
    refine fP (wk0 rfl) rfl rfl hE hp rfl [(0,(Iv (-1)))] ⟨⟨rfl,rfl⟩,trivial⟩ [(Iv (-1))] 3 (fun w=>by simp[Instr.buildSlice,Instr.fill,Value.cells,go_sem]) ?_
    intro a w b8 hE hp
    have hp:=r7 hp
    refine aB (aF ⟨gp0 hp,gp 3 hp rfl,trivial⟩ fun hS=>?_)
    refine W1 17 (by kernel_rfl) rfl ?_
    have hp:=(hp.get 0 rfl).imp (qQ (l:=(([(-1)]:List Int):List Int)) (n:=1) rfl (by decide) rfl)
    have hp:=r7 hp
    obtain⟨k4,k4a,k4d,k4h⟩:=(hp.get 0 rfl).lend
    refine s_call (wk0 rfl) rfl rfl hE rfl [(.slice (some ⟨b8,0,none⟩) 1 1),(Iv (x3.nodes.length:Int))] ⟨rfl,rfl,trivial⟩ ent50 (jL ([(-1)]:List Int) (.slice (some ⟨b8,0,none⟩) 1 1) (aC.ro k4d k4a) (x3.nodes.length:Int) k4h x7 ex7) Ret.ret ?_
    intro vr14 a w hR hE
    obtain⟨u,rfl,hp⟩:=Ret.of hR
    have hp:=Hp.back k4a k4d hp
    have hp:=r8 hp
    refine aB (aF ⟨gp0 hp,gp 4 hp rfl,trivial⟩ fun hS=>?_)
    refine Ts [18] hE hS rfl rfl (by kernel_rfl) fun a hE hS=>T0 19 hE hS rfl rfl rfl (by kernel_rfl) (fun _=>xf hE aA7 rfl rfl) fun a hE hS=>?_
    refine W1 20 (by kernel_rfl) rfl ?_
    refine bQ (wk0 rfl) rfl hE hp rfl rfl rfl 4 rfl aY.size_ (aC.cells hp 3 rfl) (aC.one hp 3 rfl) rfl [yv1,yv2,yv3,yv4,yv5,yv6,vr7,vr8,vr9,vr10,vr1,vr13,N0] rfl ?_
    intro w hp
    have hp:=r8 hp
    refine aB (aF ⟨gp0 hp,dead (by kernel_rfl),trivial⟩ fun hS=>?_)
    refine Ts [21] hE hS rfl rfl (by kernel_rfl) fun a hE hS=>T0 22 hE hS rfl rfl rfl (by kernel_rfl) (fun _=>xf hE aA8 rfl rfl) fun a hE hS=>?_
    refine W1 23 (by kernel_rfl) rfl ?_
    refine bQ (wk0 rfl) rfl hE hp rfl rfl rfl 4 rfl aY.size_ (aC.cells hp 1 rfl) (aC.one hp 1 rfl) rfl [yv1,yv2,yv3,yv4,yv5,yv6,vr7,vr8,vr9,vr10,vr1,vr13,vr14] rfl ?_
    intro w hp
    have hp:=r8 hp
    refine aB (aF ⟨gp0 hp,dead (by kernel_rfl),trivial⟩ fun hS=>?_)
    exact bP (by kernel_rfl) ⟨_,_,_,_,hE.cut ⟨rfl,trivial⟩,hp⟩
   refine dX rfl ?_
   refine fP (wk0 rfl) rfl rfl hE hp rfl [(0,(Iv (-1)))] ⟨⟨rfl,rfl⟩,trivial⟩ [(Iv (-1))] 3 (fun w=>by simp[Instr.buildSlice,Instr.fill,Value.cells,go_sem]) ?_
   intro a w b9 hE hp
   have hp:=r6 hp
   refine aB (aF ⟨gp0 hp,gp 2 hp rfl,trivial⟩ fun hS=>?_)
   refine W1 9 (by kernel_rfl) rfl ?_
   have hp:=(hp.get 1 rfl).imp (qQ (l:=(([(-1)]:List Int):List Int)) (n:=1) rfl (by decide) rfl)
   have hp:=r6 hp
   obtain⟨k5,k5a,k5d,k5h⟩:=(hp.get 0 rfl).lend
   refine s_call (wk0 rfl) rfl rfl hE rfl [(.slice (some ⟨b7,0,none⟩) 1 1),(Iv (x2.nodes.length:Int))] ⟨rfl,rfl,trivial⟩ ent50 (jL ([(-1)]:List Int) (.slice (some ⟨b7,0,none⟩) 1 1) (aC.ro k5d k5a) (x2.nodes.length:Int) k5h x6 ex6) Ret.ret ?_
   intro vr15 a w hR hE
   obtain⟨u,rfl,hp⟩:=Ret.of hR
   have hp:=Hp.back k5a k5d hp
   have hp:=r7 hp
   refine aB (aF ⟨gp0 hp,gp 3 hp rfl,trivial⟩ fun hS=>?_)
   refine W1 17 (by kernel_rfl) rfl ?_
   have hp:=(hp.get 2 rfl).imp (qQ (l:=(([(-1)]:List Int):List Int)) (n:=1) rfl (by decide) rfl)
   have hp:=r7 hp
   obtain⟨k6,k6a,k6d,k6h⟩:=(hp.get 0 rfl).lend
   refine s_call (wk0 rfl) rfl rfl hE rfl [(.slice (some ⟨b9,0,none⟩) 1 1),(Iv (x3.nodes.length:Int))] ⟨rfl,rfl,trivial⟩ ent50 (jL ([(-1)]:List Int) (.slice (some ⟨b9,0,none⟩) 1 1) (aC.ro k6d k6a) (x3.nodes.length:Int) k6h x7 ex7) Ret.ret ?_
   intro vr16 a w hR hE
   obtain⟨u,rfl,hp⟩:=Ret.of hR
   have hp:=Hp.back k6a k6d hp
   have hp:=r8 hp
   refine aB (aF ⟨gp0 hp,gp 4 hp rfl,trivial⟩ fun hS=>?_)
   refine Ts [18] hE hS rfl rfl (by kernel_rfl) fun a hE hS=>T0 19 hE hS rfl rfl rfl (by kernel_rfl) (fun _=>xf hE aA7 rfl rfl) fun a hE hS=>?_
   refine W1 20 (by kernel_rfl) rfl ?_
   refine bQ (wk0 rfl) rfl hE hp rfl rfl rfl 4 rfl aY.size_ (aC.cells hp 3 rfl) (aC.one hp 3 rfl) rfl [yv1,yv2,yv3,yv4,yv5,yv6,vr7,vr8,vr9,vr10,vr1,vr15,N0] rfl ?_
   intro w hp
   have hp:=r8 hp
   refine aB (aF ⟨gp0 hp,dead (by kernel_rfl),trivial⟩ fun hS=>?_)
   refine Ts [21] hE hS rfl rfl (by kernel_rfl) fun a hE hS=>T0 22 hE hS rfl rfl rfl (by kernel_rfl) (fun _=>xf hE aA8 rfl rfl) fun a hE hS=>?_
   refine W1 23 (by kernel_rfl) rfl ?_
   refine bQ (wk0 rfl) rfl hE hp rfl rfl rfl 4 rfl aY.size_ (aC.cells hp 1 rfl) (aC.one hp 1 rfl) rfl [yv1,yv2,yv3,yv4,yv5,yv6,vr7,vr8,vr9,vr10,vr1,vr15,vr16] rfl ?_
   intro w hp
   have hp:=r8 hp
   refine aB (aF ⟨gp0 hp,dead (by kernel_rfl),trivial⟩ fun hS=>?_)
   exact bP (by kernel_rfl) ⟨_,_,_,_,hE.cut ⟨rfl,trivial⟩,hp⟩
  refine dX rfl ?_
  refine fP (wk0 rfl) rfl rfl hE hp rfl [(0,(Iv (-1)))] ⟨⟨rfl,rfl⟩,trivial⟩ [(Iv (-1))] 3 (fun w=>by simp[Instr.buildSlice,Instr.fill,Value.cells,go_sem]) ?_
  intro a w b10 hE hp
  have hp:=r5 hp
  refine aB (aF ⟨gp0 hp,gp 1 hp rfl,trivial⟩ fun hS=>?_)
  refine W1 2 (by kernel_rfl) rfl ?_
  refine fP (wk0 rfl) rfl rfl hE hp rfl [(0,(Iv (-1)))] ⟨⟨rfl,rfl⟩,trivial⟩ [(Iv (-1))] 3 (fun w=>by simp[Instr.buildSlice,Instr.fill,Value.cells,go_sem]) ?_
  intro a w b11 hE hp
  have hp:=r6 hp
  refine aB (aF ⟨gp0 hp,gp 2 hp rfl,trivial⟩ fun hS=>?_)
  refine W1 9 (by kernel_rfl) rfl ?_
  have hp:=(hp.get 0 rfl).imp (qQ (l:=(([(-1)]:List Int):List Int)) (n:=1) rfl (by decide) rfl)
  have hp:=r6 hp
  obtain⟨k7,k7a,k7d,k7h⟩:=(hp.get 0 rfl).lend
  refine s_call (wk0 rfl) rfl rfl hE rfl [(.slice (some ⟨b11,0,none⟩) 1 1),(Iv (x2.nodes.length:Int))] ⟨rfl,rfl,trivial⟩ ent50 (jL ([(-1)]:List Int) (.slice (some ⟨b11,0,none⟩) 1 1) (aC.ro k7d k7a) (x2.nodes.length:Int) k7h x6 ex6) Ret.ret ?_
  intro vr17 a w hR hE
  obtain⟨u,rfl,hp⟩:=Ret.of hR
  have hp:=Hp.back k7a k7d hp
  have hp:=r7 hp
  refine aB (aF ⟨gp0 hp,gp 3 hp rfl,trivial⟩ fun hS=>?_)
  refine W1 17 (by kernel_rfl) rfl ?_
  have hp:=(hp.get 2 rfl).imp (qQ (l:=(([(-1)]:List Int):List Int)) (n:=1) rfl (by decide) rfl)
  have hp:=r7 hp
  obtain⟨k8,k8a,k8d,k8h⟩:=(hp.get 0 rfl).lend
  refine s_call (wk0 rfl) rfl rfl hE rfl [(.slice (some ⟨b10,0,none⟩) 1 1),(Iv (x3.nodes.length:Int))] ⟨rfl,rfl,trivial⟩ ent50 (jL ([(-1)]:List Int) (.slice (some ⟨b10,0,none⟩) 1 1) (aC.ro k8d k8a) (x3.nodes.length:Int) k8h x7 ex7) Ret.ret ?_
  intro vr18 a w hR hE
  obtain⟨u,rfl,hp⟩:=Ret.of hR
  have hp:=Hp.back k8a k8d hp
  have hp:=r8 hp
  refine aB (aF ⟨gp0 hp,gp 4 hp rfl,trivial⟩ fun hS=>?_)
  refine Ts [18] hE hS rfl rfl (by kernel_rfl) fun a hE hS=>T0 19 hE hS rfl rfl rfl (by kernel_rfl) (fun _=>xf hE aA7 rfl rfl) fun a hE hS=>?_
  refine W1 20 (by kernel_rfl) rfl ?_
  refine bQ (wk0 rfl) rfl hE hp rfl rfl rfl 4 rfl aY.size_ (aC.cells hp 3 rfl) (aC.one hp 3 rfl) rfl [yv1,yv2,yv3,yv4,yv5,yv6,vr7,vr8,vr9,vr10,vr1,vr17,N0] rfl ?_
  intro w hp
  have hp:=r8 hp
  refine aB (aF ⟨gp0 hp,dead (by kernel_rfl),trivial⟩ fun hS=>?_)
  refine Ts [21] hE hS rfl rfl (by kernel_rfl) fun a hE hS=>T0 22 hE hS rfl rfl rfl (by kernel_rfl) (fun _=>xf hE aA8 rfl rfl) fun a hE hS=>?_
  refine W1 23 (by kernel_rfl) rfl ?_
  refine bQ (wk0 rfl) rfl hE hp rfl rfl rfl 4 rfl aY.size_ (aC.cells hp 1 rfl) (aC.one hp 1 rfl) rfl [yv1,yv2,yv3,yv4,yv5,yv6,vr7,vr8,vr9,vr10,vr1,vr17,vr18] rfl ?_
  intro w hp
  have hp:=r8 hp
  refine aB (aF ⟨gp0 hp,dead (by kernel_rfl),trivial⟩ fun hS=>?_)
  exact bP (by kernel_rfl) ⟨_,_,_,_,hE.cut ⟨rfl,trivial⟩,hp⟩
 rintro a w ⟨y9,y10,y7,y8,hE,hp⟩
 refine aG ?_
 obtain⟨x8,ex8,hm⟩:=bnd hm
 obtain⟨x9,ex9,hm⟩:=bnd hm
 obtain⟨x10,ex10,hm⟩:=bnd hm
 have hp:=hp.drew
 refine fG ([([],At0 Z ρ6),([13],At1 Z ρ6 (Pt y6 (.cells #[yv1,yv2,yv3,yv4,yv5,yv6,vr7,vr8,vr9,vr10,vr1,y8,y10] 88 (0,0))))]:Facts) (fun a w=>∃ρy2:PH,∃y8:Value,∃y10:Value,∃yv7:Value,ρ6.le ρy2∧aH ρy2 yv7 x1.1∧Env 130 [(8,(Pv y6 0))] a∧Hp Z ρy2 (Pt y6 (.cells #[yv1,yv2,yv3,yv4,yv5,yv6,vr7,vr8,vr9,vr10,yv7,y8,y10] 88 (0,0))::aC 3 y8 x10.partner::aC 3 y10 x10.back::aC 3 (.slice (some ⟨y9,0,none⟩) 1 1) ([(-1)]:List Int)::aC 3 (.slice (some ⟨y7,0,none⟩) 1 1) ([(-1)]:List Int)::Pt b2 (.cells #[(Iv p1.kind),(.string p1.text),(Iv p1.at_),(Iv p1.fin),aJ] 24 (0,0))::Pt b1 (.cells #[(Iv p0.kind),(.string p0.text),(Iv p0.at_),(Iv p0.fin),aI] 24 (0,0))::L) w) (by kernel_rfl) ⟨fun _=>⟨_,hp⟩,fun _=>⟨_,(hp.get 4 rfl)⟩,trivial⟩ (fun hS=>?_) ?_
 ·
  generalize w.drew=w at hS hp⊢
  refine Ts [0,1,2] hE hS rfl rfl (by kernel_rfl) fun a hE hS=>T0 3 hE hS rfl rfl rfl (by kernel_rfl) (fun _=>xf hE L8 rfl rfl) fun a hE hS=>Ts [7,8] hE hS rfl rfl (by kernel_rfl) fun a hE hS=>T0 9 hE hS rfl rfl rfl (by kernel_rfl) (fun _=>xf hE L9 rfl rfl) fun a hE hS=>?_
  refine gW [4,10] (by kernel_rfl) rfl ?_
  refine List.forall_mem_cons.2 ⟨?_,List.forall_mem_cons.2 ⟨?_,fun _ h=>absurd h (by simp)⟩⟩
  ·
   refine dX rfl ?_
   refine V hE hp rfl (xl hE aY 4 rfl rfl rfl rfl) fun a hE=>?_
   refine aB (aF ⟨gp0 hp,gp 4 hp rfl,trivial⟩ fun hS=>?_)
   refine T0 5 hE hS rfl rfl rfl (by kernel_rfl) (fun _=>bT rfl hE rfl (aH.len (aH.mono hr7 hle6) bI)) fun a hE hS=>T0 6 hE hS rfl rfl rfl (by kernel_rfl) (fun _=>dQ rfl hE rfl rfl (aO ex8)) fun a hE hS=>?_
   refine W1 10 (by kernel_rfl) rfl ?_
   refine V hE hp rfl (xl hE aY 4 rfl rfl rfl rfl) fun a hE=>?_
   refine aB (aF ⟨gp0 hp,gp 4 hp rfl,trivial⟩ fun hS=>?_)
   refine T0 11 hE hS rfl rfl rfl (by kernel_rfl) (fun _=>bT rfl hE rfl (aH.len hr9 bI)) fun a hE hS=>T0 12 hE hS rfl rfl rfl (by kernel_rfl) (fun _=>dQ rfl hE rfl rfl (aO ex9)) fun a hE hS=>?_
   refine W1 13 (by kernel_rfl) rfl ?_
   obtain⟨k10,k10a,k10d,hp⟩:=(hp.get 5 rfl).lend
   have f2:aH (ρ6.un k10) vr1 (x1.1:(List (List Int))):=cO.ro k10d k10a
   have hp:=r7 hp
   refine Cl hE rfl rfl ent51 (D8 y6 (Alg.mk x2 x3 x4.1 x4.2 x5.1 x5.2 x1.1 x6 x7) yv1 (aH.mono (aH.mono (aH.mono yh1 hle5) hle6) (PH.le_un _ k10)) yv2 (aH.mono (aH.mono (aH.mono yh2 hle5) hle6) (PH.le_un _ k10)) yv3 (aH.mono (aH.mono (aH.mono yh3 hle5) hle6) (PH.le_un _ k10)) yv4 (aH.mono (aH.mono (aH.mono yh4 hle5) hle6) (PH.le_un _ k10)) yv5 (aH.mono (aH.mono (aH.mono yh5 hle5) hle6) (PH.le_un _ k10)) yv6 (aH.mono (aH.mono (aH.mono yh6 hle5) hle6) (PH.le_un _ k10)) vr7 (aH.mono (aH.mono hr7 hle6) (PH.le_un _ k10)) vr8 (aH.mono (aH.mono hr8 hle6) (PH.le_un _ k10)) vr9 (aH.mono hr9 (PH.le_un _ k10)) vr10 (aH.mono hr10 (PH.le_un _ k10)) vr1 f2 y8 y10 x8 x9 (((hp.get 1 rfl).get 3 rfl).get 4 rfl) x10 ex10) ⟨rfl,rfl,rfl,trivial⟩ fun v a w hR hE=>?_
   obtain⟨vz2_partner,vz2_back,rfl,hp⟩:=hR
   have hp:=r7 hp
   refine aB (aF ⟨fun _=>⟨_,(hp.less (PH.le_un _ k10))⟩,dead (by kernel_rfl),trivial⟩ fun hS=>?_)
   exact bP (by kernel_rfl) ⟨(ρ6.un k10),_,_,_,(PH.le_un _ k10),f2,hE.cut ⟨rfl,trivial⟩,hp⟩
  refine dX rfl ?_
  refine V hE hp rfl (xl hE aY 4 rfl rfl rfl rfl) fun a hE=>?_
  refine aB (aF ⟨gp0 hp,gp 4 hp rfl,trivial⟩ fun hS=>?_)
  refine T0 11 hE hS rfl rfl rfl (by kernel_rfl) (fun _=>bT rfl hE rfl (aH.len hr9 bI)) fun a hE hS=>T0 12 hE hS rfl rfl rfl (by kernel_rfl) (fun _=>dQ rfl hE rfl rfl (aO ex9)) fun a hE hS=>?_
  refine W1 4 (by kernel_rfl) rfl ?_
  refine V hE hp rfl (xl hE aY 4 rfl rfl rfl rfl) fun a hE=>?_
  refine aB (aF ⟨gp0 hp,gp 4 hp rfl,trivial⟩ fun hS=>?_)
  refine T0 5 hE hS rfl rfl rfl (by kernel_rfl) (fun _=>bT rfl hE rfl (aH.len (aH.mono hr7 hle6) bI)) fun a hE hS=>T0 6 hE hS rfl rfl rfl (by kernel_rfl) (fun _=>dQ rfl hE rfl rfl (aO ex8)) fun a hE hS=>?_
  refine W1 13 (by kernel_rfl) rfl ?_
  obtain⟨k11,k11a,k11d,hp⟩:=(hp.get 5 rfl).lend
  have f3:aH (ρ6.un k11) vr1 (x1.1:(List (List Int))):=cO.ro k11d k11a
  have hp:=r7 hp
  refine Cl hE rfl rfl ent51 (D8 y6 (Alg.mk x2 x3 x4.1 x4.2 x5.1 x5.2 x1.1 x6 x7) yv1 (aH.mono (aH.mono (aH.mono yh1 hle5) hle6) (PH.le_un _ k11)) yv2 (aH.mono (aH.mono (aH.mono yh2 hle5) hle6) (PH.le_un _ k11)) yv3 (aH.mono (aH.mono (aH.mono yh3 hle5) hle6) (PH.le_un _ k11)) yv4 (aH.mono (aH.mono (aH.mono yh4 hle5) hle6) (PH.le_un _ k11)) yv5 (aH.mono (aH.mono (aH.mono yh5 hle5) hle6) (PH.le_un _ k11)) yv6 (aH.mono (aH.mono (aH.mono yh6 hle5) hle6) (PH.le_un _ k11)) vr7 (aH.mono (aH.mono hr7 hle6) (PH.le_un _ k11)) vr8 (aH.mono (aH.mono hr8 hle6) (PH.le_un _ k11)) vr9 (aH.mono hr9 (PH.le_un _ k11)) vr10 (aH.mono hr10 (PH.le_un _ k11)) vr1 f3 y8 y10 x8 x9 (((hp.get 1 rfl).get 3 rfl).get 4 rfl) x10 ex10) ⟨rfl,rfl,rfl,trivial⟩ fun v a w hR hE=>?_
  obtain⟨vz3_partner,vz3_back,rfl,hp⟩:=hR
  have hp:=r7 hp
  refine aB (aF ⟨fun _=>⟨_,(hp.less (PH.le_un _ k11))⟩,dead (by kernel_rfl),trivial⟩ fun hS=>?_)
  exact bP (by kernel_rfl) ⟨(ρ6.un k11),_,_,_,(PH.le_un _ k11),f3,hE.cut ⟨rfl,trivial⟩,hp⟩
 rintro a w ⟨ρy2,y8,y10,yv7,hley2,yh7,hE,hp⟩
 refine aG (aA ?_)
 refine S hE 1 rfl fun a hE=>aB (aG ?_)
 refine aG (aA ?_)
 refine S hE 2 rfl fun a hE=>V hE hp rfl (xf hE aA7 rfl rfl) fun a hE=>V hE hp rfl (xl hE aY 0 rfl rfl rfl rfl) fun a hE=>V hE hp rfl (bT rfl hE rfl (aC.len hp 1 rfl bI)) fun a hE=>S hE 1 rfl fun a hE=>aB ?_
 have hp:=hp.emp (aC.nil (α:=Opn) 46)
 have hp:=r8 hp
 obtain⟨b12,hc2,hm⟩:=bnd hm
 refine dH (fun a w=>∃(w13:Value),Env 130 [(8,(Pv y6 0)),(9,w13)] a∧Hp Z ρy2 (aC 46 w13 b12::Pt y6 (.cells #[yv1,yv2,yv3,yv4,yv5,yv6,vr7,vr8,vr9,vr10,yv7,y8,y10] 88 (0,0))::aC 3 y8 x10.partner::aC 3 y10 x10.back::aC 3 (.slice (some ⟨y9,0,none⟩) 1 1) ([(-1)]:List Int)::aC 3 (.slice (some ⟨y7,0,none⟩) 1 1) ([(-1)]:List Int)::Pt b2 (.cells #[(Iv p1.kind),(.string p1.text),(Iv p1.at_),(Iv p1.fin),aJ] 24 (0,0))::Pt b1 (.cells #[(Iv p0.kind),(.string p0.text),(Iv p0.at_),(Iv p0.fin),aI] 24 (0,0))::L) w) ?_ ?_
 ·refine dZ hc2 (fun s a w=>∃(w13:Value),Env 130 [(8,(Pv y6 0)),(9,w13),(97,y8),(98,(Iv (x10.partner.length:Int))),(99,(Iv s.1))] a∧Hp Z ρy2 (aC 46 w13 s.2::Pt y6 (.cells #[yv1,yv2,yv3,yv4,yv5,yv6,vr7,vr8,vr9,vr10,yv7,y8,y10] 88 (0,0))::aC 3 y8 x10.partner::aC 3 y10 x10.back::aC 3 (.slice (some ⟨y9,0,none⟩) 1 1) ([(-1)]:List Int)::aC 3 (.slice (some ⟨y7,0,none⟩) 1 1) ([(-1)]:List Int)::Pt b2 (.cells #[(Iv p1.kind),(.string p1.text),(Iv p1.at_),(Iv p1.fin),aJ] 24 (0,0))::Pt b1 (.cells #[(Iv p0.kind),(.string p0.text),(Iv p0.at_),(Iv p0.fin),aI] 24 (0,0))::L) w) ?_ ?_
  ·exact⟨_,hE.cut ⟨rfl,rfl,rfl,rfl,rfl,trivial⟩,hp⟩
  rintro⟨aP,aU⟩ st a w ⟨w13,hE,hp⟩ hl1
  dsimp only at hE hp hl1
  unfold X7 at hl1
  refine aG (aA ?_)
  refine S hE 1 rfl fun a hE=>aB (aG ?_)
  refine dE hE rfl (fun hc3=>?_) (fun hc3=>?_)
  ·replace hl1:=(it hc3).symm.trans hl1
   refine aZ (aG ?_)
   refine dM (aG ?_)
   refine aA (S hE 1 rfl fun a hE=>?_)
   obtain⟨x11,ex11,hl1⟩:=bnd hl1
   obtain⟨b13,b13o,b13r,b13v,b13f⟩:=aC.at hp 2 rfl bI ex11
   refine V hE hp rfl (aN rfl hE rfl rfl b13r) fun a hE=>V hE hp rfl (aK rfl hE rfl (fun w hw=>aV aT (b13f 0 _ rfl _ _ w (hw.get 2 rfl)))) fun a hE=>S hE 2 rfl fun a hE=>aB (aA ?_)
   refine S hE 3 rfl fun a hE=>V hE hp rfl (v:=(.agg #[(Iv aP),(Iv x11)])) (lW rfl hE [(0,(Iv aP)),(1,(Iv x11))] (by exact⟨⟨rfl,rfl⟩,⟨rfl,rfl⟩,trivial⟩) (fun w=>by simp[Instr.build,Instr.fill,Value.cells,go_sem])) fun a hE=>?_
   refine fP (wk0 rfl) rfl rfl hE hp rfl [(0,(.agg #[(Iv aP),(Iv x11)]))] ⟨⟨rfl,rfl⟩,trivial⟩ [(Iv aP),(Iv x11)] 46 (fun w=>by simp[Instr.buildSlice,Instr.fill,Value.cells,go_sem]) ?_
   intro a w b14 hE hp
   have hp:=r9 hp
   obtain⟨x12,ex12,hl1⟩:=bnd hl1
   refine fU (wk0 rfl) rfl rfl hE hp rfl dW rfl rfl 1 rfl rfl (l2:=[(Opn.mk aP x11)]) rfl (fun j u hj=>by have:=Hp.cN 0 rfl 0 _ (aS rfl) w hp j u hj;simpa using this) ex12 ?_
   intro v1 a w hE hp
   have hp:=r9 hp
   refine S hE 1 rfl fun a hE=>aB ?_
   have hE:=hE.cut (E':=[(8,(Pv y6 0)),(9,v1),(97,y8),(98,(Iv (x10.partner.length:Int))),(99,(Iv aP))]) ⟨rfl,rfl,rfl,rfl,rfl,trivial⟩
   refine aA ?_
   obtain⟨x13,ex13,hl1⟩:=bnd hl1
   refine V hE hp rfl (bF rfl hE rfl rfl (aO ex13)) fun a hE=>S hE 1 rfl fun a hE=>aB ?_
   exact⟨_,(oj hl1).symm,_,hE.cut ⟨rfl,rfl,rfl,rfl,rfl,trivial⟩,(hp.drop)⟩
  replace hl1:=(ie hc3).symm.trans hl1
  refine dS ?_
  refine⟨_,(oj hl1).symm,fun hbb=>?_⟩
  subst hbb
  exact⟨_,hE.cut ⟨rfl,rfl,trivial⟩,hp⟩
 rintro a w ⟨w13,hE,hp⟩
 refine aG (aG ?_)
 refine aA (S hE 2 rfl fun a hE=>?_)
 refine V hE hp rfl (xf hE aA8 rfl rfl) fun a hE=>V hE hp rfl (xl hE aY 1 rfl rfl rfl rfl) fun a hE=>V hE hp rfl (bT rfl hE rfl (aC.len hp 3 rfl bI)) fun a hE=>S hE 1 rfl fun a hE=>aB ?_
 obtain⟨b15,hc4,hm⟩:=bnd hm
 refine dH (fun a w=>∃(w13:Value),Env 130 [(9,w13)] a∧Hp Z ρy2 (aC 46 w13 b15::Pt y6 (.cells #[yv1,yv2,yv3,yv4,yv5,yv6,vr7,vr8,vr9,vr10,yv7,y8,y10] 88 (0,0))::aC 3 y8 x10.partner::aC 3 y10 x10.back::aC 3 (.slice (some ⟨y9,0,none⟩) 1 1) ([(-1)]:List Int)::aC 3 (.slice (some ⟨y7,0,none⟩) 1 1) ([(-1)]:List Int)::Pt b2 (.cells #[(Iv p1.kind),(.string p1.text),(Iv p1.at_),(Iv p1.fin),aJ] 24 (0,0))::Pt b1 (.cells #[(Iv p0.kind),(.string p0.text),(Iv p0.at_),(Iv p0.fin),aI] 24 (0,0))::L) w) ?_ ?_
 ·refine dZ hc4 (fun s a w=>∃(w13:Value),Env 130 [(9,w13),(114,y10),(115,(Iv (x10.back.length:Int))),(116,(Iv s.1))] a∧Hp Z ρy2 (aC 46 w13 s.2::Pt y6 (.cells #[yv1,yv2,yv3,yv4,yv5,yv6,vr7,vr8,vr9,vr10,yv7,y8,y10] 88 (0,0))::aC 3 y8 x10.partner::aC 3 y10 x10.back::aC 3 (.slice (some ⟨y9,0,none⟩) 1 1) ([(-1)]:List Int)::aC 3 (.slice (some ⟨y7,0,none⟩) 1 1) ([(-1)]:List Int)::Pt b2 (.cells #[(Iv p1.kind),(.string p1.text),(Iv p1.at_),(Iv p1.fin),aJ] 24 (0,0))::Pt b1 (.cells #[(Iv p0.kind),(.string p0.text),(Iv p0.at_),(Iv p0.fin),aI] 24 (0,0))::L) w) ?_ ?_
  ·exact⟨_,hE.cut ⟨rfl,rfl,rfl,rfl,trivial⟩,hp⟩
  rintro⟨bJ,dY⟩ st a w ⟨w13,hE,hp⟩ hl2
  dsimp only at hE hp hl2
  unfold X8 at hl2
  refine aG (aA ?_)
  refine S hE 1 rfl fun a hE=>aB (aG ?_)
  refine dE hE rfl (fun hc5=>?_) (fun hc5=>?_)
  ·replace hl2:=(it hc5).symm.trans hl2
   refine aZ (aG ?_)
   refine dM (aG ?_)
   refine aA (S hE 1 rfl fun a hE=>?_)
   obtain⟨x14,ex14,hl2⟩:=bnd hl2
   obtain⟨b16,b16o,b16r,b16v,b16f⟩:=aC.at hp 3 rfl bI ex14
   refine V hE hp rfl (aN rfl hE rfl rfl b16r) fun a hE=>V hE hp rfl (aK rfl hE rfl (fun w hw=>aV aT (b16f 0 _ rfl _ _ w (hw.get 3 rfl)))) fun a hE=>S hE 2 rfl fun a hE=>aB (aG ?_)
   refine aA (S hE 2 rfl fun a hE=>?_)
   refine aB ?_
   refine dE hE rfl (fun hc6=>?_) (fun hc6=>?_)
   ·replace hl2:=(it hc6).symm.trans hl2
    refine aA (S hE 2 rfl fun a hE=>?_)
    refine V hE hp rfl (v:=(.agg #[(Iv (-1)),(Iv bJ)])) (lW rfl hE [(0,(Iv (-1))),(1,(Iv bJ))] (by exact⟨⟨rfl,rfl⟩,⟨rfl,rfl⟩,trivial⟩) (fun w=>by simp[Instr.build,Instr.fill,Value.cells,go_sem])) fun a hE=>?_
    refine fP (wk0 rfl) rfl rfl hE hp rfl [(0,(.agg #[(Iv (-1)),(Iv bJ)]))] ⟨⟨rfl,rfl⟩,trivial⟩ [(Iv (-1)),(Iv bJ)] 46 (fun w=>by simp[Instr.buildSlice,Instr.fill,Value.cells,go_sem]) ?_
    intro a w b17 hE hp
    have hp:=r9 hp
    obtain⟨x15,ex15,hl2⟩:=bnd hl2
    refine fU (wk0 rfl) rfl rfl hE hp rfl dW rfl rfl 1 rfl rfl (l2:=[(Opn.mk (-1) bJ)]) rfl (fun j u hj=>by have:=Hp.cN 0 rfl 0 _ (aS rfl) w hp j u hj;simpa using this) ex15 ?_
    intro v2 a w hE hp
    have hp:=r9 hp
    refine S hE 1 rfl fun a hE=>aB (aA ?_)
    obtain⟨x16,ex16,hl2⟩:=bnd hl2
    refine V hE hp rfl (bF rfl hE rfl rfl (aO ex16)) fun a hE=>S hE 1 rfl fun a hE=>aB ?_
    exact⟨_,(oj hl2).symm,_,hE.cut ⟨rfl,rfl,rfl,rfl,trivial⟩,(hp.drop)⟩
   replace hl2:=(ie hc6).symm.trans hl2
   refine aZ (aA ?_)
   obtain⟨x17,ex17,hl2⟩:=bnd hl2
   refine V hE hp rfl (bF rfl hE rfl rfl (aO ex17)) fun a hE=>S hE 1 rfl fun a hE=>aB ?_
   have hE:=hE.cut (E':=[(9,w13),(114,y10),(115,(Iv (x10.back.length:Int))),(116,(Iv x17))]) ⟨rfl,rfl,rfl,rfl,trivial⟩
   exact⟨_,(oj hl2).symm,_,hE.cut ⟨rfl,rfl,rfl,rfl,trivial⟩,hp⟩
  replace hl2:=(ie hc5).symm.trans hl2
  refine dS ?_
  refine⟨_,(oj hl2).symm,fun hbb=>?_⟩
  subst hbb
  exact⟨_,hE.cut ⟨rfl,trivial⟩,hp⟩
 rintro a w ⟨w13,hE,hp⟩
 refine aG (aA ?_)
 refine S hE 3 rfl fun a hE=>aB (bZ ?_)
 obtain rfl:=oj hm
 exact yU hE rfl rfl rfl ⟨_,rfl,_,rfl,((((((((((((((((((hp.get 7 rfl).drop).get 6 rfl).drop).get 5 rfl).drop).get 4 rfl).drop).get 3 rfl).drop).get 2 rfl).drop).get 1 rfl).drop).less hley2).less hle6).less hle5).less hley1)⟩
end Go.Proofs.YtopnldfjcciieaaGreat

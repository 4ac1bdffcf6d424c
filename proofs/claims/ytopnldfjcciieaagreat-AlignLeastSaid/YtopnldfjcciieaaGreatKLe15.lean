/- The code goes as its model: math/bits.Mul32, math/bits.Mul64, math/bits.Mul, slices.Repeat[[]int,int], assessor/align.Align. (Printed by wip/sp/gen.py.) -/
import Derived.Test.YtopnldfjcciieaaGreatKLeT
import Derived.Test.YtopnldfjcciieaaGreatKLe4
import Derived.Test.YtopnldfjcciieaaGreatKLe5
import Derived.Test.YtopnldfjcciieaaGreatKLe11
import Derived.Test.YtopnldfjcciieaaGreatKLe14
import Derived.Test.YtopnldfjcciieaaGreatKLe9
set_option linter.unusedVariables false
set_option linter.unusedSimpArgs false
set_option maxRecDepth 100000
set_option maxHeartbeats 4000000
namespace Go.Proofs.YtopnldfjcciieaaGreat
open Go.RowKit
theorem c_bits_Mul64 {Z:World} {ρ:PH} {L:List bQ} {w:World} (E:Int) (D:Int) (B:Hp Z ρ (L) w) (r:(Int×Int)) (C:aI3 E D=some r):
  Calls Tryz.prog 95 #[(.int .u64 E),(.int .u64 D)] w (Ret fun v w'=>v= .tuple #[(.int .u64 r.1),(.int .u64 r.2)]∧Hp Z ρ (L) w'):=by
 refine enter (N:=51) Tryz.func95 O O [(0,(.int .u64 E)),(1,(.int .u64 D))] O (bH ⟨O,O,tv⟩) fun a A=>?_
 unfold aI3 at C
 refine aG (aA ?_)
 refine S A 2 O fun a A=>aB (aG ?_)
 refine aA (S A 1 O fun a A=>?_)
 refine V A B O (v:=(.int .u64 (andK .u64 E 4294967295))) (ex_and O A O O) fun a A=>S A 1 O fun a A=>aB (aG ?_)
 refine aA (S A 1 O fun a A=>?_)
 obtain⟨F,Q,C⟩:=bnd C
 refine V A B O (v:=(.int .u64 F)) (aI0 O A O O Q) fun a A=>S A 1 O fun a A=>aB (aG ?_)
 refine aA (S A 1 O fun a A=>?_)
 refine V A B O (v:=(.int .u64 (andK .u64 D 4294967295))) (ex_and O A O O) fun a A=>S A 1 O fun a A=>aB (aG ?_)
 refine aA (S A 1 O fun a A=>?_)
 obtain⟨H,M,C⟩:=bnd C
 refine V A B O (v:=(.int .u64 H)) (aI0 O A O O M) fun a A=>S A 1 O fun a A=>aB (aG ?_)
 refine aA (S A 2 O fun a A=>?_)
 refine V A B O (aL6 O A O O O) fun a A=>S A 1 O fun a A=>aB (aG ?_)
 refine aA (S A 2 O fun a A=>?_)
 refine V A B O (aL6 O A O O O) fun a A=>S A 1 O fun a A=>?_
 obtain⟨G,K,C⟩:=bnd C
 refine V A B O (v:=(.int .u64 G)) (aI0 O A O O K) fun a A=>V A B O (bF O A O O O) fun a A=>S A 1 O fun a A=>aB ?_
 have A:=A.cut (E':=[(0,(.int .u64 E)),(1,(.int .u64 D)),(6,(.int .u64 (andK .u64 E 4294967295))),(7,(.int .u64 F)),(9,(.int .u64 H)),(11,(.int .u64 (IntKind.wrap .u64 ((IntKind.wrap .u64 (F*(andK .u64 D 4294967295)))+G))))]) ⟨O,O,O,O,O,O,tv⟩
 refine aG (aA ?_)
 refine S A 1 O fun a A=>V A B O (v:=(.int .u64 (andK .u64 (IntKind.wrap .u64 ((IntKind.wrap .u64 (F*(andK .u64 D 4294967295)))+G)) 4294967295))) (ex_and O A O O) fun a A=>S A 1 O fun a A=>aB (aG ?_)
 refine aA (S A 1 O fun a A=>?_)
 obtain⟨T,J,C⟩:=bnd C
 refine V A B O (v:=(.int .u64 T)) (aI0 O A O O J) fun a A=>S A 1 O fun a A=>aB (aG ?_)
 refine aA (S A 3 O fun a A=>?_)
 refine V A B O (aL6 O A O O O) fun a A=>V A B O (bF O A O O O) fun a A=>S A 1 O fun a A=>aB (aG ?_)
 refine aA (S A 2 O fun a A=>?_)
 refine V A B O (aL6 O A O O O) fun a A=>S A 1 O fun a A=>V A B O (bF O A O O O) fun a A=>S A 1 O fun a A=>?_
 obtain⟨R,I,C⟩:=bnd C
 refine V A B O (v:=(.int .u64 R)) (aI0 O A O O I) fun a A=>V A B O (bF O A O O O) fun a A=>S A 1 O fun a A=>aB ?_
 have A:=A.cut (E':=[(0,(.int .u64 E)),(1,(.int .u64 D)),(4,(.int .u64 (IntKind.wrap .u64 ((IntKind.wrap .u64 ((IntKind.wrap .u64 (F*H))+T))+R))))]) ⟨O,O,O,tv⟩
 refine aG (aA ?_)
 refine S A 2 O fun a A=>V A B O (aL6 O A O O O) fun a A=>S A 1 O fun a A=>aB (cZ ?_)
 obtain rfl:=oj C
 exact N7 A O O O ⟨_,O,O,B⟩
theorem c_bits_Mul {Z:World} {ρ:PH} {L:List bQ} {w:World} (D:Int) (C:Int) (B:Hp Z ρ (L) w) (r:(Int×Int)) (E:aQ1 D C=some r):
  Calls Tryz.prog 70 #[(.int .u64 D),(.int .u64 C)] w (Ret fun v w'=>v= .tuple #[(.int .u64 r.1),(.int .u64 r.2)]∧Hp Z ρ (L) w'):=by
 refine enter (N:=30) Tryz.func70 O O [(0,(.int .u64 D)),(1,(.int .u64 C))] O (bH ⟨O,O,tv⟩) fun a A=>?_
 unfold aQ1 at E
 refine aG (aA ?_)
 refine S A 2 O fun a A=>aB (aG ?_)
 refine dK A O (fun hb=>absurd hb (by decide)) (fun hb=>?_)
 refine bI (aG ?_)
 refine aA (S A 2 O fun a A=>?_)
 obtain⟨G,F,E⟩:=bnd E
 refine Cl A O O ent95 (c_bits_Mul64 D C B G F) ⟨O,O,tv⟩ fun v a w H A=>?_
 obtain⟨rfl,B⟩:=H
 have B:=r0 B
 refine S A 5 O fun a A=>aB (aG ?_)
 refine aA (S A 4 O fun a A=>?_)
 refine aB (cZ ?_)
 obtain rfl:=oj E
 exact N7 A O O O ⟨_,O,O,B⟩
theorem kK {Z:World} {ρ:PH} {L:List bQ} {w:World} (R:(List Int)) (vp0:Value) (hp0:aH ρ vp0 R) (K:Int) (B:Hp Z ρ (L) w) (r:(List Int)) (E:nX R K=some r):
  Calls Tryz.prog 50 #[vp0,(Iv K)] w (Ret fun v w'=>∃(vr1:Value),v=vr1∧Hp Z ρ (aC 3 vr1 r::L) w'):=by
 refine enter (N:=48) Tryz.func50 O O [(0,vp0),(1,(Iv K))] O (bH ⟨O,O,tv⟩) fun a A=>?_
 unfold nX at E
 refine aG (aA ?_)
 refine S A 1 O fun a A=>aB (aG ?_)
 refine aG (aA ?_)
 refine S A 2 O fun a A=>aB ?_
 obtain⟨j1,hj1,E⟩:=bnd E
 refine aJ9 (fun a w=>Env 48 [(0,vp0),(1,(Iv K))] a∧Hp Z ρ (L) w) ?_ ?_
 ·
  refine dK A O (fun J=>?_) (fun J=>?_)
  ·replace hj1:=(it J).symm.trans hj1
   refine aA ?_
   cases hj1
  replace hj1:=(ie J).symm.trans hj1
  refine bI ?_
  obtain rfl:=oj hj1
  exact⟨A.cut ⟨O,O,tv⟩,B⟩
 rintro a w ⟨A,B⟩
 refine aG (aA ?_)
 refine S A 1 O fun a A=>V A B O (bW O A O (aH.len hp0 bD)) fun a A=>V A B O (v:=(.int .u64 (IntKind.wrap .u64 (R.length:Int)))) (G5 O A O (fun w _=>by simp[convert,Conv.intToInt,go_sem])) fun a A=>S A 1 O fun a A=>V A B O (v:=(.int .u64 (IntKind.wrap .u64 K))) (G5 O A O (fun w _=>by simp[convert,Conv.intToInt,go_sem])) fun a A=>?_
 obtain⟨G,Y,E⟩:=bnd E
 refine Cl A O O ent70 (c_bits_Mul (IntKind.wrap .u64 (R.length:Int)) (IntKind.wrap .u64 K) B G Y) ⟨O,O,tv⟩ fun v a w f A=>?_
 obtain⟨rfl,B⟩:=f
 have B:=r0 B
 refine S A 5 O fun a A=>aB (aG ?_)
 refine aG (aA ?_)
 refine S A 3 O fun a A=>?_
 refine jI [_,_,_] (fun a w=>Env 48 [(26,(.bool ((decide (0<G.1))||(decide (9223372036854775807<G.2))))),(0,vp0),(6,(.int .u64 G.2))] a∧Hp Z ρ (L) w) ?_ ?_
 ·rcases vA (decide (0<G.1)) with D|D
  ·
   refine Gk A D O fun a A=>Gk A D O fun a A=>pk1 A D O O O O fun a A=>?_
   have A:=A.eqv (v':=(.bool ((decide (0<G.1))||(decide (9223372036854775807<G.2))))) (by rw[D];rfl)
   exact aB ⟨A.cut ⟨O,O,O,tv⟩,B⟩
  refine Gs A D O O fun a A=>Gs A D O O fun a A=>pk0 A D O O O O fun a A=>?_
  have A:=A.eqv (v':=(.bool ((decide (0<G.1))||(decide (9223372036854775807<G.2))))) (by rw[D];rfl)
  exact aB ⟨A.cut ⟨O,O,O,tv⟩,B⟩
 rintro a w ⟨A,B⟩
 refine aB ?_
 obtain⟨j2,hj2,E⟩:=bnd E
 refine aJ9 (fun a w=>Env 48 [(0,vp0),(6,(.int .u64 G.2))] a∧Hp Z ρ (L) w) ?_ ?_
 ·
  refine dK A O (fun I=>?_) (fun I=>?_)
  ·replace hj2:=(it I).symm.trans hj2
   refine aA ?_
   cases hj2
  replace hj2:=(ie I).symm.trans hj2
  refine bI ?_
  obtain rfl:=oj hj2
  exact⟨A.cut ⟨O,O,tv⟩,B⟩
 rintro a w ⟨A,B⟩
 refine aG (aA ?_)
 refine S A 1 O fun a A=>?_
 obtain⟨e,X,E⟩:=bnd E
 refine V A B O (v:=(Iv e)) (G5 O A O (fun w _=>by rw[←aN X];simp[convert,Conv.intToInt,go_sem])) fun a A=>?_
 obtain⟨x3,W,E⟩:=bnd E
 refine aM4 (wk0 O) O O A B O (El:=3) (bytes:=8) kr (0:Int) kr kr O O W ?_
 intro v1 a w A B
 have B:=r1 B
 refine S A 1 O fun a A=>aB (aG ?_)
 refine aA (S A 2 O fun a A=>?_)
 refine s_copy (wk0 O) O O A B O bD O 0 O O hp0 ?_
 intro a w A B
 have B:=r1 B
 refine S A 1 O fun a A=>aB (aG ?_)
 obtain⟨b1,T,E⟩:=bnd E
 refine dM (fun a w=>Env 48 [(7,v1)] a∧Hp Z ρ (aC 3 v1 b1::L) w) ?_ ?_
 ·refine eQ T (fun s a w=>Env 48 [(7,v1),(8,(Iv s.1))] a∧Hp Z ρ (aC 3 v1 s.2::L) w) ?_ ?_
  ·exact⟨A.cut ⟨O,O,tv⟩,B⟩
  rintro⟨aQ,aU⟩ st a w ⟨A,B⟩ C
  dsimp only at A B C
  unfold xB at C
  refine aG (aG ?_)
  refine aA (S A 2 O fun a A=>?_)
  refine V A B O (bW O A O (aC.len B 0 O bD)) fun a A=>S A 1 O fun a A=>aB ?_
  refine dK A O (fun H=>?_) (fun H=>?_)
  ·replace C:=(it H).symm.trans C
   refine bI (dN ?_)
   obtain⟨d,Q,C⟩:=bnd C
   obtain⟨c,M,C⟩:=bnd C
   obtain⟨b,U,C⟩:=bnd C
   have B:=B.drew
   refine gK ([([],At0 Z ρ)]:Facts) (fun a w=>Env 48 [(7,v1),(8,(Iv b))] a∧Hp Z ρ (aC 3 v1 (aU.take aQ.toNat++cpy d c)::L) w) kr ⟨fun _=>⟨_,B⟩,tv⟩ (fun F=>?_) ?_
   ·
    generalize w.drew=w at F B⊢
    refine Ts [0,1,2] A F O O kr fun a A F=>?_
    obtain⟨v4,v4r⟩:=aC.view B 0 O bD (some (.i64,aQ)) none O O Q
    refine T0 3 A F O O O kr (v:=v4) (fun _=>rX O A O (some (.i64,aQ)) none (by exact O) (by exact trivial) v4r) fun a A F=>Ts [4,5] A F O O kr fun a A F=>?_
    obtain⟨v5,v5r⟩:=aC.view B 0 O bD none (some (.i64,aQ)) O O M
    refine T0 6 A F O O O kr (v:=v5) (fun _=>rX O A O none (some (.i64,aQ)) (by exact trivial) (by exact O) v5r) fun a A F=>?_
    refine W1 7 kr O ?_
    refine s_copyVV (wk0 O) O O A B O bD 0 O O O (.i64,aQ) none (some (.i64,aQ)) O O Q v4r M v5r ?_
    intro a w A B
    have B:=r1 B
    refine aB (aF ⟨gp0 B,tv⟩ fun F=>?_)
    refine T0 8 A F O O O kr (fun _=>bF O A O O (aN U)) fun a A F=>Ts [9] A F O O kr fun a A F=>?_
    exact bT kr ⟨A.cut ⟨O,O,tv⟩,B⟩
   rintro a w ⟨A,B⟩
   exact⟨_,(oj C).symm,A.cut ⟨O,O,tv⟩,B⟩
  replace C:=(ie H).symm.trans C
  refine dZ ?_
  refine⟨_,(oj C).symm,fun hbb=>?_⟩
  subst hbb
  exact⟨A.cut ⟨O,tv⟩,B⟩
 rintro a w ⟨A,B⟩
 refine aG (aA ?_)
 refine S A 2 O fun a A=>aB (cZ ?_)
 obtain rfl:=oj E
 exact gY A O O ⟨_,O,_,O,B⟩
theorem aD9 {Z:World} {ρ:PH} {L:List bQ} {w:World} (F:Node) (aI:Value) (aY:aH ρ aI F.kids) (E:Node) (aJ:Value) (bG:aH ρ aJ E.kids) (B:Hp Z ρ (L) w) (r:((List Opn)×Int)) (M:uY F E=some r):
  Calls Tryz.prog 21 #[(.agg #[(Iv F.kind),(.string F.text),(Iv F.at_),(Iv F.fin),aI]),(.agg #[(Iv E.kind),(.string E.text),(Iv E.at_),(Iv E.fin),aJ])] w (Ret fun v w'=>∃(vr1:Value),v= .tuple #[vr1,(Iv r.2)]∧Hp Z ρ (aC 46 vr1 r.1::L) w'):=by
 refine enter (N:=130) Tryz.func21 O O [(0,(.agg #[(Iv F.kind),(.string F.text),(Iv F.at_),(Iv F.fin),aI])),(1,(.agg #[(Iv E.kind),(.string E.text),(Iv E.at_),(Iv E.fin),aJ]))] O (bH ⟨O,O,tv⟩) fun a A=>?_
 unfold uY at M
 refine aG (aA ?_)
 refine iH (wk0 O) O O A B O (v:=(.agg #[(Iv F.kind),(.string F.text),(Iv F.at_),(Iv F.fin),aI])) O ?_
 intro a w b1 A B
 have B:=r1 B
 refine iH (wk0 O) O O A B O (v:=(.agg #[(Iv E.kind),(.string E.text),(Iv E.at_),(Iv E.fin),aJ])) O ?_
 intro a w b2 A B
 have B:=r2 B
 refine S A 2 O fun a A=>aB (aG ?_)
 refine aA (V A B O (aK O A O (fun w U=>aX (cs:=[(Iv F.kind),(.string F.text),(Iv F.at_),(Iv F.fin),aI]) cO (Hp.cN 1 O 0 _ (aS O) w U))) fun a A=>?_)
 refine V A B O (aK O A O (fun w U=>aX (cs:=[(Iv E.kind),(.string E.text),(Iv E.at_),(Iv E.fin),aJ]) cO (Hp.cN 0 O 0 _ (aS O) w U))) fun a A=>?_
 obtain⟨i,ex1,M⟩:=bnd M
 refine Cl A O O ent48 (aP4 F aI aY E aJ bG B i ex1) ⟨O,O,tv⟩ fun v a w R A=>?_
 obtain⟨vr1,usr1,rfl,B⟩:=R
 have B:=r3 B
 refine S A 5 O fun a A=>aB (aG ?_)
 refine aG (aA ?_)
 refine S A 2 O fun a A=>aB ?_
 refine dK A O (fun d=>?_) (fun d=>?_)
 ·replace M:=(it d).symm.trans M
  refine aG (aA ?_)
  refine S A 3 O fun a A=>aB (cZ ?_)
  have B:=B.emp (aC.nil (α:=Opn) 46)
  have B:=r4 B
  obtain rfl:=oj M
  exact N7 A O O O ⟨_,O,_,O,((((((B.get 3 O).drop).get 2 O).drop).get 1 O).drop)⟩
 replace M:=(ie d).symm.trans M
 refine bI (aG ?_)
 obtain⟨X,ex2,M⟩:=bnd M
 obtain⟨W,ex3,M⟩:=bnd M
 have B:=B.drew
 refine gK ([([],At0 Z ρ),([],At1 Z ρ (Pt b2 (.cells #[(Iv E.kind),(.string E.text),(Iv E.at_),(Iv E.fin),aJ] 24 (0,0)))),([],At1 Z ρ (Pt b1 (.cells #[(Iv F.kind),(.string F.text),(Iv F.at_),(Iv F.fin),aI] 24 (0,0))))]:Facts) (fun a w=>∃ρy1:PH,∃y6:Nat,∃yv1:Value,∃yv2:Value,∃yv3:Value,∃yv4:Value,∃yv5:Value,∃yv6:Value,ρ.le ρy1∧aH ρy1 yv1 X.nodes∧aH ρy1 yv2 X.sizes∧aH ρy1 yv3 X.parent∧aH ρy1 yv4 W.nodes∧aH ρy1 yv5 W.sizes∧aH ρy1 yv6 W.parent∧Env 130 [(8,(Pv y6 0))] a∧Hp Z ρy1 (Pt y6 (.cells #[yv1,yv2,yv3,yv4,yv5,yv6,N0,N0,N0,N0,vr1,N0,N0] 88 (0,0))::bM 73 3 vr1 usr1 (i.1:(List (List Int)))::Pt b2 (.cells #[(Iv E.kind),(.string E.text),(Iv E.at_),(Iv E.fin),aJ] 24 (0,0))::Pt b1 (.cells #[(Iv F.kind),(.string F.text),(Iv F.at_),(Iv F.fin),aI] 24 (0,0))::L) w) kr ⟨fun _=>⟨_,B⟩,fun _=>⟨_,(B.get 1 O)⟩,fun _=>⟨_,(B.get 2 O)⟩,tv⟩ (fun C=>?_) ?_
 ·
  generalize w.drew=w at C B⊢
  refine T 0 2 A C O O O kr (fun _=>aK O A O (fun w U=>aX (cs:=[(Iv F.kind),(.string F.text),(Iv F.at_),(Iv F.fin),aI]) cO (Hp.cN 0 O 0 _ (aS O) w U))) fun a A C=>T 2 1 A C O O O kr (fun _=>aK O A O (fun w U=>aX (cs:=[(Iv E.kind),(.string E.text),(Iv E.at_),(Iv E.fin),aJ]) cO (Hp.cN 0 O 0 _ (aS O) w U))) fun a A C=>Ts [4] A C O O kr fun a A C=>?_
  refine W1 1 kr O ?_
  refine Cl A O O kL (bJ F aI aY B X ex2) ⟨O,tv⟩ fun v a w R A=>?_
  obtain⟨ρ3,wF,wG,tY,J,rfl,qV,qW,oG,B⟩:=R
  have B:=r3 B
  refine aB (aF ⟨fun _=>⟨_,(B.less J)⟩,fun _=>⟨_,((B.get 1 O).less J)⟩,fun _=>⟨_,((B.get 2 O).less J)⟩,tv⟩ fun C=>?_)
  refine W1 3 kr O ?_
  refine Cl A O O kL (bJ E aJ (aH.mono bG J) B W ex3) ⟨O,tv⟩ fun v a w R A=>?_
  obtain⟨ρ4,zK,zL,wW,I,rfl,vO,vP,tN,B⟩:=R
  have B:=r3 B
  refine aB (aF ⟨fun _=>⟨_,((B.less I).less J)⟩,fun _=>⟨_,(((B.get 1 O).less I).less J)⟩,fun _=>⟨_,(((B.get 2 O).less I).less J)⟩,tv⟩ fun C=>?_)
  refine T0 5 A C O O O kr (v:=(.agg #[wF,wG,tY,zK,zL,wW,N0,N0,N0,N0,vr1,N0,N0])) (fun _=>oD O A [(0,(.agg #[wF,wG,tY])),(1,(.agg #[zK,zL,wW])),(6,vr1)] (by exact⟨⟨O,O⟩,⟨O,O⟩,⟨O,O⟩,tv⟩) (fun w=>by have y:=aH.cells (aH.mono qV I);simp only[Value.cells] at y;have d:=aH.cells (aH.mono qW I);simp only[Value.cells] at d;have g:=aH.cells (aH.mono oG I);simp only[Value.cells] at g;have c:=aH.cells vO;simp only[Value.cells] at c;have f:=aH.cells vP;simp only[Value.cells] at f;have b:=aH.cells tN;simp only[Value.cells] at b;have Y:=bM.cells B 0 rfl;simp only[Value.cells] at Y;simp[Instr.build,Instr.fill,Value.cells,y,d,g,c,f,b,Y,go_sem])) fun a A C=>?_
  refine W1 6 kr O ?_
  refine iH (wk0 O) O O A B O (v:=(.agg #[wF,wG,tY,zK,zL,wW,N0,N0,N0,N0,vr1,N0,N0])) O ?_
  intro a w b4 A B
  have B:=r4 B
  refine aB (aF ⟨fun _=>⟨_,((B.less I).less J)⟩,fun _=>⟨_,(((B.get 2 O).less I).less J)⟩,fun _=>⟨_,(((B.get 3 O).less I).less J)⟩,tv⟩ fun C=>?_)
  refine Ts [7] A C O O kr fun a A C=>?_
  exact bT kr ⟨ρ4,_,_,_,_,_,_,_,(PH.le.tr J I),(aH.mono qV I),(aH.mono qW I),(aH.mono oG I),vO,vP,tN,A.cut ⟨O,tv⟩,B⟩
 rintro a w ⟨ρy1,y6,yv1,yv2,yv3,yv4,yv5,yv6,hley1,yh1,yh2,yh3,yh4,yh5,yh6,A,B⟩
 refine aG (aA ?_)
 refine S A 4 O fun a A=>V A B O (xf A fldty88_0 O O) fun a A=>V A B O (aK O A O (fun w U=>aX (cs:=[yv1,yv2,yv3]) dG (Hp.cN 0 O 0 _ (aS O) w U))) fun a A=>?_
 obtain⟨x,ex4,M⟩:=bnd M
 refine Cl A O O ent49 (I4 X yv1 yh1 yv2 yh2 yv3 yh3 B x ex4) ⟨O,tv⟩ fun v a w R A=>?_
 obtain⟨ρ5,vr7,vr8,G,rfl,hr7,hr8,B⟩:=R
 have B:=r4 B
 refine S A 4 O fun a A=>V A B O (xf A Y0 O O) fun a A=>?_
 refine bV (wk0 O) O A B O O O 0 O aT.size_ (aH.cells hr7) (aH.one hr7) O [yv1,yv2,yv3,yv4,yv5,yv6,vr7,N0,N0,N0,vr1,N0,N0] O ?_
 intro w B
 have B:=r4 B
 refine S A 1 O fun a A=>V A B O (xf A J6 O O) fun a A=>?_
 refine bV (wk0 O) O A B O O O 0 O aT.size_ (aH.cells hr8) (aH.one hr8) O [yv1,yv2,yv3,yv4,yv5,yv6,vr7,vr8,N0,N0,vr1,N0,N0] O ?_
 intro w B
 have B:=r4 B
 refine aB (aG ?_)
 refine aA (S A 4 O fun a A=>?_)
 refine V A B O (xf A fldty88_1 O O) fun a A=>V A B O (aK O A O (fun w U=>aX (cs:=[yv4,yv5,yv6]) dG (Hp.cN 0 O 3 _ (aS O) w U))) fun a A=>?_
 obtain⟨t,ex5,M⟩:=bnd M
 refine Cl A O O ent49 (I4 W yv4 (aH.mono yh4 G) yv5 (aH.mono yh5 G) yv6 (aH.mono yh6 G) B t ex5) ⟨O,tv⟩ fun v a w R A=>?_
 obtain⟨ρ6,vr9,vr10,D,rfl,hr9,hr10,B⟩:=R
 have B:=r4 B
 refine S A 4 O fun a A=>V A B O (xf A Y1 O O) fun a A=>?_
 refine bV (wk0 O) O A B O O O 0 O aT.size_ (aH.cells hr9) (aH.one hr9) O [yv1,yv2,yv3,yv4,yv5,yv6,vr7,vr8,vr9,N0,vr1,N0,N0] O ?_
 intro w B
 have B:=r4 B
 refine S A 1 O fun a A=>V A B O (xf A J7 O O) fun a A=>?_
 refine bV (wk0 O) O A B O O O 0 O aT.size_ (aH.cells hr10) (aH.one hr10) O [yv1,yv2,yv3,yv4,yv5,yv6,vr7,vr8,vr9,vr10,vr1,N0,N0] O ?_
 intro w B
 have B:=r4 B
 refine aB ?_
 have A:=A.cut (E':=[(8,(Pv y6 0))]) ⟨O,tv⟩
 refine aG ?_
 obtain⟨q,o,M⟩:=bnd M
 obtain⟨p,m,M⟩:=bnd M
 have B:=B.drew
 refine gK ([([],At0 Z ρ6),([20,23],At1 Z ρ6 (Pt y6 (.cells #[yv1,yv2,yv3,yv4,yv5,yv6,vr7,vr8,vr9,vr10,vr1,N0,N0] 88 (0,0))))]:Facts) (fun a w=>∃y9:Nat,∃y10:Value,∃y7:Nat,∃y8:Value,Env 130 [(8,(Pv y6 0))] a∧Hp Z ρ6 (aC 3 (.slice (some ⟨y9,0,none⟩) 1 1) ([(-1)]:List Int)::aC 3 y10 p::aC 3 (.slice (some ⟨y7,0,none⟩) 1 1) ([(-1)]:List Int)::aC 3 y8 q::Pt y6 (.cells #[yv1,yv2,yv3,yv4,yv5,yv6,vr7,vr8,vr9,vr10,vr1,y8,y10] 88 (0,0))::bM 73 3 vr1 usr1 (i.1:(List (List Int)))::Pt b2 (.cells #[(Iv E.kind),(.string E.text),(Iv E.at_),(Iv E.fin),aJ] 24 (0,0))::Pt b1 (.cells #[(Iv F.kind),(.string F.text),(Iv F.at_),(Iv F.fin),aI] 24 (0,0))::L) w) kr ⟨fun _=>⟨_,B⟩,fun _=>⟨_,(B.get 0 O)⟩,tv⟩ (fun C=>?_) ?_
 ·
  generalize w.drew=w at C B⊢
  refine Ts [0,1,3,4] A C O O kr fun a A C=>T0 5 A C O O O kr (fun _=>xf A fldty88_0 O O) fun a A C=>T0 6 A C O O O kr (fun _=>xf A lQ O O) fun a A C=>T 7 1 A C O O O kr (fun _=>xl A iK 0 O O O O) fun a A C=>T0 8 A C O O O kr (fun _=>bW O A O (aH.len (aH.mono (aH.mono yh1 G) D) iZ)) fun a A C=>Ts [11,12] A C O O kr fun a A C=>T0 13 A C O O O kr (fun _=>xf A fldty88_1 O O) fun a A C=>T0 14 A C O O O kr (fun _=>xf A lQ O O) fun a A C=>T 15 1 A C O O O kr (fun _=>xl A iK 0 O O O O) fun a A C=>T0 16 A C O O O kr (fun _=>bW O A O (aH.len (aH.mono (aH.mono yh4 G) D) iZ)) fun a A C=>?_
  refine fQ [2,10] kr O ?_
  refine uE.2 ⟨?_,uE.2 ⟨?_,fun _ h=>absurd h (by simp)⟩⟩
  ·
   refine dV O ?_
   refine fU (wk0 O) O O A B O [(0,(Iv (-1)))] ⟨⟨O,O⟩,tv⟩ [(Iv (-1))] 3 (fun w=>by simp[Instr.buildSlice,Instr.fill,Value.cells,go_sem]) ?_
   intro a w b7 A B
   have B:=r5 B
   refine aB (aF ⟨gp0 B,gp 1 B O,tv⟩ fun C=>?_)
   refine fQ [9,10] kr O ?_
   refine uE.2 ⟨?_,uE.2 ⟨?_,fun _ h=>absurd h (by simp)⟩⟩
   ·
    refine dV O ?_
    have B:=(B.get 0 O).imp (uJ (l:=(([(-1)]:List Int):List Int)) (n:=1) O (by decide) O)
    have B:=r5 B
    obtain⟨k3,k3a,k3d,k3h⟩:=(B.get 0 O).lend
    refine s_call (wk0 O) O O A O [(.slice (some ⟨b7,0,none⟩) 1 1),(Iv (X.nodes.length:Int))] ⟨O,O,tv⟩ ent50 (kK ([(-1)]:List Int) (.slice (some ⟨b7,0,none⟩) 1 1) (aC.ro k3d k3a) (X.nodes.length:Int) k3h q o) Ret.ret ?_
    intro vr13 a w R A
    obtain⟨u,rfl,B⟩:=Ret.of R
    have B:=Hp.back k3a k3d B
    have B:=r6 B
    refine aB (aF ⟨gp0 B,gp 2 B O,tv⟩ fun C=>?_)
    refine W1 10 kr O ?_
    refine fU (wk0 O) O O A B O [(0,(Iv (-1)))] ⟨⟨O,O⟩,tv⟩ [(Iv (-1))] 3 (fun w=>by simp[Instr.buildSlice,Instr.fill,Value.cells,go_sem]) ?_
    intro a w b8 A B
    have B:=r7 B
    refine aB (aF ⟨gp0 B,gp 3 B O,tv⟩ fun C=>?_)
    refine W1 17 kr O ?_
    have B:=(B.get 0 O).imp (uJ (l:=(([(-1)]:List Int):List Int)) (n:=1) O (by decide) O)
    have B:=r7 B
    obtain⟨k4,k4a,k4d,k4h⟩:=(B.get 0 O).lend
    refine s_call (wk0 O) O O A O [(.slice (some ⟨b8,0,none⟩) 1 1),(Iv (W.nodes.length:Int))] ⟨O,O,tv⟩ ent50 (kK ([(-1)]:List Int) (.slice (some ⟨b8,0,none⟩) 1 1) (aC.ro k4d k4a) (W.nodes.length:Int) k4h p m) Ret.ret ?_
    intro vr14 a w R A
    obtain⟨u,rfl,B⟩:=Ret.of R
    have B:=Hp.back k4a k4d B
    have B:=r8 B
    refine aB (aF ⟨gp0 B,gp 4 B O,tv⟩ fun C=>?_)
    refine Ts [18] A C O O kr fun a A C=>T0 19 A C O O O kr (fun _=>xf A aF8 O O) fun a A C=>?_
    refine W1 20 kr O ?_
    refine bV (wk0 O) O A B O O O 4 O aT.size_ (aC.cells B 3 O) (aC.one B 3 O) O [yv1,yv2,yv3,yv4,yv5,yv6,vr7,vr8,vr9,vr10,vr1,vr13,N0] O ?_
    intro w B
    have B:=r8 B
    refine aB (aF ⟨gp0 B,dead kr,tv⟩ fun C=>?_)
    refine Ts [21] A C O O kr fun a A C=>T0 22 A C O O O kr (fun _=>xf A aF9 O O) fun a A C=>?_
    refine W1 23 kr O ?_
    refine bV (wk0 O) O A B O O O 4 O aT.size_ (aC.cells B 1 O) (aC.one B 1 O) O [yv1,yv2,yv3,yv4,yv5,yv6,vr7,vr8,vr9,vr10,vr1,vr13,vr14] O ?_
    intro w B
    have B:=r8 B
    refine aB (aF ⟨gp0 B,dead kr,tv⟩ fun C=>?_)
    exact bT kr ⟨_,_,_,_,A.cut ⟨O,tv⟩,B⟩
   refine dV O ?_
   refine fU (wk0 O) O O A B O [(0,(Iv (-1)))] ⟨⟨O,O⟩,tv⟩ [(Iv (-1))] 3 (fun w=>by simp[Instr.buildSlice,Instr.fill,Value.cells,go_sem]) ?_
   intro a w b9 A B
   have B:=r6 B
   refine aB (aF ⟨gp0 B,gp 2 B O,tv⟩ fun C=>?_)
   refine W1 9 kr O ?_
   have B:=(B.get 1 O).imp (uJ (l:=(([(-1)]:List Int):List Int)) (n:=1) O (by decide) O)
   have B:=r6 B
   obtain⟨k5,k5a,k5d,k5h⟩:=(B.get 0 O).lend
   refine s_call (wk0 O) O O A O [(.slice (some ⟨b7,0,none⟩) 1 1),(Iv (X.nodes.length:Int))] ⟨O,O,tv⟩ ent50 (kK ([(-1)]:List Int) (.slice (some ⟨b7,0,none⟩) 1 1) (aC.ro k5d k5a) (X.nodes.length:Int) k5h q o) Ret.ret ?_
   intro vr15 a w R A
   obtain⟨u,rfl,B⟩:=Ret.of R
   have B:=Hp.back k5a k5d B
   have B:=r7 B
   refine aB (aF ⟨gp0 B,gp 3 B O,tv⟩ fun C=>?_)
   refine W1 17 kr O ?_
   have B:=(B.get 2 O).imp (uJ (l:=(([(-1)]:List Int):List Int)) (n:=1) O (by decide) O)
   have B:=r7 B
   obtain⟨k6,k6a,k6d,k6h⟩:=(B.get 0 O).lend
   refine s_call (wk0 O) O O A O [(.slice (some ⟨b9,0,none⟩) 1 1),(Iv (W.nodes.length:Int))] ⟨O,O,tv⟩ ent50 (kK ([(-1)]:List Int) (.slice (some ⟨b9,0,none⟩) 1 1) (aC.ro k6d k6a) (W.nodes.length:Int) k6h p m) Ret.ret ?_
   intro vr16 a w R A
   obtain⟨u,rfl,B⟩:=Ret.of R
   have B:=Hp.back k6a k6d B
   have B:=r8 B
   refine aB (aF ⟨gp0 B,gp 4 B O,tv⟩ fun C=>?_)
   refine Ts [18] A C O O kr fun a A C=>T0 19 A C O O O kr (fun _=>xf A aF8 O O) fun a A C=>?_
   refine W1 20 kr O ?_
   refine bV (wk0 O) O A B O O O 4 O aT.size_ (aC.cells B 3 O) (aC.one B 3 O) O [yv1,yv2,yv3,yv4,yv5,yv6,vr7,vr8,vr9,vr10,vr1,vr15,N0] O ?_
   intro w B
   have B:=r8 B
   refine aB (aF ⟨gp0 B,dead kr,tv⟩ fun C=>?_)
   refine Ts [21] A C O O kr fun a A C=>T0 22 A C O O O kr (fun _=>xf A aF9 O O) fun a A C=>?_
   refine W1 23 kr O ?_
   refine bV (wk0 O) O A B O O O 4 O aT.size_ (aC.cells B 1 O) (aC.one B 1 O) O [yv1,yv2,yv3,yv4,yv5,yv6,vr7,vr8,vr9,vr10,vr1,vr15,vr16] O ?_
   intro w B
   have B:=r8 B
   refine aB (aF ⟨gp0 B,dead kr,tv⟩ fun C=>?_)
   exact bT kr ⟨_,_,_,_,A.cut ⟨O,tv⟩,B⟩
  refine dV O ?_
  refine fU (wk0 O) O O A B O [(0,(Iv (-1)))] ⟨⟨O,O⟩,tv⟩ [(Iv (-1))] 3 (fun w=>by simp[Instr.buildSlice,Instr.fill,Value.cells,go_sem]) ?_
  intro a w b10 A B
  have B:=r5 B
  refine aB (aF ⟨gp0 B,gp 1 B O,tv⟩ fun C=>?_)
  refine W1 2 kr O ?_
  refine fU (wk0 O) O O A B O [(0,(Iv (-1)))] ⟨⟨O,O⟩,tv⟩ [(Iv (-1))] 3 (fun w=>by simp[Instr.buildSlice,Instr.fill,Value.cells,go_sem]) ?_
  intro a w b11 A B
  have B:=r6 B
  refine aB (aF ⟨gp0 B,gp 2 B O,tv⟩ fun C=>?_)
  refine W1 9 kr O ?_
  have B:=(B.get 0 O).imp (uJ (l:=(([(-1)]:List Int):List Int)) (n:=1) O (by decide) O)
  have B:=r6 B
  obtain⟨k7,k7a,k7d,k7h⟩:=(B.get 0 O).lend
  refine s_call (wk0 O) O O A O [(.slice (some ⟨b11,0,none⟩) 1 1),(Iv (X.nodes.length:Int))] ⟨O,O,tv⟩ ent50 (kK ([(-1)]:List Int) (.slice (some ⟨b11,0,none⟩) 1 1) (aC.ro k7d k7a) (X.nodes.length:Int) k7h q o) Ret.ret ?_
  intro vr17 a w R A
  obtain⟨u,rfl,B⟩:=Ret.of R
  have B:=Hp.back k7a k7d B
  have B:=r7 B
  refine aB (aF ⟨gp0 B,gp 3 B O,tv⟩ fun C=>?_)
  refine W1 17 kr O ?_
  have B:=(B.get 2 O).imp (uJ (l:=(([(-1)]:List Int):List Int)) (n:=1) O (by decide) O)
  have B:=r7 B
  obtain⟨k8,k8a,k8d,k8h⟩:=(B.get 0 O).lend
  refine s_call (wk0 O) O O A O [(.slice (some ⟨b10,0,none⟩) 1 1),(Iv (W.nodes.length:Int))] ⟨O,O,tv⟩ ent50 (kK ([(-1)]:List Int) (.slice (some ⟨b10,0,none⟩) 1 1) (aC.ro k8d k8a) (W.nodes.length:Int) k8h p m) Ret.ret ?_
  intro vr18 a w R A
  obtain⟨u,rfl,B⟩:=Ret.of R
  have B:=Hp.back k8a k8d B
  have B:=r8 B
  refine aB (aF ⟨gp0 B,gp 4 B O,tv⟩ fun C=>?_)
  refine Ts [18] A C O O kr fun a A C=>T0 19 A C O O O kr (fun _=>xf A aF8 O O) fun a A C=>?_
  refine W1 20 kr O ?_
  refine bV (wk0 O) O A B O O O 4 O aT.size_ (aC.cells B 3 O) (aC.one B 3 O) O [yv1,yv2,yv3,yv4,yv5,yv6,vr7,vr8,vr9,vr10,vr1,vr17,N0] O ?_
  intro w B
  have B:=r8 B
  refine aB (aF ⟨gp0 B,dead kr,tv⟩ fun C=>?_)
  refine Ts [21] A C O O kr fun a A C=>T0 22 A C O O O kr (fun _=>xf A aF9 O O) fun a A C=>?_
  refine W1 23 kr O ?_
  refine bV (wk0 O) O A B O O O 4 O aT.size_ (aC.cells B 1 O) (aC.one B 1 O) O [yv1,yv2,yv3,yv4,yv5,yv6,vr7,vr8,vr9,vr10,vr1,vr17,vr18] O ?_
  intro w B
  have B:=r8 B
  refine aB (aF ⟨gp0 B,dead kr,tv⟩ fun C=>?_)
  exact bT kr ⟨_,_,_,_,A.cut ⟨O,tv⟩,B⟩
 rintro a w ⟨y9,y10,y7,y8,A,B⟩
 refine aG ?_
 obtain⟨x8,ex8,M⟩:=bnd M
 obtain⟨x9,z,M⟩:=bnd M
 obtain⟨K,k,M⟩:=bnd M
 have B:=B.drew
 refine gK ([([],At0 Z ρ6),([13],At1 Z ρ6 (Pt y6 (.cells #[yv1,yv2,yv3,yv4,yv5,yv6,vr7,vr8,vr9,vr10,vr1,y8,y10] 88 (0,0))))]:Facts) (fun a w=>∃ρy2:PH,∃y8:Value,∃y10:Value,∃yv7:Value,ρ6.le ρy2∧aH ρy2 yv7 i.1∧Env 130 [(8,(Pv y6 0))] a∧Hp Z ρy2 (Pt y6 (.cells #[yv1,yv2,yv3,yv4,yv5,yv6,vr7,vr8,vr9,vr10,yv7,y8,y10] 88 (0,0))::aC 3 y8 K.partner::aC 3 y10 K.back::aC 3 (.slice (some ⟨y9,0,none⟩) 1 1) ([(-1)]:List Int)::aC 3 (.slice (some ⟨y7,0,none⟩) 1 1) ([(-1)]:List Int)::Pt b2 (.cells #[(Iv E.kind),(.string E.text),(Iv E.at_),(Iv E.fin),aJ] 24 (0,0))::Pt b1 (.cells #[(Iv F.kind),(.string F.text),(Iv F.at_),(Iv F.fin),aI] 24 (0,0))::L) w) kr ⟨fun _=>⟨_,B⟩,fun _=>⟨_,(B.get 4 O)⟩,tv⟩ (fun C=>?_) ?_
 ·
  generalize w.drew=w at C B⊢
  refine Ts [0,1,2] A C O O kr fun a A C=>T0 3 A C O O O kr (fun _=>xf A Y0 O O) fun a A C=>Ts [7,8] A C O O kr fun a A C=>T0 9 A C O O O kr (fun _=>xf A Y1 O O) fun a A C=>?_
  refine fQ [4,10] kr O ?_
  refine uE.2 ⟨?_,uE.2 ⟨?_,fun _ h=>absurd h (by simp)⟩⟩
  ·
   refine dV O ?_
   refine V A B O (xl A aT 4 O O O O) fun a A=>?_
   refine aB (aF ⟨gp0 B,gp 4 B O,tv⟩ fun C=>?_)
   refine T0 5 A C O O O kr (fun _=>bW O A O (aH.len (aH.mono hr7 D) bD)) fun a A C=>T0 6 A C O O O kr (fun _=>dQ O A O O (aN ex8)) fun a A C=>?_
   refine W1 10 kr O ?_
   refine V A B O (xl A aT 4 O O O O) fun a A=>?_
   refine aB (aF ⟨gp0 B,gp 4 B O,tv⟩ fun C=>?_)
   refine T0 11 A C O O O kr (fun _=>bW O A O (aH.len hr9 bD)) fun a A C=>T0 12 A C O O O kr (fun _=>dQ O A O O (aN z)) fun a A C=>?_
   refine W1 13 kr O ?_
   obtain⟨k10,k10a,k10d,B⟩:=(B.get 5 O).lend
   have f2:aH (ρ6.un k10) vr1 (i.1:(List (List Int))):=bM.ro k10d k10a
   have B:=r7 B
   refine Cl A O O ent51 (O9 y6 (Alg.mk X W x.1 x.2 t.1 t.2 i.1 q p) yv1 (aH.mono (aH.mono (aH.mono yh1 G) D) (PH.le_un _ k10)) yv2 (aH.mono (aH.mono (aH.mono yh2 G) D) (PH.le_un _ k10)) yv3 (aH.mono (aH.mono (aH.mono yh3 G) D) (PH.le_un _ k10)) yv4 (aH.mono (aH.mono (aH.mono yh4 G) D) (PH.le_un _ k10)) yv5 (aH.mono (aH.mono (aH.mono yh5 G) D) (PH.le_un _ k10)) yv6 (aH.mono (aH.mono (aH.mono yh6 G) D) (PH.le_un _ k10)) vr7 (aH.mono (aH.mono hr7 D) (PH.le_un _ k10)) vr8 (aH.mono (aH.mono hr8 D) (PH.le_un _ k10)) vr9 (aH.mono hr9 (PH.le_un _ k10)) vr10 (aH.mono hr10 (PH.le_un _ k10)) vr1 f2 y8 y10 x8 x9 (((B.get 1 O).get 3 O).get 4 O) K k) ⟨O,O,O,tv⟩ fun v a w R A=>?_
   obtain⟨vz2_partner,vz2_back,rfl,B⟩:=R
   have B:=r7 B
   refine aB (aF ⟨fun _=>⟨_,(B.less (PH.le_un _ k10))⟩,dead kr,tv⟩ fun C=>?_)
   exact bT kr ⟨(ρ6.un k10),_,_,_,(PH.le_un _ k10),f2,A.cut ⟨O,tv⟩,B⟩
  refine dV O ?_
  refine V A B O (xl A aT 4 O O O O) fun a A=>?_
  refine aB (aF ⟨gp0 B,gp 4 B O,tv⟩ fun C=>?_)
  refine T0 11 A C O O O kr (fun _=>bW O A O (aH.len hr9 bD)) fun a A C=>T0 12 A C O O O kr (fun _=>dQ O A O O (aN z)) fun a A C=>?_
  refine W1 4 kr O ?_
  refine V A B O (xl A aT 4 O O O O) fun a A=>?_
  refine aB (aF ⟨gp0 B,gp 4 B O,tv⟩ fun C=>?_)
  refine T0 5 A C O O O kr (fun _=>bW O A O (aH.len (aH.mono hr7 D) bD)) fun a A C=>T0 6 A C O O O kr (fun _=>dQ O A O O (aN ex8)) fun a A C=>?_
  refine W1 13 kr O ?_
  obtain⟨k11,k11a,k11d,B⟩:=(B.get 5 O).lend
  have f3:aH (ρ6.un k11) vr1 (i.1:(List (List Int))):=bM.ro k11d k11a
  have B:=r7 B
  refine Cl A O O ent51 (O9 y6 (Alg.mk X W x.1 x.2 t.1 t.2 i.1 q p) yv1 (aH.mono (aH.mono (aH.mono yh1 G) D) (PH.le_un _ k11)) yv2 (aH.mono (aH.mono (aH.mono yh2 G) D) (PH.le_un _ k11)) yv3 (aH.mono (aH.mono (aH.mono yh3 G) D) (PH.le_un _ k11)) yv4 (aH.mono (aH.mono (aH.mono yh4 G) D) (PH.le_un _ k11)) yv5 (aH.mono (aH.mono (aH.mono yh5 G) D) (PH.le_un _ k11)) yv6 (aH.mono (aH.mono (aH.mono yh6 G) D) (PH.le_un _ k11)) vr7 (aH.mono (aH.mono hr7 D) (PH.le_un _ k11)) vr8 (aH.mono (aH.mono hr8 D) (PH.le_un _ k11)) vr9 (aH.mono hr9 (PH.le_un _ k11)) vr10 (aH.mono hr10 (PH.le_un _ k11)) vr1 f3 y8 y10 x8 x9 (((B.get 1 O).get 3 O).get 4 O) K k) ⟨O,O,O,tv⟩ fun v a w R A=>?_
  obtain⟨vz3_partner,vz3_back,rfl,B⟩:=R
  have B:=r7 B
  refine aB (aF ⟨fun _=>⟨_,(B.less (PH.le_un _ k11))⟩,dead kr,tv⟩ fun C=>?_)
  exact bT kr ⟨(ρ6.un k11),_,_,_,(PH.le_un _ k11),f3,A.cut ⟨O,tv⟩,B⟩
 rintro a w ⟨ρy2,y8,y10,yv7,hley2,yh7,A,B⟩
 refine aG (aA ?_)
 refine S A 1 O fun a A=>aB (aG ?_)
 refine aG (aA ?_)
 refine S A 2 O fun a A=>V A B O (xf A aF8 O O) fun a A=>V A B O (xl A aT 0 O O O O) fun a A=>V A B O (bW O A O (aC.len B 1 O bD)) fun a A=>S A 1 O fun a A=>aB ?_
 have B:=B.emp (aC.nil (α:=Opn) 46)
 have B:=r8 B
 obtain⟨b12,g,M⟩:=bnd M
 refine dM (fun a w=>∃(w13:Value),Env 130 [(8,(Pv y6 0)),(9,w13)] a∧Hp Z ρy2 (aC 46 w13 b12::Pt y6 (.cells #[yv1,yv2,yv3,yv4,yv5,yv6,vr7,vr8,vr9,vr10,yv7,y8,y10] 88 (0,0))::aC 3 y8 K.partner::aC 3 y10 K.back::aC 3 (.slice (some ⟨y9,0,none⟩) 1 1) ([(-1)]:List Int)::aC 3 (.slice (some ⟨y7,0,none⟩) 1 1) ([(-1)]:List Int)::Pt b2 (.cells #[(Iv E.kind),(.string E.text),(Iv E.at_),(Iv E.fin),aJ] 24 (0,0))::Pt b1 (.cells #[(Iv F.kind),(.string F.text),(Iv F.at_),(Iv F.fin),aI] 24 (0,0))::L) w) ?_ ?_
 ·refine eQ g (fun s a w=>∃(w13:Value),Env 130 [(8,(Pv y6 0)),(9,w13),(97,y8),(98,(Iv (K.partner.length:Int))),(99,(Iv s.1))] a∧Hp Z ρy2 (aC 46 w13 s.2::Pt y6 (.cells #[yv1,yv2,yv3,yv4,yv5,yv6,vr7,vr8,vr9,vr10,yv7,y8,y10] 88 (0,0))::aC 3 y8 K.partner::aC 3 y10 K.back::aC 3 (.slice (some ⟨y9,0,none⟩) 1 1) ([(-1)]:List Int)::aC 3 (.slice (some ⟨y7,0,none⟩) 1 1) ([(-1)]:List Int)::Pt b2 (.cells #[(Iv E.kind),(.string E.text),(Iv E.at_),(Iv E.fin),aJ] 24 (0,0))::Pt b1 (.cells #[(Iv F.kind),(.string F.text),(Iv F.at_),(Iv F.fin),aI] 24 (0,0))::L) w) ?_ ?_
  ·exact⟨_,A.cut ⟨O,O,O,O,O,tv⟩,B⟩
  rintro⟨aQ,aU⟩ st a w ⟨w13,A,B⟩ Q
  dsimp only at A B Q
  unfold xR at Q
  refine aG (aA ?_)
  refine S A 1 O fun a A=>aB (aG ?_)
  refine dK A O (fun c=>?_) (fun c=>?_)
  ·replace Q:=(it c).symm.trans Q
   refine bI (aG ?_)
   refine dN (aG ?_)
   refine aA (S A 1 O fun a A=>?_)
   obtain⟨e,ex11,Q⟩:=bnd Q
   obtain⟨b13,b13o,b13r,b13v,b13f⟩:=aC.at B 2 O bD ex11
   refine V A B O (aO O A O O b13r) fun a A=>V A B O (aK O A O (fun w U=>aZ aW (b13f 0 _ O _ _ w (U.get 2 O)))) fun a A=>S A 2 O fun a A=>aB (aA ?_)
   refine S A 3 O fun a A=>V A B O (v:=(.agg #[(Iv aQ),(Iv e)])) (oD O A [(0,(Iv aQ)),(1,(Iv e))] (by exact⟨⟨O,O⟩,⟨O,O⟩,tv⟩) (fun w=>by simp[Instr.build,Instr.fill,Value.cells,go_sem])) fun a A=>?_
   refine fU (wk0 O) O O A B O [(0,(.agg #[(Iv aQ),(Iv e)]))] ⟨⟨O,O⟩,tv⟩ [(Iv aQ),(Iv e)] 46 (fun w=>by simp[Instr.buildSlice,Instr.fill,Value.cells,go_sem]) ?_
   intro a w b14 A B
   have B:=r9 B
   obtain⟨x12,ex12,Q⟩:=bnd Q
   refine gB (wk0 O) O O A B O fE O O 1 O O (l2:=[(Opn.mk aQ e)]) O (fun j u hj=>by have:=Hp.cN 0 O 0 _ (aS O) w B j u hj;simpa using this) ex12 ?_
   intro v1 a w A B
   have B:=r9 B
   refine S A 1 O fun a A=>aB ?_
   have A:=A.cut (E':=[(8,(Pv y6 0)),(9,v1),(97,y8),(98,(Iv (K.partner.length:Int))),(99,(Iv aQ))]) ⟨O,O,O,O,O,tv⟩
   refine aA ?_
   obtain⟨x13,ex13,Q⟩:=bnd Q
   refine V A B O (bF O A O O (aN ex13)) fun a A=>S A 1 O fun a A=>aB ?_
   exact⟨_,(oj Q).symm,_,A.cut ⟨O,O,O,O,O,tv⟩,(B.drop)⟩
  replace Q:=(ie c).symm.trans Q
  refine dZ ?_
  refine⟨_,(oj Q).symm,fun hbb=>?_⟩
  subst hbb
  exact⟨_,A.cut ⟨O,O,tv⟩,B⟩
 rintro a w ⟨w13,A,B⟩
 refine aG (aG ?_)
 refine aA (S A 2 O fun a A=>?_)
 refine V A B O (xf A aF9 O O) fun a A=>V A B O (xl A aT 1 O O O O) fun a A=>V A B O (bW O A O (aC.len B 3 O bD)) fun a A=>S A 1 O fun a A=>aB ?_
 obtain⟨b15,f,M⟩:=bnd M
 refine dM (fun a w=>∃(w13:Value),Env 130 [(9,w13)] a∧Hp Z ρy2 (aC 46 w13 b15::Pt y6 (.cells #[yv1,yv2,yv3,yv4,yv5,yv6,vr7,vr8,vr9,vr10,yv7,y8,y10] 88 (0,0))::aC 3 y8 K.partner::aC 3 y10 K.back::aC 3 (.slice (some ⟨y9,0,none⟩) 1 1) ([(-1)]:List Int)::aC 3 (.slice (some ⟨y7,0,none⟩) 1 1) ([(-1)]:List Int)::Pt b2 (.cells #[(Iv E.kind),(.string E.text),(Iv E.at_),(Iv E.fin),aJ] 24 (0,0))::Pt b1 (.cells #[(Iv F.kind),(.string F.text),(Iv F.at_),(Iv F.fin),aI] 24 (0,0))::L) w) ?_ ?_
 ·refine eQ f (fun s a w=>∃(w13:Value),Env 130 [(9,w13),(114,y10),(115,(Iv (K.back.length:Int))),(116,(Iv s.1))] a∧Hp Z ρy2 (aC 46 w13 s.2::Pt y6 (.cells #[yv1,yv2,yv3,yv4,yv5,yv6,vr7,vr8,vr9,vr10,yv7,y8,y10] 88 (0,0))::aC 3 y8 K.partner::aC 3 y10 K.back::aC 3 (.slice (some ⟨y9,0,none⟩) 1 1) ([(-1)]:List Int)::aC 3 (.slice (some ⟨y7,0,none⟩) 1 1) ([(-1)]:List Int)::Pt b2 (.cells #[(Iv E.kind),(.string E.text),(Iv E.at_),(Iv E.fin),aJ] 24 (0,0))::Pt b1 (.cells #[(Iv F.kind),(.string F.text),(Iv F.at_),(Iv F.fin),aI] 24 (0,0))::L) w) ?_ ?_
  ·exact⟨_,A.cut ⟨O,O,O,O,tv⟩,B⟩
  rintro⟨bP,eP⟩ st a w ⟨w13,A,B⟩ H
  dsimp only at A B H
  unfold xU at H
  refine aG (aA ?_)
  refine S A 1 O fun a A=>aB (aG ?_)
  refine dK A O (fun b=>?_) (fun b=>?_)
  ·replace H:=(it b).symm.trans H
   refine bI (aG ?_)
   refine dN (aG ?_)
   refine aA (S A 1 O fun a A=>?_)
   obtain⟨x14,ex14,H⟩:=bnd H
   obtain⟨b16,b16o,b16r,b16v,b16f⟩:=aC.at B 3 O bD ex14
   refine V A B O (aO O A O O b16r) fun a A=>V A B O (aK O A O (fun w U=>aZ aW (b16f 0 _ O _ _ w (U.get 3 O)))) fun a A=>S A 2 O fun a A=>aB (aG ?_)
   refine aA (S A 2 O fun a A=>?_)
   refine aB ?_
   refine dK A O (fun Y=>?_) (fun Y=>?_)
   ·replace H:=(it Y).symm.trans H
    refine aA (S A 2 O fun a A=>?_)
    refine V A B O (v:=(.agg #[(Iv (-1)),(Iv bP)])) (oD O A [(0,(Iv (-1))),(1,(Iv bP))] (by exact⟨⟨O,O⟩,⟨O,O⟩,tv⟩) (fun w=>by simp[Instr.build,Instr.fill,Value.cells,go_sem])) fun a A=>?_
    refine fU (wk0 O) O O A B O [(0,(.agg #[(Iv (-1)),(Iv bP)]))] ⟨⟨O,O⟩,tv⟩ [(Iv (-1)),(Iv bP)] 46 (fun w=>by simp[Instr.buildSlice,Instr.fill,Value.cells,go_sem]) ?_
    intro a w b17 A B
    have B:=r9 B
    obtain⟨x15,ex15,H⟩:=bnd H
    refine gB (wk0 O) O O A B O fE O O 1 O O (l2:=[(Opn.mk (-1) bP)]) O (fun j u hj=>by have:=Hp.cN 0 O 0 _ (aS O) w B j u hj;simpa using this) ex15 ?_
    intro v2 a w A B
    have B:=r9 B
    refine S A 1 O fun a A=>aB (aA ?_)
    obtain⟨x16,ex16,H⟩:=bnd H
    refine V A B O (bF O A O O (aN ex16)) fun a A=>S A 1 O fun a A=>aB ?_
    exact⟨_,(oj H).symm,_,A.cut ⟨O,O,O,O,tv⟩,(B.drop)⟩
   replace H:=(ie Y).symm.trans H
   refine bI (aA ?_)
   obtain⟨x17,ex17,H⟩:=bnd H
   refine V A B O (bF O A O O (aN ex17)) fun a A=>S A 1 O fun a A=>aB ?_
   have A:=A.cut (E':=[(9,w13),(114,y10),(115,(Iv (K.back.length:Int))),(116,(Iv x17))]) ⟨O,O,O,O,tv⟩
   exact⟨_,(oj H).symm,_,A.cut ⟨O,O,O,O,tv⟩,B⟩
  replace H:=(ie b).symm.trans H
  refine dZ ?_
  refine⟨_,(oj H).symm,fun hbb=>?_⟩
  subst hbb
  exact⟨_,A.cut ⟨O,tv⟩,B⟩
 rintro a w ⟨w13,A,B⟩
 refine aG (aA ?_)
 refine S A 3 O fun a A=>aB (cZ ?_)
 obtain rfl:=oj M
 exact N7 A O O O ⟨_,O,_,O,((((((((((((((((((B.get 7 O).drop).get 6 O).drop).get 5 O).drop).get 4 O).drop).get 3 O).drop).get 2 O).drop).get 1 O).drop).less hley2).less D).less G).less hley1)⟩
end Go.Proofs.YtopnldfjcciieaaGreat

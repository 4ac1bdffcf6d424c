/- The code goes as its model: math/bits.Mul32, math/bits.Mul64, math/bits.Mul, slices.Repeat[[]int,int], assessor/align.Align. (Printed by wip/sp/gen.py.) -/
import Derived.Test.YtopnldfjcciieaaGreatKCoT
import Derived.Test.YtopnldfjcciieaaGreatKCo4
import Derived.Test.YtopnldfjcciieaaGreatKCo5
import Derived.Test.YtopnldfjcciieaaGreatKCo11
import Derived.Test.YtopnldfjcciieaaGreatKCo14
import Derived.Test.YtopnldfjcciieaaGreatKCo9
set_option linter.unusedVariables false
set_option linter.unusedSimpArgs false
set_option maxRecDepth 100000
set_option maxHeartbeats 4000000
namespace Go.Proofs.YtopnldfjcciieaaGreat
open Go.RowKit
theorem c_bits_Mul64 {Z:World} {ρ:PH} {L:List bP} {w:World} (E:Int) (D:Int) (B:Hp Z ρ (L) w) (r:(Int×Int)) (C:Z5 E D=some r):
  Calls Tryz.prog 95 #[(.int .u64 E),(.int .u64 D)] w (Ret fun v w'=>v= .tuple #[(.int .u64 r.1),(.int .u64 r.2)]∧Hp Z ρ (L) w'):=by
 refine enter (N:=51) Tryz.func95 O O [(0,(.int .u64 E)),(1,(.int .u64 D))] O (bC ⟨O,O,tv⟩) fun a A=>?_
 unfold Z5 at C
 refine aG (aC ?_)
 refine S A 2 O fun a A=>aA (aG ?_)
 refine aC (S A 1 O fun a A=>?_)
 refine V A B O (v:=(.int .u64 (andK .u64 E 4294967295))) (ex_and O A O O) fun a A=>S A 1 O fun a A=>aA (aG ?_)
 refine aC (S A 1 O fun a A=>?_)
 obtain⟨F,Q,C⟩:=bnd C
 refine V A B O (v:=(.int .u64 F)) (Z4 O A O O Q) fun a A=>S A 1 O fun a A=>aA (aG ?_)
 refine aC (S A 1 O fun a A=>?_)
 refine V A B O (v:=(.int .u64 (andK .u64 D 4294967295))) (ex_and O A O O) fun a A=>S A 1 O fun a A=>aA (aG ?_)
 refine aC (S A 1 O fun a A=>?_)
 obtain⟨H,M,C⟩:=bnd C
 refine V A B O (v:=(.int .u64 H)) (Z4 O A O O M) fun a A=>S A 1 O fun a A=>aA (aG ?_)
 refine aC (S A 2 O fun a A=>?_)
 refine V A B O (aB7 O A O O O) fun a A=>S A 1 O fun a A=>aA (aG ?_)
 refine aC (S A 2 O fun a A=>?_)
 refine V A B O (aB7 O A O O O) fun a A=>S A 1 O fun a A=>?_
 obtain⟨G,K,C⟩:=bnd C
 refine V A B O (v:=(.int .u64 G)) (Z4 O A O O K) fun a A=>V A B O (bI O A O O O) fun a A=>S A 1 O fun a A=>aA ?_
 have A:=A.cut (E':=[(0,(.int .u64 E)),(1,(.int .u64 D)),(6,(.int .u64 (andK .u64 E 4294967295))),(7,(.int .u64 F)),(9,(.int .u64 H)),(11,(.int .u64 (IntKind.wrap .u64 ((IntKind.wrap .u64 (F*(andK .u64 D 4294967295)))+G))))]) ⟨O,O,O,O,O,O,tv⟩
 refine aG (aC ?_)
 refine S A 1 O fun a A=>V A B O (v:=(.int .u64 (andK .u64 (IntKind.wrap .u64 ((IntKind.wrap .u64 (F*(andK .u64 D 4294967295)))+G)) 4294967295))) (ex_and O A O O) fun a A=>S A 1 O fun a A=>aA (aG ?_)
 refine aC (S A 1 O fun a A=>?_)
 obtain⟨T,J,C⟩:=bnd C
 refine V A B O (v:=(.int .u64 T)) (Z4 O A O O J) fun a A=>S A 1 O fun a A=>aA (aG ?_)
 refine aC (S A 3 O fun a A=>?_)
 refine V A B O (aB7 O A O O O) fun a A=>V A B O (bI O A O O O) fun a A=>S A 1 O fun a A=>aA (aG ?_)
 refine aC (S A 2 O fun a A=>?_)
 refine V A B O (aB7 O A O O O) fun a A=>S A 1 O fun a A=>V A B O (bI O A O O O) fun a A=>S A 1 O fun a A=>?_
 obtain⟨R,I,C⟩:=bnd C
 refine V A B O (v:=(.int .u64 R)) (Z4 O A O O I) fun a A=>V A B O (bI O A O O O) fun a A=>S A 1 O fun a A=>aA ?_
 have A:=A.cut (E':=[(0,(.int .u64 E)),(1,(.int .u64 D)),(4,(.int .u64 (IntKind.wrap .u64 ((IntKind.wrap .u64 ((IntKind.wrap .u64 (F*H))+T))+R))))]) ⟨O,O,O,tv⟩
 refine aG (aC ?_)
 refine S A 2 O fun a A=>V A B O (aB7 O A O O O) fun a A=>S A 1 O fun a A=>aA (dF ?_)
 obtain rfl:=oj C
 exact yQ A O O O ⟨_,O,O,B⟩
theorem c_bits_Mul {Z:World} {ρ:PH} {L:List bP} {w:World} (D:Int) (C:Int) (B:Hp Z ρ (L) w) (r:(Int×Int)) (E:aE9 D C=some r):
  Calls Tryz.prog 70 #[(.int .u64 D),(.int .u64 C)] w (Ret fun v w'=>v= .tuple #[(.int .u64 r.1),(.int .u64 r.2)]∧Hp Z ρ (L) w'):=by
 refine enter (N:=30) Tryz.func70 O O [(0,(.int .u64 D)),(1,(.int .u64 C))] O (bC ⟨O,O,tv⟩) fun a A=>?_
 unfold aE9 at E
 refine aG (aC ?_)
 refine S A 2 O fun a A=>aA (aG ?_)
 refine dJ A O (fun hb=>absurd hb (by decide)) (fun hb=>?_)
 refine bD (aG ?_)
 refine aC (S A 2 O fun a A=>?_)
 obtain⟨G,F,E⟩:=bnd E
 refine Cl A O O ent95 (c_bits_Mul64 D C B G F) ⟨O,O,tv⟩ fun v a w H A=>?_
 obtain⟨rfl,B⟩:=H
 have B:=r0 B
 refine S A 5 O fun a A=>aA (aG ?_)
 refine aC (S A 4 O fun a A=>?_)
 refine aA (dF ?_)
 obtain rfl:=oj E
 exact yQ A O O O ⟨_,O,O,B⟩
theorem kD {Z:World} {ρ:PH} {L:List bP} {w:World} (R:(List Int)) (vp0:Value) (hp0:aH ρ vp0 R) (K:Int) (B:Hp Z ρ (L) w) (r:(List Int)) (E:oG R K=some r):
  Calls Tryz.prog 50 #[vp0,(Iv K)] w (Ret fun v w'=>∃(vr1:Value),v=vr1∧Hp Z ρ (aF 3 vr1 r::L) w'):=by
 refine enter (N:=48) Tryz.func50 O O [(0,vp0),(1,(Iv K))] O (bC ⟨O,O,tv⟩) fun a A=>?_
 unfold oG at E
 refine aG (aC ?_)
 refine S A 1 O fun a A=>aA (aG ?_)
 refine aG (aC ?_)
 refine S A 2 O fun a A=>aA ?_
 obtain⟨j1,hj1,E⟩:=bnd E
 refine k_cut (fun a w=>Env 48 [(0,vp0),(1,(Iv K))] a∧Hp Z ρ (L) w) ?_ ?_
 ·
  refine dJ A O (fun J=>?_) (fun J=>?_)
  ·replace hj1:=(it J).symm.trans hj1
   refine aC ?_
   cases hj1
  replace hj1:=(ie J).symm.trans hj1
  refine bD ?_
  obtain rfl:=oj hj1
  exact⟨A.cut ⟨O,O,tv⟩,B⟩
 rintro a w ⟨A,B⟩
 refine aG (aC ?_)
 refine S A 1 O fun a A=>V A B O (dB O A O (aH.len hp0 bJ)) fun a A=>V A B O (v:=(.int .u64 (IntKind.wrap .u64 (R.length:Int)))) (xU O A O (fun w _=>by simp[convert,Conv.intToInt,go_sem])) fun a A=>S A 1 O fun a A=>V A B O (v:=(.int .u64 (IntKind.wrap .u64 K))) (xU O A O (fun w _=>by simp[convert,Conv.intToInt,go_sem])) fun a A=>?_
 obtain⟨G,Y,E⟩:=bnd E
 refine Cl A O O ent70 (c_bits_Mul (IntKind.wrap .u64 (R.length:Int)) (IntKind.wrap .u64 K) B G Y) ⟨O,O,tv⟩ fun v a w f A=>?_
 obtain⟨rfl,B⟩:=f
 have B:=r0 B
 refine S A 5 O fun a A=>aA (aG ?_)
 refine aG (aC ?_)
 refine S A 3 O fun a A=>?_
 refine jH [_,_,_] (fun a w=>Env 48 [(26,(.bool ((decide (0<G.1))||(decide (9223372036854775807<G.2))))),(0,vp0),(6,(.int .u64 G.2))] a∧Hp Z ρ (L) w) ?_ ?_
 ·rcases uW (decide (0<G.1)) with D|D
  ·
   refine Gk A D O fun a A=>Gk A D O fun a A=>pk1 A D O O O O fun a A=>?_
   have A:=A.eqv (v':=(.bool ((decide (0<G.1))||(decide (9223372036854775807<G.2))))) (by rw[D];rfl)
   exact aA ⟨A.cut ⟨O,O,O,tv⟩,B⟩
  refine Gs A D O O fun a A=>Gs A D O O fun a A=>pk0 A D O O O O fun a A=>?_
  have A:=A.eqv (v':=(.bool ((decide (0<G.1))||(decide (9223372036854775807<G.2))))) (by rw[D];rfl)
  exact aA ⟨A.cut ⟨O,O,O,tv⟩,B⟩
 rintro a w ⟨A,B⟩
 refine aA ?_
 obtain⟨j2,hj2,E⟩:=bnd E
 refine k_cut (fun a w=>Env 48 [(0,vp0),(6,(.int .u64 G.2))] a∧Hp Z ρ (L) w) ?_ ?_
 ·
  refine dJ A O (fun I=>?_) (fun I=>?_)
  ·replace hj2:=(it I).symm.trans hj2
   refine aC ?_
   cases hj2
  replace hj2:=(ie I).symm.trans hj2
  refine bD ?_
  obtain rfl:=oj hj2
  exact⟨A.cut ⟨O,O,tv⟩,B⟩
 rintro a w ⟨A,B⟩
 refine aG (aC ?_)
 refine S A 1 O fun a A=>?_
 obtain⟨e,X,E⟩:=bnd E
 refine V A B O (v:=(Iv e)) (xU O A O (fun w _=>by rw[←aO X];simp[convert,Conv.intToInt,go_sem])) fun a A=>?_
 obtain⟨x3,W,E⟩:=bnd E
 refine s_make (wk0 O) O O A B O (El:=3) (bytes:=8) kr (0:Int) kr kr O O W ?_
 intro v1 a w A B
 have B:=r1 B
 refine S A 1 O fun a A=>aA (aG ?_)
 refine aC (S A 2 O fun a A=>?_)
 refine s_copy (wk0 O) O O A B O bJ O 0 O O hp0 ?_
 intro a w A B
 have B:=r1 B
 refine S A 1 O fun a A=>aA (aG ?_)
 obtain⟨b1,T,E⟩:=bnd E
 refine dQ (fun a w=>Env 48 [(7,v1)] a∧Hp Z ρ (aF 3 v1 b1::L) w) ?_ ?_
 ·refine fK T (fun s a w=>Env 48 [(7,v1),(8,(Iv s.1))] a∧Hp Z ρ (aF 3 v1 s.2::L) w) ?_ ?_
  ·exact⟨A.cut ⟨O,O,tv⟩,B⟩
  rintro⟨aT,aU⟩ st a w ⟨A,B⟩ C
  dsimp only at A B C
  unfold uD at C
  refine aG (aG ?_)
  refine aC (S A 2 O fun a A=>?_)
  refine V A B O (dB O A O (aF.len B 0 O bJ)) fun a A=>S A 1 O fun a A=>aA ?_
  refine dJ A O (fun H=>?_) (fun H=>?_)
  ·replace C:=(it H).symm.trans C
   refine bD (dS ?_)
   obtain⟨d,Q,C⟩:=bnd C
   obtain⟨c,M,C⟩:=bnd C
   obtain⟨b,U,C⟩:=bnd C
   have B:=B.drew
   refine iC ([([],At0 Z ρ)]:Facts) (fun a w=>Env 48 [(7,v1),(8,(Iv b))] a∧Hp Z ρ (aF 3 v1 (aU.take aT.toNat++cpy d c)::L) w) kr ⟨fun _=>⟨_,B⟩,tv⟩ (fun F=>?_) ?_
   ·
    generalize w.drew=w at F B⊢
    refine Ts [0,1,2] A F O O kr fun a A F=>?_
    obtain⟨v4,v4r⟩:=aF.view B 0 O bJ (some (.i64,aT)) none O O Q
    refine T0 3 A F O O O kr (v:=v4) (fun _=>fM O A O (some (.i64,aT)) none (by exact O) (by exact trivial) v4r) fun a A F=>Ts [4,5] A F O O kr fun a A F=>?_
    obtain⟨v5,v5r⟩:=aF.view B 0 O bJ none (some (.i64,aT)) O O M
    refine T0 6 A F O O O kr (v:=v5) (fun _=>fM O A O none (some (.i64,aT)) (by exact trivial) (by exact O) v5r) fun a A F=>?_
    refine W1 7 kr O ?_
    refine s_copyVV (wk0 O) O O A B O bJ 0 O O O (.i64,aT) none (some (.i64,aT)) O O Q v4r M v5r ?_
    intro a w A B
    have B:=r1 B
    refine aA (aB ⟨gp0 B,tv⟩ fun F=>?_)
    refine T0 8 A F O O O kr (fun _=>bI O A O O (aO U)) fun a A F=>Ts [9] A F O O kr fun a A F=>?_
    exact aZ kr ⟨A.cut ⟨O,O,tv⟩,B⟩
   rintro a w ⟨A,B⟩
   exact⟨_,(oj C).symm,A.cut ⟨O,O,tv⟩,B⟩
  replace C:=(ie H).symm.trans C
  refine eU ?_
  refine⟨_,(oj C).symm,fun hbb=>?_⟩
  subst hbb
  exact⟨A.cut ⟨O,tv⟩,B⟩
 rintro a w ⟨A,B⟩
 refine aG (aC ?_)
 refine S A 2 O fun a A=>aA (dF ?_)
 obtain rfl:=oj E
 exact iK A O O ⟨_,O,_,O,B⟩
theorem c_align_Align {Z:World} {ρ:PH} {L:List bP} {w:World} (F:Node) (aI:Value) (bG:aH ρ aI F.kids) (E:Node) (aN:Value) (bT:aH ρ aN E.kids) (B:Hp Z ρ (L) w) (r:((List Opn)×Int)) (M:U1 F E=some r):
  Calls Tryz.prog 21 #[(.agg #[(Iv F.kind),(.string F.text),(Iv F.at_),(Iv F.fin),aI]),(.agg #[(Iv E.kind),(.string E.text),(Iv E.at_),(Iv E.fin),aN])] w (Ret fun v w'=>∃(vr1:Value),v= .tuple #[vr1,(Iv r.2)]∧Hp Z ρ (aF 46 vr1 r.1::L) w'):=by
 refine enter (N:=130) Tryz.func21 O O [(0,(.agg #[(Iv F.kind),(.string F.text),(Iv F.at_),(Iv F.fin),aI])),(1,(.agg #[(Iv E.kind),(.string E.text),(Iv E.at_),(Iv E.fin),aN]))] O (bC ⟨O,O,tv⟩) fun a A=>?_
 unfold U1 at M
 refine aG (aC ?_)
 refine jD (wk0 O) O O A B O (v:=(.agg #[(Iv F.kind),(.string F.text),(Iv F.at_),(Iv F.fin),aI])) O ?_
 intro a w b1 A B
 have B:=r1 B
 refine jD (wk0 O) O O A B O (v:=(.agg #[(Iv E.kind),(.string E.text),(Iv E.at_),(Iv E.fin),aN])) O ?_
 intro a w b2 A B
 have B:=r2 B
 refine S A 2 O fun a A=>aA (aG ?_)
 refine aC (V A B O (aK O A O (fun w U=>aV (cs:=[(Iv F.kind),(.string F.text),(Iv F.at_),(Iv F.fin),aI]) dC (Hp.cN 1 O 0 _ (aS O) w U))) fun a A=>?_)
 refine V A B O (aK O A O (fun w U=>aV (cs:=[(Iv E.kind),(.string E.text),(Iv E.at_),(Iv E.fin),aN]) dC (Hp.cN 0 O 0 _ (aS O) w U))) fun a A=>?_
 obtain⟨i,ex1,M⟩:=bnd M
 refine Cl A O O ent48 (aE2 F aI bG E aN bT B i ex1) ⟨O,O,tv⟩ fun v a w R A=>?_
 obtain⟨vr1,usr1,rfl,B⟩:=R
 have B:=r3 B
 refine S A 5 O fun a A=>aA (aG ?_)
 refine aG (aC ?_)
 refine S A 2 O fun a A=>aA ?_
 refine dJ A O (fun d=>?_) (fun d=>?_)
 ·replace M:=(it d).symm.trans M
  refine aG (aC ?_)
  refine S A 3 O fun a A=>aA (dF ?_)
  have B:=B.emp (aF.nil (α:=Opn) 46)
  have B:=r4 B
  obtain rfl:=oj M
  exact yQ A O O O ⟨_,O,_,O,((((((B.get 3 O).drop).get 2 O).drop).get 1 O).drop)⟩
 replace M:=(ie d).symm.trans M
 refine bD (aG ?_)
 obtain⟨X,ex2,M⟩:=bnd M
 obtain⟨W,ex3,M⟩:=bnd M
 have B:=B.drew
 refine iC ([([],At0 Z ρ),([],At1 Z ρ (Pt b2 (.cells #[(Iv E.kind),(.string E.text),(Iv E.at_),(Iv E.fin),aN] 24 (0,0)))),([],At1 Z ρ (Pt b1 (.cells #[(Iv F.kind),(.string F.text),(Iv F.at_),(Iv F.fin),aI] 24 (0,0))))]:Facts) (fun a w=>∃ρy1:PH,∃y6:Nat,∃yv1:Value,∃yv2:Value,∃yv3:Value,∃yv4:Value,∃yv5:Value,∃yv6:Value,ρ.le ρy1∧aH ρy1 yv1 X.nodes∧aH ρy1 yv2 X.sizes∧aH ρy1 yv3 X.parent∧aH ρy1 yv4 W.nodes∧aH ρy1 yv5 W.sizes∧aH ρy1 yv6 W.parent∧Env 130 [(8,(Pv y6 0))] a∧Hp Z ρy1 (Pt y6 (.cells #[yv1,yv2,yv3,yv4,yv5,yv6,N0,N0,N0,N0,vr1,N0,N0] 88 (0,0))::bY 73 3 vr1 usr1 (i.1:(List (List Int)))::Pt b2 (.cells #[(Iv E.kind),(.string E.text),(Iv E.at_),(Iv E.fin),aN] 24 (0,0))::Pt b1 (.cells #[(Iv F.kind),(.string F.text),(Iv F.at_),(Iv F.fin),aI] 24 (0,0))::L) w) kr ⟨fun _=>⟨_,B⟩,fun _=>⟨_,(B.get 1 O)⟩,fun _=>⟨_,(B.get 2 O)⟩,tv⟩ (fun C=>?_) ?_
 ·
  generalize w.drew=w at C B⊢
  refine T 0 2 A C O O O kr (fun _=>aK O A O (fun w U=>aV (cs:=[(Iv F.kind),(.string F.text),(Iv F.at_),(Iv F.fin),aI]) dC (Hp.cN 0 O 0 _ (aS O) w U))) fun a A C=>T 2 1 A C O O O kr (fun _=>aK O A O (fun w U=>aV (cs:=[(Iv E.kind),(.string E.text),(Iv E.at_),(Iv E.fin),aN]) dC (Hp.cN 0 O 0 _ (aS O) w U))) fun a A C=>Ts [4] A C O O kr fun a A C=>?_
  refine W1 1 kr O ?_
  refine Cl A O O kE (bH F aI bG B X ex2) ⟨O,tv⟩ fun v a w R A=>?_
  obtain⟨ρ3,sO,sQ,qE,J,rfl,nR,nS,lS,B⟩:=R
  have B:=r3 B
  refine aA (aB ⟨fun _=>⟨_,(B.less J)⟩,fun _=>⟨_,((B.get 1 O).less J)⟩,fun _=>⟨_,((B.get 2 O).less J)⟩,tv⟩ fun C=>?_)
  refine W1 3 kr O ?_
  refine Cl A O O kE (bH E aN (aH.mono bT J) B W ex3) ⟨O,tv⟩ fun v a w R A=>?_
  obtain⟨ρ4,wB,wC,tZ,I,rfl,rX,rY,qA,B⟩:=R
  have B:=r3 B
  refine aA (aB ⟨fun _=>⟨_,((B.less I).less J)⟩,fun _=>⟨_,(((B.get 1 O).less I).less J)⟩,fun _=>⟨_,(((B.get 2 O).less I).less J)⟩,tv⟩ fun C=>?_)
  refine T0 5 A C O O O kr (v:=(.agg #[sO,sQ,qE,wB,wC,tZ,N0,N0,N0,N0,vr1,N0,N0])) (fun _=>mJ O A [(0,(.agg #[sO,sQ,qE])),(1,(.agg #[wB,wC,tZ])),(6,vr1)] (by exact⟨⟨O,O⟩,⟨O,O⟩,⟨O,O⟩,tv⟩) (fun w=>by have y:=aH.cells (aH.mono nR I);simp only[Value.cells] at y;have d:=aH.cells (aH.mono nS I);simp only[Value.cells] at d;have g:=aH.cells (aH.mono lS I);simp only[Value.cells] at g;have c:=aH.cells rX;simp only[Value.cells] at c;have f:=aH.cells rY;simp only[Value.cells] at f;have b:=aH.cells qA;simp only[Value.cells] at b;have Y:=bY.cells B 0 rfl;simp only[Value.cells] at Y;simp[Instr.build,Instr.fill,Value.cells,y,d,g,c,f,b,Y,go_sem])) fun a A C=>?_
  refine W1 6 kr O ?_
  refine jD (wk0 O) O O A B O (v:=(.agg #[sO,sQ,qE,wB,wC,tZ,N0,N0,N0,N0,vr1,N0,N0])) O ?_
  intro a w b4 A B
  have B:=r4 B
  refine aA (aB ⟨fun _=>⟨_,((B.less I).less J)⟩,fun _=>⟨_,(((B.get 2 O).less I).less J)⟩,fun _=>⟨_,(((B.get 3 O).less I).less J)⟩,tv⟩ fun C=>?_)
  refine Ts [7] A C O O kr fun a A C=>?_
  exact aZ kr ⟨ρ4,_,_,_,_,_,_,_,(PH.le.tr J I),(aH.mono nR I),(aH.mono nS I),(aH.mono lS I),rX,rY,qA,A.cut ⟨O,tv⟩,B⟩
 rintro a w ⟨ρy1,y6,yv1,yv2,yv3,yv4,yv5,yv6,hley1,yh1,yh2,yh3,yh4,yh5,yh6,A,B⟩
 refine aG (aC ?_)
 refine S A 4 O fun a A=>V A B O (xf A fldty88_0 O O) fun a A=>V A B O (aK O A O (fun w U=>aV (cs:=[yv1,yv2,yv3]) dD (Hp.cN 0 O 0 _ (aS O) w U))) fun a A=>?_
 obtain⟨x,ex4,M⟩:=bnd M
 refine Cl A O O ent49 (yE X yv1 yh1 yv2 yh2 yv3 yh3 B x ex4) ⟨O,tv⟩ fun v a w R A=>?_
 obtain⟨ρ5,vr7,vr8,G,rfl,hr7,hr8,B⟩:=R
 have B:=r4 B
 refine S A 4 O fun a A=>V A B O (xf A F5 O O) fun a A=>?_
 refine bQ (wk0 O) O A B O O O 0 O aW.size_ (aH.cells hr7) (aH.one hr7) O [yv1,yv2,yv3,yv4,yv5,yv6,vr7,N0,N0,N0,vr1,N0,N0] O ?_
 intro w B
 have B:=r4 B
 refine S A 1 O fun a A=>V A B O (xf A yK O O) fun a A=>?_
 refine bQ (wk0 O) O A B O O O 0 O aW.size_ (aH.cells hr8) (aH.one hr8) O [yv1,yv2,yv3,yv4,yv5,yv6,vr7,vr8,N0,N0,vr1,N0,N0] O ?_
 intro w B
 have B:=r4 B
 refine aA (aG ?_)
 refine aC (S A 4 O fun a A=>?_)
 refine V A B O (xf A fldty88_1 O O) fun a A=>V A B O (aK O A O (fun w U=>aV (cs:=[yv4,yv5,yv6]) dD (Hp.cN 0 O 3 _ (aS O) w U))) fun a A=>?_
 obtain⟨t,ex5,M⟩:=bnd M
 refine Cl A O O ent49 (yE W yv4 (aH.mono yh4 G) yv5 (aH.mono yh5 G) yv6 (aH.mono yh6 G) B t ex5) ⟨O,tv⟩ fun v a w R A=>?_
 obtain⟨ρ6,vr9,vr10,D,rfl,hr9,hr10,B⟩:=R
 have B:=r4 B
 refine S A 4 O fun a A=>V A B O (xf A F6 O O) fun a A=>?_
 refine bQ (wk0 O) O A B O O O 0 O aW.size_ (aH.cells hr9) (aH.one hr9) O [yv1,yv2,yv3,yv4,yv5,yv6,vr7,vr8,vr9,N0,vr1,N0,N0] O ?_
 intro w B
 have B:=r4 B
 refine S A 1 O fun a A=>V A B O (xf A yL O O) fun a A=>?_
 refine bQ (wk0 O) O A B O O O 0 O aW.size_ (aH.cells hr10) (aH.one hr10) O [yv1,yv2,yv3,yv4,yv5,yv6,vr7,vr8,vr9,vr10,vr1,N0,N0] O ?_
 intro w B
 have B:=r4 B
 refine aA ?_
 have A:=A.cut (E':=[(8,(Pv y6 0))]) ⟨O,tv⟩
 refine aG ?_
 obtain⟨q,o,M⟩:=bnd M
 obtain⟨p,m,M⟩:=bnd M
 have B:=B.drew
 refine iC ([([],At0 Z ρ6),([20,23],At1 Z ρ6 (Pt y6 (.cells #[yv1,yv2,yv3,yv4,yv5,yv6,vr7,vr8,vr9,vr10,vr1,N0,N0] 88 (0,0))))]:Facts) (fun a w=>∃y9:Nat,∃y10:Value,∃y7:Nat,∃y8:Value,Env 130 [(8,(Pv y6 0))] a∧Hp Z ρ6 (aF 3 (.slice (some ⟨y9,0,none⟩) 1 1) ([(-1)]:List Int)::aF 3 y10 p::aF 3 (.slice (some ⟨y7,0,none⟩) 1 1) ([(-1)]:List Int)::aF 3 y8 q::Pt y6 (.cells #[yv1,yv2,yv3,yv4,yv5,yv6,vr7,vr8,vr9,vr10,vr1,y8,y10] 88 (0,0))::bY 73 3 vr1 usr1 (i.1:(List (List Int)))::Pt b2 (.cells #[(Iv E.kind),(.string E.text),(Iv E.at_),(Iv E.fin),aN] 24 (0,0))::Pt b1 (.cells #[(Iv F.kind),(.string F.text),(Iv F.at_),(Iv F.fin),aI] 24 (0,0))::L) w) kr ⟨fun _=>⟨_,B⟩,fun _=>⟨_,(B.get 0 O)⟩,tv⟩ (fun C=>?_) ?_
 ·
  generalize w.drew=w at C B⊢
  refine Ts [0,1,3,4] A C O O kr fun a A C=>T0 5 A C O O O kr (fun _=>xf A fldty88_0 O O) fun a A C=>T0 6 A C O O O kr (fun _=>xf A kW O O) fun a A C=>T 7 1 A C O O O kr (fun _=>xl A jR 0 O O O O) fun a A C=>T0 8 A C O O O kr (fun _=>dB O A O (aH.len (aH.mono (aH.mono yh1 G) D) kK)) fun a A C=>Ts [11,12] A C O O kr fun a A C=>T0 13 A C O O O kr (fun _=>xf A fldty88_1 O O) fun a A C=>T0 14 A C O O O kr (fun _=>xf A kW O O) fun a A C=>T 15 1 A C O O O kr (fun _=>xl A jR 0 O O O O) fun a A C=>T0 16 A C O O O kr (fun _=>dB O A O (aH.len (aH.mono (aH.mono yh4 G) D) kK)) fun a A C=>?_
  refine dY [2,10] kr O ?_
  refine uE.2 ⟨?_,uE.2 ⟨?_,fun _ h=>absurd h (by simp)⟩⟩
  ·
   refine bW O ?_
   refine dR (wk0 O) O O A B O [(0,(Iv (-1)))] ⟨⟨O,O⟩,tv⟩ [(Iv (-1))] 3 (fun w=>by simp[Instr.buildSlice,Instr.fill,Value.cells,go_sem]) ?_
   intro a w b7 A B
   have B:=r5 B
   refine aA (aB ⟨gp0 B,gp 1 B O,tv⟩ fun C=>?_)
   refine dY [9,10] kr O ?_
   refine uE.2 ⟨?_,uE.2 ⟨?_,fun _ h=>absurd h (by simp)⟩⟩
   ·
    refine bW O ?_
    have B:=(B.get 0 O).imp (dK (l:=(([(-1)]:List Int):List Int)) (n:=1) O (by decide) O)
    have B:=r5 B
    obtain⟨k3,k3a,k3d,k3h⟩:=(B.get 0 O).lend
    refine s_call (wk0 O) O O A O [(.slice (some ⟨b7,0,none⟩) 1 1),(Iv (X.nodes.length:Int))] ⟨O,O,tv⟩ ent50 (kD ([(-1)]:List Int) (.slice (some ⟨b7,0,none⟩) 1 1) (aF.ro k3d k3a) (X.nodes.length:Int) k3h q o) Ret.ret ?_
    intro vr13 a w R A
    obtain⟨u,rfl,B⟩:=Ret.of R
    have B:=Hp.back k3a k3d B
    have B:=r6 B
    refine aA (aB ⟨gp0 B,gp 2 B O,tv⟩ fun C=>?_)
    refine W1 10 kr O ?_
    refine dR (wk0 O) O O A B O [(0,(Iv (-1)))] ⟨⟨O,O⟩,tv⟩ [(Iv (-1))] 3 (fun w=>by simp[Instr.buildSlice,Instr.fill,Value.cells,go_sem]) ?_
    intro a w b8 A B
    have B:=r7 B
    refine aA (aB ⟨gp0 B,gp 3 B O,tv⟩ fun C=>?_)
    refine W1 17 kr O ?_
    have B:=(B.get 0 O).imp (dK (l:=(([(-1)]:List Int):List Int)) (n:=1) O (by decide) O)
    have B:=r7 B
    obtain⟨k4,k4a,k4d,k4h⟩:=(B.get 0 O).lend
    refine s_call (wk0 O) O O A O [(.slice (some ⟨b8,0,none⟩) 1 1),(Iv (W.nodes.length:Int))] ⟨O,O,tv⟩ ent50 (kD ([(-1)]:List Int) (.slice (some ⟨b8,0,none⟩) 1 1) (aF.ro k4d k4a) (W.nodes.length:Int) k4h p m) Ret.ret ?_
    intro vr14 a w R A
    obtain⟨u,rfl,B⟩:=Ret.of R
    have B:=Hp.back k4a k4d B
    have B:=r8 B
    refine aA (aB ⟨gp0 B,gp 4 B O,tv⟩ fun C=>?_)
    refine Ts [18] A C O O kr fun a A C=>T0 19 A C O O O kr (fun _=>xf A V5 O O) fun a A C=>?_
    refine W1 20 kr O ?_
    refine bQ (wk0 O) O A B O O O 4 O aW.size_ (aF.cells B 3 O) (aF.one B 3 O) O [yv1,yv2,yv3,yv4,yv5,yv6,vr7,vr8,vr9,vr10,vr1,vr13,N0] O ?_
    intro w B
    have B:=r8 B
    refine aA (aB ⟨gp0 B,dead kr,tv⟩ fun C=>?_)
    refine Ts [21] A C O O kr fun a A C=>T0 22 A C O O O kr (fun _=>xf A V6 O O) fun a A C=>?_
    refine W1 23 kr O ?_
    refine bQ (wk0 O) O A B O O O 4 O aW.size_ (aF.cells B 1 O) (aF.one B 1 O) O [yv1,yv2,yv3,yv4,yv5,yv6,vr7,vr8,vr9,vr10,vr1,vr13,vr14] O ?_
    intro w B
    have B:=r8 B
    refine aA (aB ⟨gp0 B,dead kr,tv⟩ fun C=>?_)
    exact aZ kr ⟨_,_,_,_,A.cut ⟨O,tv⟩,B⟩
   refine bW O ?_
   refine dR (wk0 O) O O A B O [(0,(Iv (-1)))] ⟨⟨O,O⟩,tv⟩ [(Iv (-1))] 3 (fun w=>by simp[Instr.buildSlice,Instr.fill,Value.cells,go_sem]) ?_
   intro a w b9 A B
   have B:=r6 B
   refine aA (aB ⟨gp0 B,gp 2 B O,tv⟩ fun C=>?_)
   refine W1 9 kr O ?_
   have B:=(B.get 1 O).imp (dK (l:=(([(-1)]:List Int):List Int)) (n:=1) O (by decide) O)
   have B:=r6 B
   obtain⟨k5,k5a,k5d,k5h⟩:=(B.get 0 O).lend
   refine s_call (wk0 O) O O A O [(.slice (some ⟨b7,0,none⟩) 1 1),(Iv (X.nodes.length:Int))] ⟨O,O,tv⟩ ent50 (kD ([(-1)]:List Int) (.slice (some ⟨b7,0,none⟩) 1 1) (aF.ro k5d k5a) (X.nodes.length:Int) k5h q o) Ret.ret ?_
   intro vr15 a w R A
   obtain⟨u,rfl,B⟩:=Ret.of R
   have B:=Hp.back k5a k5d B
   have B:=r7 B
   refine aA (aB ⟨gp0 B,gp 3 B O,tv⟩ fun C=>?_)
   refine W1 17 kr O ?_
   have B:=(B.get 2 O).imp (dK (l:=(([(-1)]:List Int):List Int)) (n:=1) O (by decide) O)
   have B:=r7 B
   obtain⟨k6,k6a,k6d,k6h⟩:=(B.get 0 O).lend
   refine s_call (wk0 O) O O A O [(.slice (some ⟨b9,0,none⟩) 1 1),(Iv (W.nodes.length:Int))] ⟨O,O,tv⟩ ent50 (kD ([(-1)]:List Int) (.slice (some ⟨b9,0,none⟩) 1 1) (aF.ro k6d k6a) (W.nodes.length:Int) k6h p m) Ret.ret ?_
   intro vr16 a w R A
   obtain⟨u,rfl,B⟩:=Ret.of R
   have B:=Hp.back k6a k6d B
   have B:=r8 B
   refine aA (aB ⟨gp0 B,gp 4 B O,tv⟩ fun C=>?_)
   refine Ts [18] A C O O kr fun a A C=>T0 19 A C O O O kr (fun _=>xf A V5 O O) fun a A C=>?_
   refine W1 20 kr O ?_
   refine bQ (wk0 O) O A B O O O 4 O aW.size_ (aF.cells B 3 O) (aF.one B 3 O) O [yv1,yv2,yv3,yv4,yv5,yv6,vr7,vr8,vr9,vr10,vr1,vr15,N0] O ?_
   intro w B
   have B:=r8 B
   refine aA (aB ⟨gp0 B,dead kr,tv⟩ fun C=>?_)
   refine Ts [21] A C O O kr fun a A C=>T0 22 A C O O O kr (fun _=>xf A V6 O O) fun a A C=>?_
   refine W1 23 kr O ?_
   refine bQ (wk0 O) O A B O O O 4 O aW.size_ (aF.cells B 1 O) (aF.one B 1 O) O [yv1,yv2,yv3,yv4,yv5,yv6,vr7,vr8,vr9,vr10,vr1,vr15,vr16] O ?_
   intro w B
   have B:=r8 B
   refine aA (aB ⟨gp0 B,dead kr,tv⟩ fun C=>?_)
   exact aZ kr ⟨_,_,_,_,A.cut ⟨O,tv⟩,B⟩
  refine bW O ?_
  refine dR (wk0 O) O O A B O [(0,(Iv (-1)))] ⟨⟨O,O⟩,tv⟩ [(Iv (-1))] 3 (fun w=>by simp[Instr.buildSlice,Instr.fill,Value.cells,go_sem]) ?_
  intro a w b10 A B
  have B:=r5 B
  refine aA (aB ⟨gp0 B,gp 1 B O,tv⟩ fun C=>?_)
  refine W1 2 kr O ?_
  refine dR (wk0 O) O O A B O [(0,(Iv (-1)))] ⟨⟨O,O⟩,tv⟩ [(Iv (-1))] 3 (fun w=>by simp[Instr.buildSlice,Instr.fill,Value.cells,go_sem]) ?_
  intro a w b11 A B
  have B:=r6 B
  refine aA (aB ⟨gp0 B,gp 2 B O,tv⟩ fun C=>?_)
  refine W1 9 kr O ?_
  have B:=(B.get 0 O).imp (dK (l:=(([(-1)]:List Int):List Int)) (n:=1) O (by decide) O)
  have B:=r6 B
  obtain⟨k7,k7a,k7d,k7h⟩:=(B.get 0 O).lend
  refine s_call (wk0 O) O O A O [(.slice (some ⟨b11,0,none⟩) 1 1),(Iv (X.nodes.length:Int))] ⟨O,O,tv⟩ ent50 (kD ([(-1)]:List Int) (.slice (some ⟨b11,0,none⟩) 1 1) (aF.ro k7d k7a) (X.nodes.length:Int) k7h q o) Ret.ret ?_
  intro vr17 a w R A
  obtain⟨u,rfl,B⟩:=Ret.of R
  have B:=Hp.back k7a k7d B
  have B:=r7 B
  refine aA (aB ⟨gp0 B,gp 3 B O,tv⟩ fun C=>?_)
  refine W1 17 kr O ?_
  have B:=(B.get 2 O).imp (dK (l:=(([(-1)]:List Int):List Int)) (n:=1) O (by decide) O)
  have B:=r7 B
  obtain⟨k8,k8a,k8d,k8h⟩:=(B.get 0 O).lend
  refine s_call (wk0 O) O O A O [(.slice (some ⟨b10,0,none⟩) 1 1),(Iv (W.nodes.length:Int))] ⟨O,O,tv⟩ ent50 (kD ([(-1)]:List Int) (.slice (some ⟨b10,0,none⟩) 1 1) (aF.ro k8d k8a) (W.nodes.length:Int) k8h p m) Ret.ret ?_
  intro vr18 a w R A
  obtain⟨u,rfl,B⟩:=Ret.of R
  have B:=Hp.back k8a k8d B
  have B:=r8 B
  refine aA (aB ⟨gp0 B,gp 4 B O,tv⟩ fun C=>?_)
  refine Ts [18] A C O O kr fun a A C=>T0 19 A C O O O kr (fun _=>xf A V5 O O) fun a A C=>?_
  refine W1 20 kr O ?_
  refine bQ (wk0 O) O A B O O O 4 O aW.size_ (aF.cells B 3 O) (aF.one B 3 O) O [yv1,yv2,yv3,yv4,yv5,yv6,vr7,vr8,vr9,vr10,vr1,vr17,N0] O ?_
  intro w B
  have B:=r8 B
  refine aA (aB ⟨gp0 B,dead kr,tv⟩ fun C=>?_)
  refine Ts [21] A C O O kr fun a A C=>T0 22 A C O O O kr (fun _=>xf A V6 O O) fun a A C=>?_
  refine W1 23 kr O ?_
  refine bQ (wk0 O) O A B O O O 4 O aW.size_ (aF.cells B 1 O) (aF.one B 1 O) O [yv1,yv2,yv3,yv4,yv5,yv6,vr7,vr8,vr9,vr10,vr1,vr17,vr18] O ?_
  intro w B
  have B:=r8 B
  refine aA (aB ⟨gp0 B,dead kr,tv⟩ fun C=>?_)
  exact aZ kr ⟨_,_,_,_,A.cut ⟨O,tv⟩,B⟩
 rintro a w ⟨y9,y10,y7,y8,A,B⟩
 refine aG ?_
 obtain⟨x8,ex8,M⟩:=bnd M
 obtain⟨x9,z,M⟩:=bnd M
 obtain⟨K,k,M⟩:=bnd M
 have B:=B.drew
 refine iC ([([],At0 Z ρ6),([13],At1 Z ρ6 (Pt y6 (.cells #[yv1,yv2,yv3,yv4,yv5,yv6,vr7,vr8,vr9,vr10,vr1,y8,y10] 88 (0,0))))]:Facts) (fun a w=>∃ρy2:PH,∃y8:Value,∃y10:Value,∃yv7:Value,ρ6.le ρy2∧aH ρy2 yv7 i.1∧Env 130 [(8,(Pv y6 0))] a∧Hp Z ρy2 (Pt y6 (.cells #[yv1,yv2,yv3,yv4,yv5,yv6,vr7,vr8,vr9,vr10,yv7,y8,y10] 88 (0,0))::aF 3 y8 K.partner::aF 3 y10 K.back::aF 3 (.slice (some ⟨y9,0,none⟩) 1 1) ([(-1)]:List Int)::aF 3 (.slice (some ⟨y7,0,none⟩) 1 1) ([(-1)]:List Int)::Pt b2 (.cells #[(Iv E.kind),(.string E.text),(Iv E.at_),(Iv E.fin),aN] 24 (0,0))::Pt b1 (.cells #[(Iv F.kind),(.string F.text),(Iv F.at_),(Iv F.fin),aI] 24 (0,0))::L) w) kr ⟨fun _=>⟨_,B⟩,fun _=>⟨_,(B.get 4 O)⟩,tv⟩ (fun C=>?_) ?_
 ·
  generalize w.drew=w at C B⊢
  refine Ts [0,1,2] A C O O kr fun a A C=>T0 3 A C O O O kr (fun _=>xf A F5 O O) fun a A C=>Ts [7,8] A C O O kr fun a A C=>T0 9 A C O O O kr (fun _=>xf A F6 O O) fun a A C=>?_
  refine dY [4,10] kr O ?_
  refine uE.2 ⟨?_,uE.2 ⟨?_,fun _ h=>absurd h (by simp)⟩⟩
  ·
   refine bW O ?_
   refine V A B O (xl A aW 4 O O O O) fun a A=>?_
   refine aA (aB ⟨gp0 B,gp 4 B O,tv⟩ fun C=>?_)
   refine T0 5 A C O O O kr (fun _=>dB O A O (aH.len (aH.mono hr7 D) bJ)) fun a A C=>T0 6 A C O O O kr (fun _=>dX O A O O (aO ex8)) fun a A C=>?_
   refine W1 10 kr O ?_
   refine V A B O (xl A aW 4 O O O O) fun a A=>?_
   refine aA (aB ⟨gp0 B,gp 4 B O,tv⟩ fun C=>?_)
   refine T0 11 A C O O O kr (fun _=>dB O A O (aH.len hr9 bJ)) fun a A C=>T0 12 A C O O O kr (fun _=>dX O A O O (aO z)) fun a A C=>?_
   refine W1 13 kr O ?_
   obtain⟨k10,k10a,k10d,B⟩:=(B.get 5 O).lend
   have f2:aH (ρ6.un k10) vr1 (i.1:(List (List Int))):=bY.ro k10d k10a
   have B:=r7 B
   refine Cl A O O ent51 (zB y6 (Alg.mk X W x.1 x.2 t.1 t.2 i.1 q p) yv1 (aH.mono (aH.mono (aH.mono yh1 G) D) (PH.le_un _ k10)) yv2 (aH.mono (aH.mono (aH.mono yh2 G) D) (PH.le_un _ k10)) yv3 (aH.mono (aH.mono (aH.mono yh3 G) D) (PH.le_un _ k10)) yv4 (aH.mono (aH.mono (aH.mono yh4 G) D) (PH.le_un _ k10)) yv5 (aH.mono (aH.mono (aH.mono yh5 G) D) (PH.le_un _ k10)) yv6 (aH.mono (aH.mono (aH.mono yh6 G) D) (PH.le_un _ k10)) vr7 (aH.mono (aH.mono hr7 D) (PH.le_un _ k10)) vr8 (aH.mono (aH.mono hr8 D) (PH.le_un _ k10)) vr9 (aH.mono hr9 (PH.le_un _ k10)) vr10 (aH.mono hr10 (PH.le_un _ k10)) vr1 f2 y8 y10 x8 x9 (((B.get 1 O).get 3 O).get 4 O) K k) ⟨O,O,O,tv⟩ fun v a w R A=>?_
   obtain⟨vz2_partner,vz2_back,rfl,B⟩:=R
   have B:=r7 B
   refine aA (aB ⟨fun _=>⟨_,(B.less (PH.le_un _ k10))⟩,dead kr,tv⟩ fun C=>?_)
   exact aZ kr ⟨(ρ6.un k10),_,_,_,(PH.le_un _ k10),f2,A.cut ⟨O,tv⟩,B⟩
  refine bW O ?_
  refine V A B O (xl A aW 4 O O O O) fun a A=>?_
  refine aA (aB ⟨gp0 B,gp 4 B O,tv⟩ fun C=>?_)
  refine T0 11 A C O O O kr (fun _=>dB O A O (aH.len hr9 bJ)) fun a A C=>T0 12 A C O O O kr (fun _=>dX O A O O (aO z)) fun a A C=>?_
  refine W1 4 kr O ?_
  refine V A B O (xl A aW 4 O O O O) fun a A=>?_
  refine aA (aB ⟨gp0 B,gp 4 B O,tv⟩ fun C=>?_)
  refine T0 5 A C O O O kr (fun _=>dB O A O (aH.len (aH.mono hr7 D) bJ)) fun a A C=>T0 6 A C O O O kr (fun _=>dX O A O O (aO ex8)) fun a A C=>?_
  refine W1 13 kr O ?_
  obtain⟨k11,k11a,k11d,B⟩:=(B.get 5 O).lend
  have f3:aH (ρ6.un k11) vr1 (i.1:(List (List Int))):=bY.ro k11d k11a
  have B:=r7 B
  refine Cl A O O ent51 (zB y6 (Alg.mk X W x.1 x.2 t.1 t.2 i.1 q p) yv1 (aH.mono (aH.mono (aH.mono yh1 G) D) (PH.le_un _ k11)) yv2 (aH.mono (aH.mono (aH.mono yh2 G) D) (PH.le_un _ k11)) yv3 (aH.mono (aH.mono (aH.mono yh3 G) D) (PH.le_un _ k11)) yv4 (aH.mono (aH.mono (aH.mono yh4 G) D) (PH.le_un _ k11)) yv5 (aH.mono (aH.mono (aH.mono yh5 G) D) (PH.le_un _ k11)) yv6 (aH.mono (aH.mono (aH.mono yh6 G) D) (PH.le_un _ k11)) vr7 (aH.mono (aH.mono hr7 D) (PH.le_un _ k11)) vr8 (aH.mono (aH.mono hr8 D) (PH.le_un _ k11)) vr9 (aH.mono hr9 (PH.le_un _ k11)) vr10 (aH.mono hr10 (PH.le_un _ k11)) vr1 f3 y8 y10 x8 x9 (((B.get 1 O).get 3 O).get 4 O) K k) ⟨O,O,O,tv⟩ fun v a w R A=>?_
  obtain⟨vz3_partner,vz3_back,rfl,B⟩:=R
  have B:=r7 B
  refine aA (aB ⟨fun _=>⟨_,(B.less (PH.le_un _ k11))⟩,dead kr,tv⟩ fun C=>?_)
  exact aZ kr ⟨(ρ6.un k11),_,_,_,(PH.le_un _ k11),f3,A.cut ⟨O,tv⟩,B⟩
 rintro a w ⟨ρy2,y8,y10,yv7,hley2,yh7,A,B⟩
 refine aG (aC ?_)
 refine S A 1 O fun a A=>aA (aG ?_)
 refine aG (aC ?_)
 refine S A 2 O fun a A=>V A B O (xf A V5 O O) fun a A=>V A B O (xl A aW 0 O O O O) fun a A=>V A B O (dB O A O (aF.len B 1 O bJ)) fun a A=>S A 1 O fun a A=>aA ?_
 have B:=B.emp (aF.nil (α:=Opn) 46)
 have B:=r8 B
 obtain⟨b12,g,M⟩:=bnd M
 refine dQ (fun a w=>∃(w13:Value),Env 130 [(8,(Pv y6 0)),(9,w13)] a∧Hp Z ρy2 (aF 46 w13 b12::Pt y6 (.cells #[yv1,yv2,yv3,yv4,yv5,yv6,vr7,vr8,vr9,vr10,yv7,y8,y10] 88 (0,0))::aF 3 y8 K.partner::aF 3 y10 K.back::aF 3 (.slice (some ⟨y9,0,none⟩) 1 1) ([(-1)]:List Int)::aF 3 (.slice (some ⟨y7,0,none⟩) 1 1) ([(-1)]:List Int)::Pt b2 (.cells #[(Iv E.kind),(.string E.text),(Iv E.at_),(Iv E.fin),aN] 24 (0,0))::Pt b1 (.cells #[(Iv F.kind),(.string F.text),(Iv F.at_),(Iv F.fin),aI] 24 (0,0))::L) w) ?_ ?_
 ·refine fK g (fun s a w=>∃(w13:Value),Env 130 [(8,(Pv y6 0)),(9,w13),(97,y8),(98,(Iv (K.partner.length:Int))),(99,(Iv s.1))] a∧Hp Z ρy2 (aF 46 w13 s.2::Pt y6 (.cells #[yv1,yv2,yv3,yv4,yv5,yv6,vr7,vr8,vr9,vr10,yv7,y8,y10] 88 (0,0))::aF 3 y8 K.partner::aF 3 y10 K.back::aF 3 (.slice (some ⟨y9,0,none⟩) 1 1) ([(-1)]:List Int)::aF 3 (.slice (some ⟨y7,0,none⟩) 1 1) ([(-1)]:List Int)::Pt b2 (.cells #[(Iv E.kind),(.string E.text),(Iv E.at_),(Iv E.fin),aN] 24 (0,0))::Pt b1 (.cells #[(Iv F.kind),(.string F.text),(Iv F.at_),(Iv F.fin),aI] 24 (0,0))::L) w) ?_ ?_
  ·exact⟨_,A.cut ⟨O,O,O,O,O,tv⟩,B⟩
  rintro⟨aT,aU⟩ st a w ⟨w13,A,B⟩ Q
  dsimp only at A B Q
  unfold Q4 at Q
  refine aG (aC ?_)
  refine S A 1 O fun a A=>aA (aG ?_)
  refine dJ A O (fun c=>?_) (fun c=>?_)
  ·replace Q:=(it c).symm.trans Q
   refine bD (aG ?_)
   refine dS (aG ?_)
   refine aC (S A 1 O fun a A=>?_)
   obtain⟨e,ex11,Q⟩:=bnd Q
   obtain⟨b13,b13o,b13r,b13v,b13f⟩:=aF.at B 2 O bJ ex11
   refine V A B O (aP O A O O b13r) fun a A=>V A B O (aK O A O (fun w U=>bF aY (b13f 0 _ O _ _ w (U.get 2 O)))) fun a A=>S A 2 O fun a A=>aA (aC ?_)
   refine S A 3 O fun a A=>V A B O (v:=(.agg #[(Iv aT),(Iv e)])) (mJ O A [(0,(Iv aT)),(1,(Iv e))] (by exact⟨⟨O,O⟩,⟨O,O⟩,tv⟩) (fun w=>by simp[Instr.build,Instr.fill,Value.cells,go_sem])) fun a A=>?_
   refine dR (wk0 O) O O A B O [(0,(.agg #[(Iv aT),(Iv e)]))] ⟨⟨O,O⟩,tv⟩ [(Iv aT),(Iv e)] 46 (fun w=>by simp[Instr.buildSlice,Instr.fill,Value.cells,go_sem]) ?_
   intro a w b14 A B
   have B:=r9 B
   obtain⟨x12,ex12,Q⟩:=bnd Q
   refine dL (wk0 O) O O A B O aJ O O 1 O O (l2:=[(Opn.mk aT e)]) O (fun j u hj=>by have:=Hp.cN 0 O 0 _ (aS O) w B j u hj;simpa using this) ex12 ?_
   intro v1 a w A B
   have B:=r9 B
   refine S A 1 O fun a A=>aA ?_
   have A:=A.cut (E':=[(8,(Pv y6 0)),(9,v1),(97,y8),(98,(Iv (K.partner.length:Int))),(99,(Iv aT))]) ⟨O,O,O,O,O,tv⟩
   refine aC ?_
   obtain⟨x13,ex13,Q⟩:=bnd Q
   refine V A B O (bI O A O O (aO ex13)) fun a A=>S A 1 O fun a A=>aA ?_
   exact⟨_,(oj Q).symm,_,A.cut ⟨O,O,O,O,O,tv⟩,(B.drop)⟩
  replace Q:=(ie c).symm.trans Q
  refine eU ?_
  refine⟨_,(oj Q).symm,fun hbb=>?_⟩
  subst hbb
  exact⟨_,A.cut ⟨O,O,tv⟩,B⟩
 rintro a w ⟨w13,A,B⟩
 refine aG (aG ?_)
 refine aC (S A 2 O fun a A=>?_)
 refine V A B O (xf A V6 O O) fun a A=>V A B O (xl A aW 1 O O O O) fun a A=>V A B O (dB O A O (aF.len B 3 O bJ)) fun a A=>S A 1 O fun a A=>aA ?_
 obtain⟨b15,f,M⟩:=bnd M
 refine dQ (fun a w=>∃(w13:Value),Env 130 [(9,w13)] a∧Hp Z ρy2 (aF 46 w13 b15::Pt y6 (.cells #[yv1,yv2,yv3,yv4,yv5,yv6,vr7,vr8,vr9,vr10,yv7,y8,y10] 88 (0,0))::aF 3 y8 K.partner::aF 3 y10 K.back::aF 3 (.slice (some ⟨y9,0,none⟩) 1 1) ([(-1)]:List Int)::aF 3 (.slice (some ⟨y7,0,none⟩) 1 1) ([(-1)]:List Int)::Pt b2 (.cells #[(Iv E.kind),(.string E.text),(Iv E.at_),(Iv E.fin),aN] 24 (0,0))::Pt b1 (.cells #[(Iv F.kind),(.string F.text),(Iv F.at_),(Iv F.fin),aI] 24 (0,0))::L) w) ?_ ?_
 ·refine fK f (fun s a w=>∃(w13:Value),Env 130 [(9,w13),(114,y10),(115,(Iv (K.back.length:Int))),(116,(Iv s.1))] a∧Hp Z ρy2 (aF 46 w13 s.2::Pt y6 (.cells #[yv1,yv2,yv3,yv4,yv5,yv6,vr7,vr8,vr9,vr10,yv7,y8,y10] 88 (0,0))::aF 3 y8 K.partner::aF 3 y10 K.back::aF 3 (.slice (some ⟨y9,0,none⟩) 1 1) ([(-1)]:List Int)::aF 3 (.slice (some ⟨y7,0,none⟩) 1 1) ([(-1)]:List Int)::Pt b2 (.cells #[(Iv E.kind),(.string E.text),(Iv E.at_),(Iv E.fin),aN] 24 (0,0))::Pt b1 (.cells #[(Iv F.kind),(.string F.text),(Iv F.at_),(Iv F.fin),aI] 24 (0,0))::L) w) ?_ ?_
  ·exact⟨_,A.cut ⟨O,O,O,O,tv⟩,B⟩
  rintro⟨bK,eG⟩ st a w ⟨w13,A,B⟩ H
  dsimp only at A B H
  unfold Q5 at H
  refine aG (aC ?_)
  refine S A 1 O fun a A=>aA (aG ?_)
  refine dJ A O (fun b=>?_) (fun b=>?_)
  ·replace H:=(it b).symm.trans H
   refine bD (aG ?_)
   refine dS (aG ?_)
   refine aC (S A 1 O fun a A=>?_)
   obtain⟨x14,ex14,H⟩:=bnd H
   obtain⟨b16,b16o,b16r,b16v,b16f⟩:=aF.at B 3 O bJ ex14
   refine V A B O (aP O A O O b16r) fun a A=>V A B O (aK O A O (fun w U=>bF aY (b16f 0 _ O _ _ w (U.get 3 O)))) fun a A=>S A 2 O fun a A=>aA (aG ?_)
   refine aC (S A 2 O fun a A=>?_)
   refine aA ?_
   refine dJ A O (fun Y=>?_) (fun Y=>?_)
   ·replace H:=(it Y).symm.trans H
    refine aC (S A 2 O fun a A=>?_)
    refine V A B O (v:=(.agg #[(Iv (-1)),(Iv bK)])) (mJ O A [(0,(Iv (-1))),(1,(Iv bK))] (by exact⟨⟨O,O⟩,⟨O,O⟩,tv⟩) (fun w=>by simp[Instr.build,Instr.fill,Value.cells,go_sem])) fun a A=>?_
    refine dR (wk0 O) O O A B O [(0,(.agg #[(Iv (-1)),(Iv bK)]))] ⟨⟨O,O⟩,tv⟩ [(Iv (-1)),(Iv bK)] 46 (fun w=>by simp[Instr.buildSlice,Instr.fill,Value.cells,go_sem]) ?_
    intro a w b17 A B
    have B:=r9 B
    obtain⟨x15,ex15,H⟩:=bnd H
    refine dL (wk0 O) O O A B O aJ O O 1 O O (l2:=[(Opn.mk (-1) bK)]) O (fun j u hj=>by have:=Hp.cN 0 O 0 _ (aS O) w B j u hj;simpa using this) ex15 ?_
    intro v2 a w A B
    have B:=r9 B
    refine S A 1 O fun a A=>aA (aC ?_)
    obtain⟨x16,ex16,H⟩:=bnd H
    refine V A B O (bI O A O O (aO ex16)) fun a A=>S A 1 O fun a A=>aA ?_
    exact⟨_,(oj H).symm,_,A.cut ⟨O,O,O,O,tv⟩,(B.drop)⟩
   replace H:=(ie Y).symm.trans H
   refine bD (aC ?_)
   obtain⟨x17,ex17,H⟩:=bnd H
   refine V A B O (bI O A O O (aO ex17)) fun a A=>S A 1 O fun a A=>aA ?_
   have A:=A.cut (E':=[(9,w13),(114,y10),(115,(Iv (K.back.length:Int))),(116,(Iv x17))]) ⟨O,O,O,O,tv⟩
   exact⟨_,(oj H).symm,_,A.cut ⟨O,O,O,O,tv⟩,B⟩
  replace H:=(ie b).symm.trans H
  refine eU ?_
  refine⟨_,(oj H).symm,fun hbb=>?_⟩
  subst hbb
  exact⟨_,A.cut ⟨O,tv⟩,B⟩
 rintro a w ⟨w13,A,B⟩
 refine aG (aC ?_)
 refine S A 3 O fun a A=>aA (dF ?_)
 obtain rfl:=oj M
 exact yQ A O O O ⟨_,O,_,O,((((((((((((((((((B.get 7 O).drop).get 6 O).drop).get 5 O).drop).get 4 O).drop).get 3 O).drop).get 2 O).drop).get 1 O).drop).less hley2).less D).less G).less hley1)⟩
end Go.Proofs.YtopnldfjcciieaaGreat

/- The code goes as its model: assessor/assessorref38.before, assessor/assessorref38.Sorted, assessor/assessorref38.Invert, assessor/assessorref38.Compose, assesso -/
import Derived.Test.YtopnldfjcciieaaGreatKCoT
import Derived.Test.YtopnldfjcciieaaGreatKCo4
import Derived.Test.YtopnldfjcciieaaGreatKCo5
set_option linter.unusedVariables false
set_option linter.unusedSimpArgs false
set_option maxRecDepth 100000
set_option maxHeartbeats 4000000
namespace Go.Proofs.YtopnldfjcciieaaGreat
open Go.RowKit
theorem Y6 {Z:World} {ρ:PH} {L:List bP} {w:World} (F:Opn) (E:Opn) (B:Hp Z ρ (L) w) (r:Bool) (I:mW F E=some r):
  Calls Tryz.prog 86 #[(.agg #[(Iv F.a),(Iv F.b)]),(.agg #[(Iv E.a),(Iv E.b)])] w (Ret fun v w'=>v=(.bool r)∧Hp Z ρ (L) w'):=by
 refine enter (N:=33) Tryz.func86 O O [(0,(.agg #[(Iv F.a),(Iv F.b)])),(1,(.agg #[(Iv E.a),(Iv E.b)]))] O (bC ⟨O,O,tv⟩) fun a A=>?_
 unfold mW at I
 refine aG (aC ?_)
 refine jD (wk0 O) O O A B O (v:=(.agg #[(Iv F.a),(Iv F.b)])) O ?_
 intro a w b1 A B
 have B:=r1 B
 refine jD (wk0 O) O O A B O (v:=(.agg #[(Iv E.a),(Iv E.b)])) O ?_
 intro a w b2 A B
 have B:=r2 B
 refine S A 1 O fun a A=>aA (aG ?_)
 refine aG (aC ?_)
 refine V A B O (xf A eQ O O) fun a A=>V A B O (xl A aY 1 O O O O) fun a A=>S A 2 O fun a A=>?_
 refine jH [_,_,_,_] (fun a w=>Env 33 [(12,(.bool ((decide (0≤F.a))||(decide (0≤E.a))))),(2,(Pv b1 0)),(3,(Pv b2 0))] a∧Hp Z ρ (Pt b2 (.cells #[(Iv E.a),(Iv E.b)] 46 (0,0))::Pt b1 (.cells #[(Iv F.a),(Iv F.b)] 46 (0,0))::L) w) ?_ ?_
 ·rcases uW (decide (0≤F.a)) with H|H
  ·
   refine Gk A H O fun a A=>Gk A H O fun a A=>Gk A H O fun a A=>pk1 A H O O O O fun a A=>?_
   have A:=A.eqv (v':=(.bool ((decide (0≤F.a))||(decide (0≤E.a))))) (by rw[H];rfl)
   exact aA ⟨A.cut ⟨O,O,O,tv⟩,B⟩
  refine G A B H O (xf A eQ O O) fun a A=>G A B H O (xl A aY 0 O O O O) fun a A=>Gs A H O O fun a A=>pk0 A H O O O O fun a A=>?_
  have A:=A.eqv (v':=(.bool ((decide (0≤F.a))||(decide (0≤E.a))))) (by rw[H];rfl)
  exact aA ⟨A.cut ⟨O,O,O,tv⟩,B⟩
 rintro a w ⟨A,B⟩
 refine aA ?_
 refine dJ A O (fun J=>?_) (fun J=>?_)
 ·replace I:=(it J).symm.trans I
  refine aG (aC ?_)
  refine V A B O (xf A eQ O O) fun a A=>V A B O (xl A aY 1 O O O O) fun a A=>S A 2 O fun a A=>?_
  refine jH [_,_,_,_,_,_,_,_,_,_,_] (fun a w=>Env 33 [(27,(.bool ((decide (0≤F.a))&&((decide (E.a<0))||(decide (F.a<E.a))))))] a∧Hp Z ρ (Pt b2 (.cells #[(Iv E.a),(Iv E.b)] 46 (0,0))::Pt b1 (.cells #[(Iv F.a),(Iv F.b)] 46 (0,0))::L) w) ?_ ?_
  ·rcases uW (decide (0≤F.a)) with C|C
   ·
    refine G A B C O (xf A eQ O O) fun a A=>G A B C O (xl A aY 0 O O O O) fun a A=>Gs A C O O fun a A=>Gs A C O O fun a A=>?_
    refine jH [_,_,_,_,_,_] (fun a w=>Env 33 [(26,(.bool ((decide (E.a<0))||(decide (F.a<E.a))))),(16,(.bool (decide (0≤F.a))))] a∧Hp Z ρ (Pt b2 (.cells #[(Iv E.a),(Iv E.b)] 46 (0,0))::Pt b1 (.cells #[(Iv F.a),(Iv F.b)] 46 (0,0))::L) w) ?_ ?_
    ·rcases uW (decide (E.a<0)) with D|D
     ·
      refine Gk A D O fun a A=>Gk A D O fun a A=>Gk A D O fun a A=>Gk A D O fun a A=>Gk A D O fun a A=>G A B C O (jG O A O D O) fun a A=>?_
      have A:=A.eqv (v':=(.bool ((decide (E.a<0))||(decide (F.a<E.a))))) (by rw[D];rfl)
      exact aA ⟨A.cut ⟨O,O,tv⟩,B⟩
     refine G A B D O (xf A eQ O O) fun a A=>G A B D O (xl A aY 1 O O O O) fun a A=>G A B D O (xf A eQ O O) fun a A=>G A B D O (xl A aY 0 O O O O) fun a A=>Gs A D O O fun a A=>G A B C O (iR O A O D O) fun a A=>?_
     have A:=A.eqv (v':=(.bool ((decide (E.a<0))||(decide (F.a<E.a))))) (by rw[D];rfl)
     exact aA ⟨A.cut ⟨O,O,tv⟩,B⟩
    rintro a w ⟨A,B⟩
    refine pk1 A C O O O O fun a A=>?_
    have A:=A.eqv (v':=(.bool ((decide (0≤F.a))&&((decide (E.a<0))||(decide (F.a<E.a)))))) (by rw[C];rfl)
    exact aA ⟨A.cut ⟨O,tv⟩,B⟩
   refine Gk A C O fun a A=>Gk A C O fun a A=>Gk A C O fun a A=>Gk A C O fun a A=>?_
   refine oL (wk3 A O O O) O O A ?_
   intro a A
   refine oL (wk3 A O O O) O O A ?_
   intro a A
   refine oL (wk3 A O O O) O O A ?_
   intro a A
   refine oL (wk3 A O O O) O O A ?_
   intro a A
   refine oL (wk3 A O O O) O O A ?_
   intro a A
   refine Gk A C O fun a A=>pk0 A C O O O O fun a A=>?_
   have A:=A.eqv (v':=(.bool ((decide (0≤F.a))&&((decide (E.a<0))||(decide (F.a<E.a)))))) (by rw[C];rfl)
   exact aA ⟨A.cut ⟨O,tv⟩,B⟩
  rintro a w ⟨A,B⟩
  refine S A 1 O fun a A=>aA (dF ?_)
  obtain rfl:=oj I
  exact iK A O O ⟨_,O,O,(((B.get 1 O).drop).drop)⟩
 replace I:=(ie J).symm.trans I
 refine bD (aG ?_)
 refine aC (V A B O (xf A eP O O) fun a A=>?_)
 refine V A B O (xl A aY 1 O O O O) fun a A=>V A B O (xf A eP O O) fun a A=>V A B O (xl A aY 0 O O O O) fun a A=>S A 2 O fun a A=>aA (dF ?_)
 obtain rfl:=oj I
 exact iK A O O ⟨_,O,O,(((B.get 1 O).drop).drop)⟩
theorem Y5 {Z:World} {ρ:PH} {L:List bP} {w:World} (x:(List Opn)) (vp0:Value) (hp0:aH ρ vp0 x) (A:Hp Z ρ (L) w) (r:(List Opn)) (c:jO x=some r):
  Calls Tryz.prog 57 #[vp0] w (Ret fun v w'=>∃(vr1:Value),v=vr1∧Hp Z ρ (aF 46 vr1 r::L) w'):=by
 refine enter (N:=47) Tryz.func57 O O [(0,vp0)] O (bC ⟨O,tv⟩) fun a B=>?_
 unfold jO at c
 refine aG (aC ?_)
 refine S B 1 O fun a B=>aA (aG ?_)
 refine aC ?_
 refine dR (wk0 O) O O B A O [] trivial [] 46 (fun w=>by simp[Instr.buildSlice,Instr.fill,Value.cells,go_sem]) ?_
 intro a w b1 B A
 have A:=r1 A
 refine S B 1 O fun a B=>aA (aG ?_)
 refine aG (aC ?_)
 refine S B 1 O fun a B=>aA ?_
 have A:=(A.get 0 O).imp (dK (l:=(([]:List Opn):List Opn)) (n:=0) O (by decide) O)
 have A:=r1 A
 obtain⟨b2,i,c⟩:=bnd c
 refine dQ (fun a w=>∃(w2:Value),Env 47 [(3,w2)] a∧Hp Z ρ (aF 46 w2 b2::L) w) ?_ ?_
 ·refine fK i (fun s a w=>∃(w2:Value),Env 47 [(0,vp0),(3,w2),(4,(Iv s.1))] a∧Hp Z ρ (aF 46 w2 s.2::L) w) ?_ ?_
  ·exact⟨_,B.cut ⟨O,O,O,tv⟩,A⟩
  rintro⟨aT,aU⟩ st a w ⟨w2,B,A⟩ M
  dsimp only at B A M
  unfold kS at M
  refine aG (aG ?_)
  refine aC (S B 2 O fun a B=>?_)
  refine V B A O (dB O B O (aH.len hp0 aJ)) fun a B=>S B 1 O fun a B=>aA ?_
  refine dJ B O (fun W=>?_) (fun W=>?_)
  ·replace M:=(it W).symm.trans M
   refine bD (aG ?_)
   refine dS (aG ?_)
   refine aC (S B 1 O fun a B=>?_)
   refine V B A O (dB O B O (aF.len A 0 O aJ)) fun a B=>S B 1 O fun a B=>aA (aG ?_)
   obtain⟨b3,g,M⟩:=bnd M
   refine dQ (fun a w=>Env 47 [(0,vp0),(3,w2),(4,(Iv aT)),(5,(Iv b3))] a∧Hp Z ρ (aF 46 w2 aU::L) w) ?_ ?_
   ·refine fK g (fun s a w=>Env 47 [(0,vp0),(3,w2),(4,(Iv aT)),(5,(Iv s))] a∧Hp Z ρ (aF 46 w2 aU::L) w) ?_ ?_
    ·exact⟨B.cut ⟨O,O,O,O,tv⟩,A⟩
    rintro bK st a w ⟨B,A⟩ Q
    unfold mV at Q
    refine aG (aG ?_)
    refine kJ kr kr A ?_
    refine Sq B 3 O fun a B=>?_
    obtain⟨m1,hg1,Q⟩:=bnd Q
    refine q_cut [_,_,_,_,_,_,_,_,_,_,_] (fun a=>Env 47 [(28,(.bool m1)),(0,vp0),(3,w2),(4,(Iv aT)),(5,(Iv bK))] a) ?_ ?_
    ·rcases uW (decide (0<bK)) with K|K
     ·
      replace hg1:=(it K).symm.trans hg1
      refine Gq B K O (iJ O B O) fun a B=>Gq B K O (iJ O B O) fun a B=>?_
      obtain⟨R,t,hg1⟩:=bnd hg1
      obtain⟨b4,b4o,b4c,b4r,b4k,b4f⟩:=aH.at hp0 aJ t
      obtain rfl:b4c=Enc.enc R:=b4k
      have b4f:AtP ρ b4 b4o [(Iv R.a),(Iv R.b)]:=b4f
      refine Gq B K O (aP O B O O b4r) fun a B=>Gq B K O (aK O B O (fun w T=>aV (cs:=[(Iv R.a),(Iv R.b)]) fO (fun j u H=>cell_of T.le (b4f j u H)))) fun a B=>Gq B K O (iJ O B O) fun a B=>Gq B K O (iJ O B O) fun a B=>?_
      obtain⟨x2,q,hg1⟩:=bnd hg1
      refine Gq B K O (dX O B O O (aO q)) fun a B=>?_
      obtain⟨X,p,hg1⟩:=bnd hg1
      obtain⟨b5,b5o,b5r,b5v,b5f⟩:=aF.at A 0 O aJ p
      refine Gq B K O (aP O B O O b5r) fun a B=>Gq B K O (aK O B O (fun w T=>aV (cs:=[(Iv X.a),(Iv X.b)]) fO (fun j u H=>b5f j u H _ _ w (T.get 0 O)))) fun a B=>?_
      obtain⟨d,o,hg1⟩:=bnd hg1
      refine J7 (wk1 B O O O K) O O B O [(.agg #[(Iv R.a),(Iv R.b)]),(.agg #[(Iv X.a),(Iv X.b)])] ⟨O,O,tv⟩ ent86 (v:=(.bool d)) (fun w T=>Calls.mono (Y6 R X T d o) fun e w' ⟨v,he,hv,hh⟩=>⟨by rw[he,hv],hh⟩) ?_
      intro a B
      refine Vq B O (v:=(.bool d)) (jG O B O K O) fun a B=>?_
      obtain rfl:=oj hg1
      exact jY (B.cut ⟨O,O,O,O,O,tv⟩)
     replace hg1:=(ie K).symm.trans hg1
     refine Gkq B K O fun a B=>Gkq B K O fun a B=>Gkq B K O fun a B=>Gkq B K O fun a B=>Gkq B K O fun a B=>Gkq B K O fun a B=>Gkq B K O fun a B=>Gkq B K O fun a B=>Gkq B K O fun a B=>Gkq B K O fun a B=>?_
     refine Vq B O (v:=(.bool false)) (iR O B O K O) fun a B=>?_
     obtain rfl:=oj hg1
     exact jY (B.cut ⟨O,O,O,O,O,tv⟩)
    intro a B
    refine jY fun w A=>?_
    have A:=r1 A
    refine dJ B O (fun U=>?_) (fun U=>?_)
    ·replace Q:=(it U).symm.trans Q
     refine bD (dS ?_)
     refine aC (S B 1 O fun a B=>?_)
     obtain⟨x5,m,Q⟩:=bnd Q
     refine V B A O (dX O B O O (aO m)) fun a B=>S B 1 O fun a B=>aA ?_
     exact⟨_,(oj Q).symm,B.cut ⟨O,O,O,O,tv⟩,A⟩
    replace Q:=(ie U).symm.trans Q
    refine eU ?_
    refine⟨_,(oj Q).symm,fun hbb=>?_⟩
    subst hbb
    exact⟨B.cut ⟨O,O,O,O,tv⟩,A⟩
   rintro a w ⟨B,A⟩
   obtain⟨x6,G,M⟩:=bnd M
   obtain⟨x7,J,M⟩:=bnd M
   obtain⟨E,k,M⟩:=bnd M
   obtain⟨x9,I,M⟩:=bnd M
   obtain⟨z,D,M⟩:=bnd M
   obtain⟨f,F,M⟩:=bnd M
   have A:=A.drew
   refine iC ([([],At0 Z ρ)]:Facts) (fun a w=>∃y8:Nat,∃y7:Value,Env 47 [(0,vp0),(3,y7),(4,(Iv aT))] a∧Hp Z ρ (aF 46 w2 aU::Pt y8 (.cells #[(Iv E.a),(Iv E.b)] 46 (0,0))::aF 46 y7 f::L) w) kr ⟨fun _=>⟨_,A⟩,tv⟩ (fun C=>?_) ?_
   ·
    generalize w.drew=w at C A⊢
    refine Ts [1,2,5,6] B C O O kr fun a B C=>?_
    obtain⟨b9,b9o,b9c,b9r,b9k,b9f⟩:=aH.at hp0 aJ k
    obtain rfl:b9c=Enc.enc E:=b9k
    have b9f:AtP ρ b9 b9o [(Iv E.a),(Iv E.b)]:=b9f
    refine T0 7 B C O O O kr (fun _=>aP O B O O b9r) fun a B C=>T0 8 B C O O O kr (fun _=>aK O B O (fun w T=>aV (cs:=[(Iv E.a),(Iv E.b)]) fO (fun j u H=>cell_of T.le (b9f j u H)))) fun a B C=>Ts [11,12] B C O O kr fun a B C=>?_
    refine dY [0,3,9,13] kr O ?_
    refine uE.2 ⟨?_,uE.2 ⟨?_,uE.2 ⟨?_,uE.2 ⟨?_,fun _ h=>absurd h (by simp)⟩⟩⟩⟩
    ·
     refine bW O ?_
     refine dR (wk0 O) O O B A O [] trivial [] 46 (fun w=>by simp[Instr.buildSlice,Instr.fill,Value.cells,go_sem]) ?_
     intro a w b10 B A
     have A:=r2 A
     refine aA (aB ⟨gp0 A,tv⟩ fun C=>?_)
     refine dY [3,9,13] kr O ?_
     refine uE.2 ⟨?_,uE.2 ⟨?_,uE.2 ⟨?_,fun _ h=>absurd h (by simp)⟩⟩⟩
     ·
      refine bW O ?_
      obtain⟨v8,v8r,v8f⟩:=aF.viewF A 1 O aJ none (some (.i64,b3)) O O G
      refine V B A O (v:=v8) (fM O B O none (some (.i64,b3)) (by exact trivial) (by exact O) v8r) fun a B=>?_
      refine aA (aB ⟨gp0 A,tv⟩ fun C=>?_)
      refine dY [4,9,13] kr O ?_
      refine uE.2 ⟨?_,uE.2 ⟨?_,uE.2 ⟨?_,fun _ h=>absurd h (by simp)⟩⟩⟩
      ·
       refine bW O ?_
       have A:=(A.get 0 O).imp (dK (l:=(([]:List Opn):List Opn)) (n:=0) O (by decide) O)
       have A:=r2 A
       obtain⟨k3,k3a,k3d,k3h⟩:=(A.get 1 O).lend
       obtain⟨v10,v10r,f3⟩:=aH.part (aF.ro k3d k3a) aJ none (some (.i64,b3)) O O G
       have f3:=dO w v10r v8r f3
       refine dN (wk0 O) O O B k3h O aJ O O 0 O O f3 J ?_
       intro v9 a w B A
       have A:=Hp.back k3a k3d A
       have A:=r2 A
       refine aA (aB ⟨gp0 A,tv⟩ fun C=>?_)
       refine dY [9,13] kr O ?_
       refine uE.2 ⟨?_,uE.2 ⟨?_,fun _ h=>absurd h (by simp)⟩⟩
       ·
        refine bW O ?_
        refine dR (wk0 O) O O B A O [(0,(.agg #[(Iv E.a),(Iv E.b)]))] ⟨⟨O,O⟩,tv⟩ [(Iv E.a),(Iv E.b)] 46 (fun w=>by simp[Instr.buildSlice,Instr.fill,Value.cells,go_sem]) ?_
        intro a w b11 B A
        have A:=r3 A
        refine aA (aB ⟨gp0 A,tv⟩ fun C=>?_)
        refine dY [10,13] kr O ?_
        refine uE.2 ⟨?_,uE.2 ⟨?_,fun _ h=>absurd h (by simp)⟩⟩
        ·
         refine bW O ?_
         refine dL (wk0 O) O O B A O aJ O O 2 O O (l2:=[E]) O (fun j u H=>by have:=Hp.cN 0 O 0 _ (aS O) w A j u H;simpa using this) I ?_
         intro v11 a w B A
         have A:=r3 A
         refine aA (aB ⟨gp0 A,tv⟩ fun C=>?_)
         refine W1 13 kr O ?_
         obtain⟨v12,v12r,v12f⟩:=aF.viewF A 1 O aJ (some (.i64,b3)) none O O D
         refine V B A O (v:=v12) (fM O B O (some (.i64,b3)) none (by exact O) (by exact trivial) v12r) fun a B=>?_
         refine aA (aB ⟨gp0 A,tv⟩ fun C=>?_)
         refine W1 14 kr O ?_
         obtain⟨k4,k4a,k4d,k4h⟩:=(A.get 1 O).lend
         obtain⟨v14,v14r,f4⟩:=aH.part (aF.ro k4d k4a) aJ (some (.i64,b3)) none O O D
         have f4:=dO w v14r v12r f4
         refine dN (wk0 O) O O B k4h O aJ O O 1 O O f4 F ?_
         intro v13 a w B A
         have A:=Hp.back k4a k4d A
         have A:=r3 A
         refine aA (aB ⟨gp0 A,tv⟩ fun C=>?_)
         refine Ts [15] B C O O kr fun a B C=>?_
         exact aZ kr ⟨_,_,B.cut ⟨O,O,O,tv⟩,A⟩
        refine bW O ?_
        obtain⟨v15,v15r,v15f⟩:=aF.viewF A 1 O aJ (some (.i64,b3)) none O O D
        refine V B A O (v:=v15) (fM O B O (some (.i64,b3)) none (by exact O) (by exact trivial) v15r) fun a B=>?_
        refine aA (aB ⟨gp0 A,tv⟩ fun C=>?_)
        refine W1 10 kr O ?_
        refine dL (wk0 O) O O B A O aJ O O 2 O O (l2:=[E]) O (fun j u H=>by have:=Hp.cN 0 O 0 _ (aS O) w A j u H;simpa using this) I ?_
        intro v16 a w B A
        have A:=r3 A
        refine aA (aB ⟨gp0 A,tv⟩ fun C=>?_)
        refine W1 14 kr O ?_
        obtain⟨k5,k5a,k5d,k5h⟩:=(A.get 1 O).lend
        obtain⟨v18,v18r,f5⟩:=aH.part (aF.ro k5d k5a) aJ (some (.i64,b3)) none O O D
        have f5:=dO w v18r v15r f5
        refine dN (wk0 O) O O B k5h O aJ O O 1 O O f5 F ?_
        intro v17 a w B A
        have A:=Hp.back k5a k5d A
        have A:=r3 A
        refine aA (aB ⟨gp0 A,tv⟩ fun C=>?_)
        refine Ts [15] B C O O kr fun a B C=>?_
        exact aZ kr ⟨_,_,B.cut ⟨O,O,O,tv⟩,A⟩
       refine bW O ?_
       obtain⟨v19,v19r,v19f⟩:=aF.viewF A 0 O aJ (some (.i64,b3)) none O O D
       refine V B A O (v:=v19) (fM O B O (some (.i64,b3)) none (by exact O) (by exact trivial) v19r) fun a B=>?_
       refine aA (aB ⟨gp0 A,tv⟩ fun C=>?_)
       refine W1 9 kr O ?_
       refine dR (wk0 O) O O B A O [(0,(.agg #[(Iv E.a),(Iv E.b)]))] ⟨⟨O,O⟩,tv⟩ [(Iv E.a),(Iv E.b)] 46 (fun w=>by simp[Instr.buildSlice,Instr.fill,Value.cells,go_sem]) ?_
       intro a w b12 B A
       have A:=r3 A
       refine aA (aB ⟨gp0 A,tv⟩ fun C=>?_)
       refine W1 10 kr O ?_
       refine dL (wk0 O) O O B A O aJ O O 2 O O (l2:=[E]) O (fun j u H=>by have:=Hp.cN 0 O 0 _ (aS O) w A j u H;simpa using this) I ?_
       intro v20 a w B A
       have A:=r3 A
       refine aA (aB ⟨gp0 A,tv⟩ fun C=>?_)
       refine W1 14 kr O ?_
       obtain⟨k6,k6a,k6d,k6h⟩:=(A.get 1 O).lend
       obtain⟨v22,v22r,f6⟩:=aH.part (aF.ro k6d k6a) aJ (some (.i64,b3)) none O O D
       have f6:=dO w v22r v19r f6
       refine dN (wk0 O) O O B k6h O aJ O O 1 O O f6 F ?_
       intro v21 a w B A
       have A:=Hp.back k6a k6d A
       have A:=r3 A
       refine aA (aB ⟨gp0 A,tv⟩ fun C=>?_)
       refine Ts [15] B C O O kr fun a B C=>?_
       exact aZ kr ⟨_,_,B.cut ⟨O,O,O,tv⟩,A⟩
      ·
       refine bW O ?_
       refine dR (wk0 O) O O B A O [(0,(.agg #[(Iv E.a),(Iv E.b)]))] ⟨⟨O,O⟩,tv⟩ [(Iv E.a),(Iv E.b)] 46 (fun w=>by simp[Instr.buildSlice,Instr.fill,Value.cells,go_sem]) ?_
       intro a w b13 B A
       have A:=r3 A
       refine aA (aB ⟨gp0 A,tv⟩ fun C=>?_)
       refine dY [4,13] kr O ?_
       refine uE.2 ⟨?_,uE.2 ⟨?_,fun _ h=>absurd h (by simp)⟩⟩
       ·
        refine bW O ?_
        have A:=(A.get 1 O).imp (dK (l:=(([]:List Opn):List Opn)) (n:=0) O (by decide) O)
        have A:=r3 A
        obtain⟨k7,k7a,k7d,k7h⟩:=(A.get 2 O).lend
        obtain⟨v24,v24r,f7⟩:=aH.part (aF.ro k7d k7a) aJ none (some (.i64,b3)) O O G
        have f7:=dO w v24r v8r f7
        refine dN (wk0 O) O O B k7h O aJ O O 0 O O f7 J ?_
        intro v23 a w B A
        have A:=Hp.back k7a k7d A
        have A:=r3 A
        refine aA (aB ⟨gp0 A,tv⟩ fun C=>?_)
        refine dY [10,13] kr O ?_
        refine uE.2 ⟨?_,uE.2 ⟨?_,fun _ h=>absurd h (by simp)⟩⟩
        ·
         refine bW O ?_
         refine dL (wk0 O) O O B A O aJ O O 1 O O (l2:=[E]) O (fun j u H=>by have:=Hp.cN 2 O 0 _ (aS O) w A j u H;simpa using this) I ?_
         intro v25 a w B A
         have A:=r3 A
         refine aA (aB ⟨gp0 A,tv⟩ fun C=>?_)
         refine W1 13 kr O ?_
         obtain⟨v26,v26r,v26f⟩:=aF.viewF A 0 O aJ (some (.i64,b3)) none O O D
         refine V B A O (v:=v26) (fM O B O (some (.i64,b3)) none (by exact O) (by exact trivial) v26r) fun a B=>?_
         refine aA (aB ⟨gp0 A,tv⟩ fun C=>?_)
         refine W1 14 kr O ?_
         obtain⟨k8,k8a,k8d,k8h⟩:=(A.get 0 O).lend
         obtain⟨v28,v28r,f8⟩:=aH.part (aF.ro k8d k8a) aJ (some (.i64,b3)) none O O D
         have f8:=dO w v28r v26r f8
         refine dN (wk0 O) O O B k8h O aJ O O 0 O O f8 F ?_
         intro v27 a w B A
         have A:=Hp.back k8a k8d A
         have A:=r3 A
         refine aA (aB ⟨gp0 A,tv⟩ fun C=>?_)
         refine Ts [15] B C O O kr fun a B C=>?_
         exact aZ kr ⟨_,_,B.cut ⟨O,O,O,tv⟩,(((A.get 1 O).get 2 O).get 2 O)⟩
        refine bW O ?_
        obtain⟨v29,v29r,v29f⟩:=aF.viewF A 0 O aJ (some (.i64,b3)) none O O D
        refine V B A O (v:=v29) (fM O B O (some (.i64,b3)) none (by exact O) (by exact trivial) v29r) fun a B=>?_
        refine aA (aB ⟨gp0 A,tv⟩ fun C=>?_)
        refine W1 10 kr O ?_
        refine dL (wk0 O) O O B A O aJ O O 1 O O (l2:=[E]) O (fun j u H=>by have:=Hp.cN 2 O 0 _ (aS O) w A j u H;simpa using this) I ?_
        intro v30 a w B A
        have A:=r3 A
        refine aA (aB ⟨gp0 A,tv⟩ fun C=>?_)
        refine W1 14 kr O ?_
        obtain⟨k9,k9a,k9d,k9h⟩:=(A.get 0 O).lend
        obtain⟨v32,v32r,f9⟩:=aH.part (aF.ro k9d k9a) aJ (some (.i64,b3)) none O O D
        have f9:=dO w v32r v29r f9
        refine dN (wk0 O) O O B k9h O aJ O O 0 O O f9 F ?_
        intro v31 a w B A
        have A:=Hp.back k9a k9d A
        have A:=r3 A
        refine aA (aB ⟨gp0 A,tv⟩ fun C=>?_)
        refine Ts [15] B C O O kr fun a B C=>?_
        exact aZ kr ⟨_,_,B.cut ⟨O,O,O,tv⟩,(((A.get 1 O).get 2 O).get 2 O)⟩
       refine bW O ?_
       obtain⟨v33,v33r,v33f⟩:=aF.viewF A 2 O aJ (some (.i64,b3)) none O O D
       refine V B A O (v:=v33) (fM O B O (some (.i64,b3)) none (by exact O) (by exact trivial) v33r) fun a B=>?_
       refine aA (aB ⟨gp0 A,tv⟩ fun C=>?_)
       refine W1 4 kr O ?_
       have A:=(A.get 1 O).imp (dK (l:=(([]:List Opn):List Opn)) (n:=0) O (by decide) O)
       have A:=r3 A
       obtain⟨k10,k10a,k10d,k10h⟩:=(A.get 2 O).lend
       obtain⟨v35,v35r,f10⟩:=aH.part (aF.ro k10d k10a) aJ none (some (.i64,b3)) O O G
       have f10:=dO w v35r v8r f10
       refine dN (wk0 O) O O B k10h O aJ O O 0 O O f10 J ?_
       intro v34 a w B A
       have A:=Hp.back k10a k10d A
       have A:=r3 A
       refine aA (aB ⟨gp0 A,tv⟩ fun C=>?_)
       refine W1 10 kr O ?_
       refine dL (wk0 O) O O B A O aJ O O 1 O O (l2:=[E]) O (fun j u H=>by have:=Hp.cN 2 O 0 _ (aS O) w A j u H;simpa using this) I ?_
       intro v36 a w B A
       have A:=r3 A
       refine aA (aB ⟨gp0 A,tv⟩ fun C=>?_)
       refine W1 14 kr O ?_
       obtain⟨k11,k11a,k11d,k11h⟩:=(A.get 0 O).lend
       obtain⟨v38,v38r,f11⟩:=aH.part (aF.ro k11d k11a) aJ (some (.i64,b3)) none O O D
       have f11:=dO w v38r v33r f11
       refine dN (wk0 O) O O B k11h O aJ O O 0 O O f11 F ?_
       intro v37 a w B A
       have A:=Hp.back k11a k11d A
       have A:=r3 A
       refine aA (aB ⟨gp0 A,tv⟩ fun C=>?_)
       refine Ts [15] B C O O kr fun a B C=>?_
       exact aZ kr ⟨_,_,B.cut ⟨O,O,O,tv⟩,(((A.get 1 O).get 2 O).get 2 O)⟩
      refine bW O ?_
      obtain⟨v39,v39r,v39f⟩:=aF.viewF A 1 O aJ (some (.i64,b3)) none O O D
      refine V B A O (v:=v39) (fM O B O (some (.i64,b3)) none (by exact O) (by exact trivial) v39r) fun a B=>?_
      refine aA (aB ⟨gp0 A,tv⟩ fun C=>?_)
      refine dY [4,9] kr O ?_
      refine uE.2 ⟨?_,uE.2 ⟨?_,fun _ h=>absurd h (by simp)⟩⟩
      ·
       refine bW O ?_
       have A:=(A.get 0 O).imp (dK (l:=(([]:List Opn):List Opn)) (n:=0) O (by decide) O)
       have A:=r2 A
       obtain⟨k12,k12a,k12d,k12h⟩:=(A.get 1 O).lend
       obtain⟨v41,v41r,f12⟩:=aH.part (aF.ro k12d k12a) aJ none (some (.i64,b3)) O O G
       have f12:=dO w v41r v8r f12
       refine dN (wk0 O) O O B k12h O aJ O O 0 O O f12 J ?_
       intro v40 a w B A
       have A:=Hp.back k12a k12d A
       have A:=r2 A
       refine aA (aB ⟨gp0 A,tv⟩ fun C=>?_)
       refine W1 9 kr O ?_
       refine dR (wk0 O) O O B A O [(0,(.agg #[(Iv E.a),(Iv E.b)]))] ⟨⟨O,O⟩,tv⟩ [(Iv E.a),(Iv E.b)] 46 (fun w=>by simp[Instr.buildSlice,Instr.fill,Value.cells,go_sem]) ?_
       intro a w b14 B A
       have A:=r3 A
       refine aA (aB ⟨gp0 A,tv⟩ fun C=>?_)
       refine W1 10 kr O ?_
       refine dL (wk0 O) O O B A O aJ O O 2 O O (l2:=[E]) O (fun j u H=>by have:=Hp.cN 0 O 0 _ (aS O) w A j u H;simpa using this) I ?_
       intro v42 a w B A
       have A:=r3 A
       refine aA (aB ⟨gp0 A,tv⟩ fun C=>?_)
       refine W1 14 kr O ?_
       obtain⟨k13,k13a,k13d,k13h⟩:=(A.get 1 O).lend
       obtain⟨v44,v44r,f13⟩:=aH.part (aF.ro k13d k13a) aJ (some (.i64,b3)) none O O D
       have f13:=dO w v44r v39r f13
       refine dN (wk0 O) O O B k13h O aJ O O 1 O O f13 F ?_
       intro v43 a w B A
       have A:=Hp.back k13a k13d A
       have A:=r3 A
       refine aA (aB ⟨gp0 A,tv⟩ fun C=>?_)
       refine Ts [15] B C O O kr fun a B C=>?_
       exact aZ kr ⟨_,_,B.cut ⟨O,O,O,tv⟩,A⟩
      refine bW O ?_
      refine dR (wk0 O) O O B A O [(0,(.agg #[(Iv E.a),(Iv E.b)]))] ⟨⟨O,O⟩,tv⟩ [(Iv E.a),(Iv E.b)] 46 (fun w=>by simp[Instr.buildSlice,Instr.fill,Value.cells,go_sem]) ?_
      intro a w b15 B A
      have A:=r3 A
      refine aA (aB ⟨gp0 A,tv⟩ fun C=>?_)
      refine W1 4 kr O ?_
      have A:=(A.get 1 O).imp (dK (l:=(([]:List Opn):List Opn)) (n:=0) O (by decide) O)
      have A:=r3 A
      obtain⟨k14,k14a,k14d,k14h⟩:=(A.get 2 O).lend
      obtain⟨v46,v46r,f14⟩:=aH.part (aF.ro k14d k14a) aJ none (some (.i64,b3)) O O G
      have f14:=dO w v46r v8r f14
      refine dN (wk0 O) O O B k14h O aJ O O 0 O O f14 J ?_
      intro v45 a w B A
      have A:=Hp.back k14a k14d A
      have A:=r3 A
      refine aA (aB ⟨gp0 A,tv⟩ fun C=>?_)
      refine W1 10 kr O ?_
      refine dL (wk0 O) O O B A O aJ O O 1 O O (l2:=[E]) O (fun j u H=>by have:=Hp.cN 2 O 0 _ (aS O) w A j u H;simpa using this) I ?_
      intro v47 a w B A
      have A:=r3 A
      refine aA (aB ⟨gp0 A,tv⟩ fun C=>?_)
      refine W1 14 kr O ?_
      obtain⟨k15,k15a,k15d,k15h⟩:=(A.get 0 O).lend
      obtain⟨v49,v49r,f15⟩:=aH.part (aF.ro k15d k15a) aJ (some (.i64,b3)) none O O D
      have f15:=dO w v49r v39r f15
      refine dN (wk0 O) O O B k15h O aJ O O 0 O O f15 F ?_
      intro v48 a w B A
      have A:=Hp.back k15a k15d A
      have A:=r3 A
      refine aA (aB ⟨gp0 A,tv⟩ fun C=>?_)
      refine Ts [15] B C O O kr fun a B C=>?_
      exact aZ kr ⟨_,_,B.cut ⟨O,O,O,tv⟩,(((A.get 1 O).get 2 O).get 2 O)⟩
     ·
      refine bW O ?_
      refine dR (wk0 O) O O B A O [(0,(.agg #[(Iv E.a),(Iv E.b)]))] ⟨⟨O,O⟩,tv⟩ [(Iv E.a),(Iv E.b)] 46 (fun w=>by simp[Instr.buildSlice,Instr.fill,Value.cells,go_sem]) ?_
      intro a w b16 B A
      have A:=r3 A
      refine aA (aB ⟨gp0 A,tv⟩ fun C=>?_)
      refine dY [3,13] kr O ?_
      refine uE.2 ⟨?_,uE.2 ⟨?_,fun _ h=>absurd h (by simp)⟩⟩
      ·
       refine bW O ?_
       obtain⟨v50,v50r,v50f⟩:=aF.viewF A 2 O aJ none (some (.i64,b3)) O O G
       refine V B A O (v:=v50) (fM O B O none (some (.i64,b3)) (by exact trivial) (by exact O) v50r) fun a B=>?_
       refine aA (aB ⟨gp0 A,tv⟩ fun C=>?_)
       refine dY [4,13] kr O ?_
       refine uE.2 ⟨?_,uE.2 ⟨?_,fun _ h=>absurd h (by simp)⟩⟩
       ·
        refine bW O ?_
        have A:=(A.get 1 O).imp (dK (l:=(([]:List Opn):List Opn)) (n:=0) O (by decide) O)
        have A:=r3 A
        obtain⟨k16,k16a,k16d,k16h⟩:=(A.get 2 O).lend
        obtain⟨v52,v52r,f16⟩:=aH.part (aF.ro k16d k16a) aJ none (some (.i64,b3)) O O G
        have f16:=dO w v52r v50r f16
        refine dN (wk0 O) O O B k16h O aJ O O 0 O O f16 J ?_
        intro v51 a w B A
        have A:=Hp.back k16a k16d A
        have A:=r3 A
        refine aA (aB ⟨gp0 A,tv⟩ fun C=>?_)
        refine dY [10,13] kr O ?_
        refine uE.2 ⟨?_,uE.2 ⟨?_,fun _ h=>absurd h (by simp)⟩⟩
        ·
         refine bW O ?_
         refine dL (wk0 O) O O B A O aJ O O 1 O O (l2:=[E]) O (fun j u H=>by have:=Hp.cN 2 O 0 _ (aS O) w A j u H;simpa using this) I ?_
         intro v53 a w B A
         have A:=r3 A
         refine aA (aB ⟨gp0 A,tv⟩ fun C=>?_)
         refine W1 13 kr O ?_
         obtain⟨v54,v54r,v54f⟩:=aF.viewF A 0 O aJ (some (.i64,b3)) none O O D
         refine V B A O (v:=v54) (fM O B O (some (.i64,b3)) none (by exact O) (by exact trivial) v54r) fun a B=>?_
         refine aA (aB ⟨gp0 A,tv⟩ fun C=>?_)
         refine W1 14 kr O ?_
         obtain⟨k17,k17a,k17d,k17h⟩:=(A.get 0 O).lend
         obtain⟨v56,v56r,f17⟩:=aH.part (aF.ro k17d k17a) aJ (some (.i64,b3)) none O O D
         have f17:=dO w v56r v54r f17
         refine dN (wk0 O) O O B k17h O aJ O O 0 O O f17 F ?_
         intro v55 a w B A
         have A:=Hp.back k17a k17d A
         have A:=r3 A
         refine aA (aB ⟨gp0 A,tv⟩ fun C=>?_)
         refine Ts [15] B C O O kr fun a B C=>?_
         exact aZ kr ⟨_,_,B.cut ⟨O,O,O,tv⟩,(((A.get 1 O).get 2 O).get 2 O)⟩
        refine bW O ?_
        obtain⟨v57,v57r,v57f⟩:=aF.viewF A 0 O aJ (some (.i64,b3)) none O O D
        refine V B A O (v:=v57) (fM O B O (some (.i64,b3)) none (by exact O) (by exact trivial) v57r) fun a B=>?_
        refine aA (aB ⟨gp0 A,tv⟩ fun C=>?_)
        refine W1 10 kr O ?_
        refine dL (wk0 O) O O B A O aJ O O 1 O O (l2:=[E]) O (fun j u H=>by have:=Hp.cN 2 O 0 _ (aS O) w A j u H;simpa using this) I ?_
        intro v58 a w B A
        have A:=r3 A
        refine aA (aB ⟨gp0 A,tv⟩ fun C=>?_)
        refine W1 14 kr O ?_
        obtain⟨k18,k18a,k18d,k18h⟩:=(A.get 0 O).lend
        obtain⟨v60,v60r,f18⟩:=aH.part (aF.ro k18d k18a) aJ (some (.i64,b3)) none O O D
        have f18:=dO w v60r v57r f18
        refine dN (wk0 O) O O B k18h O aJ O O 0 O O f18 F ?_
        intro v59 a w B A
        have A:=Hp.back k18a k18d A
        have A:=r3 A
        refine aA (aB ⟨gp0 A,tv⟩ fun C=>?_)
        refine Ts [15] B C O O kr fun a B C=>?_
        exact aZ kr ⟨_,_,B.cut ⟨O,O,O,tv⟩,(((A.get 1 O).get 2 O).get 2 O)⟩
       refine bW O ?_
       obtain⟨v61,v61r,v61f⟩:=aF.viewF A 2 O aJ (some (.i64,b3)) none O O D
       refine V B A O (v:=v61) (fM O B O (some (.i64,b3)) none (by exact O) (by exact trivial) v61r) fun a B=>?_
       refine aA (aB ⟨gp0 A,tv⟩ fun C=>?_)
       refine W1 4 kr O ?_
       have A:=(A.get 1 O).imp (dK (l:=(([]:List Opn):List Opn)) (n:=0) O (by decide) O)
       have A:=r3 A
       obtain⟨k19,k19a,k19d,k19h⟩:=(A.get 2 O).lend
       obtain⟨v63,v63r,f19⟩:=aH.part (aF.ro k19d k19a) aJ none (some (.i64,b3)) O O G
       have f19:=dO w v63r v50r f19
       refine dN (wk0 O) O O B k19h O aJ O O 0 O O f19 J ?_
       intro v62 a w B A
       have A:=Hp.back k19a k19d A
       have A:=r3 A
       refine aA (aB ⟨gp0 A,tv⟩ fun C=>?_)
       refine W1 10 kr O ?_
       refine dL (wk0 O) O O B A O aJ O O 1 O O (l2:=[E]) O (fun j u H=>by have:=Hp.cN 2 O 0 _ (aS O) w A j u H;simpa using this) I ?_
       intro v64 a w B A
       have A:=r3 A
       refine aA (aB ⟨gp0 A,tv⟩ fun C=>?_)
       refine W1 14 kr O ?_
       obtain⟨k20,k20a,k20d,k20h⟩:=(A.get 0 O).lend
       obtain⟨v66,v66r,f20⟩:=aH.part (aF.ro k20d k20a) aJ (some (.i64,b3)) none O O D
       have f20:=dO w v66r v61r f20
       refine dN (wk0 O) O O B k20h O aJ O O 0 O O f20 F ?_
       intro v65 a w B A
       have A:=Hp.back k20a k20d A
       have A:=r3 A
       refine aA (aB ⟨gp0 A,tv⟩ fun C=>?_)
       refine Ts [15] B C O O kr fun a B C=>?_
       exact aZ kr ⟨_,_,B.cut ⟨O,O,O,tv⟩,(((A.get 1 O).get 2 O).get 2 O)⟩
      refine bW O ?_
      obtain⟨v67,v67r,v67f⟩:=aF.viewF A 2 O aJ (some (.i64,b3)) none O O D
      refine V B A O (v:=v67) (fM O B O (some (.i64,b3)) none (by exact O) (by exact trivial) v67r) fun a B=>?_
      refine aA (aB ⟨gp0 A,tv⟩ fun C=>?_)
      refine W1 3 kr O ?_
      obtain⟨v68,v68r,v68f⟩:=aF.viewF A 2 O aJ none (some (.i64,b3)) O O G
      refine V B A O (v:=v68) (fM O B O none (some (.i64,b3)) (by exact trivial) (by exact O) v68r) fun a B=>?_
      refine aA (aB ⟨gp0 A,tv⟩ fun C=>?_)
      refine W1 4 kr O ?_
      have A:=(A.get 1 O).imp (dK (l:=(([]:List Opn):List Opn)) (n:=0) O (by decide) O)
      have A:=r3 A
      obtain⟨k21,k21a,k21d,k21h⟩:=(A.get 2 O).lend
      obtain⟨v70,v70r,f21⟩:=aH.part (aF.ro k21d k21a) aJ none (some (.i64,b3)) O O G
      have f21:=dO w v70r v68r f21
      refine dN (wk0 O) O O B k21h O aJ O O 0 O O f21 J ?_
      intro v69 a w B A
      have A:=Hp.back k21a k21d A
      have A:=r3 A
      refine aA (aB ⟨gp0 A,tv⟩ fun C=>?_)
      refine W1 10 kr O ?_
      refine dL (wk0 O) O O B A O aJ O O 1 O O (l2:=[E]) O (fun j u H=>by have:=Hp.cN 2 O 0 _ (aS O) w A j u H;simpa using this) I ?_
      intro v71 a w B A
      have A:=r3 A
      refine aA (aB ⟨gp0 A,tv⟩ fun C=>?_)
      refine W1 14 kr O ?_
      obtain⟨k22,k22a,k22d,k22h⟩:=(A.get 0 O).lend
      obtain⟨v73,v73r,f22⟩:=aH.part (aF.ro k22d k22a) aJ (some (.i64,b3)) none O O D
      have f22:=dO w v73r v67r f22
      refine dN (wk0 O) O O B k22h O aJ O O 0 O O f22 F ?_
      intro v72 a w B A
      have A:=Hp.back k22a k22d A
      have A:=r3 A
      refine aA (aB ⟨gp0 A,tv⟩ fun C=>?_)
      refine Ts [15] B C O O kr fun a B C=>?_
      exact aZ kr ⟨_,_,B.cut ⟨O,O,O,tv⟩,(((A.get 1 O).get 2 O).get 2 O)⟩
     refine bW O ?_
     obtain⟨v74,v74r,v74f⟩:=aF.viewF A 1 O aJ (some (.i64,b3)) none O O D
     refine V B A O (v:=v74) (fM O B O (some (.i64,b3)) none (by exact O) (by exact trivial) v74r) fun a B=>?_
     refine aA (aB ⟨gp0 A,tv⟩ fun C=>?_)
     refine dY [3,9] kr O ?_
     refine uE.2 ⟨?_,uE.2 ⟨?_,fun _ h=>absurd h (by simp)⟩⟩
     ·
      refine bW O ?_
      obtain⟨v75,v75r,v75f⟩:=aF.viewF A 1 O aJ none (some (.i64,b3)) O O G
      refine V B A O (v:=v75) (fM O B O none (some (.i64,b3)) (by exact trivial) (by exact O) v75r) fun a B=>?_
      refine aA (aB ⟨gp0 A,tv⟩ fun C=>?_)
      refine dY [4,9] kr O ?_
      refine uE.2 ⟨?_,uE.2 ⟨?_,fun _ h=>absurd h (by simp)⟩⟩
      ·
       refine bW O ?_
       have A:=(A.get 0 O).imp (dK (l:=(([]:List Opn):List Opn)) (n:=0) O (by decide) O)
       have A:=r2 A
       obtain⟨k23,k23a,k23d,k23h⟩:=(A.get 1 O).lend
       obtain⟨v77,v77r,f23⟩:=aH.part (aF.ro k23d k23a) aJ none (some (.i64,b3)) O O G
       have f23:=dO w v77r v75r f23
       refine dN (wk0 O) O O B k23h O aJ O O 0 O O f23 J ?_
       intro v76 a w B A
       have A:=Hp.back k23a k23d A
       have A:=r2 A
       refine aA (aB ⟨gp0 A,tv⟩ fun C=>?_)
       refine W1 9 kr O ?_
       refine dR (wk0 O) O O B A O [(0,(.agg #[(Iv E.a),(Iv E.b)]))] ⟨⟨O,O⟩,tv⟩ [(Iv E.a),(Iv E.b)] 46 (fun w=>by simp[Instr.buildSlice,Instr.fill,Value.cells,go_sem]) ?_
       intro a w b17 B A
       have A:=r3 A
       refine aA (aB ⟨gp0 A,tv⟩ fun C=>?_)
       refine W1 10 kr O ?_
       refine dL (wk0 O) O O B A O aJ O O 2 O O (l2:=[E]) O (fun j u H=>by have:=Hp.cN 0 O 0 _ (aS O) w A j u H;simpa using this) I ?_
       intro v78 a w B A
       have A:=r3 A
       refine aA (aB ⟨gp0 A,tv⟩ fun C=>?_)
       refine W1 14 kr O ?_
       obtain⟨k24,k24a,k24d,k24h⟩:=(A.get 1 O).lend
       obtain⟨v80,v80r,f24⟩:=aH.part (aF.ro k24d k24a) aJ (some (.i64,b3)) none O O D
       have f24:=dO w v80r v74r f24
       refine dN (wk0 O) O O B k24h O aJ O O 1 O O f24 F ?_
       intro v79 a w B A
       have A:=Hp.back k24a k24d A
       have A:=r3 A
       refine aA (aB ⟨gp0 A,tv⟩ fun C=>?_)
       refine Ts [15] B C O O kr fun a B C=>?_
       exact aZ kr ⟨_,_,B.cut ⟨O,O,O,tv⟩,A⟩
      refine bW O ?_
      refine dR (wk0 O) O O B A O [(0,(.agg #[(Iv E.a),(Iv E.b)]))] ⟨⟨O,O⟩,tv⟩ [(Iv E.a),(Iv E.b)] 46 (fun w=>by simp[Instr.buildSlice,Instr.fill,Value.cells,go_sem]) ?_
      intro a w b18 B A
      have A:=r3 A
      refine aA (aB ⟨gp0 A,tv⟩ fun C=>?_)
      refine W1 4 kr O ?_
      have A:=(A.get 1 O).imp (dK (l:=(([]:List Opn):List Opn)) (n:=0) O (by decide) O)
      have A:=r3 A
      obtain⟨k25,k25a,k25d,k25h⟩:=(A.get 2 O).lend
      obtain⟨v82,v82r,f25⟩:=aH.part (aF.ro k25d k25a) aJ none (some (.i64,b3)) O O G
      have f25:=dO w v82r v75r f25
      refine dN (wk0 O) O O B k25h O aJ O O 0 O O f25 J ?_
      intro v81 a w B A
      have A:=Hp.back k25a k25d A
      have A:=r3 A
      refine aA (aB ⟨gp0 A,tv⟩ fun C=>?_)
      refine W1 10 kr O ?_
      refine dL (wk0 O) O O B A O aJ O O 1 O O (l2:=[E]) O (fun j u H=>by have:=Hp.cN 2 O 0 _ (aS O) w A j u H;simpa using this) I ?_
      intro v83 a w B A
      have A:=r3 A
      refine aA (aB ⟨gp0 A,tv⟩ fun C=>?_)
      refine W1 14 kr O ?_
      obtain⟨k26,k26a,k26d,k26h⟩:=(A.get 0 O).lend
      obtain⟨v85,v85r,f26⟩:=aH.part (aF.ro k26d k26a) aJ (some (.i64,b3)) none O O D
      have f26:=dO w v85r v74r f26
      refine dN (wk0 O) O O B k26h O aJ O O 0 O O f26 F ?_
      intro v84 a w B A
      have A:=Hp.back k26a k26d A
      have A:=r3 A
      refine aA (aB ⟨gp0 A,tv⟩ fun C=>?_)
      refine Ts [15] B C O O kr fun a B C=>?_
      exact aZ kr ⟨_,_,B.cut ⟨O,O,O,tv⟩,(((A.get 1 O).get 2 O).get 2 O)⟩
     refine bW O ?_
     refine dR (wk0 O) O O B A O [(0,(.agg #[(Iv E.a),(Iv E.b)]))] ⟨⟨O,O⟩,tv⟩ [(Iv E.a),(Iv E.b)] 46 (fun w=>by simp[Instr.buildSlice,Instr.fill,Value.cells,go_sem]) ?_
     intro a w b19 B A
     have A:=r3 A
     refine aA (aB ⟨gp0 A,tv⟩ fun C=>?_)
     refine W1 3 kr O ?_
     obtain⟨v86,v86r,v86f⟩:=aF.viewF A 2 O aJ none (some (.i64,b3)) O O G
     refine V B A O (v:=v86) (fM O B O none (some (.i64,b3)) (by exact trivial) (by exact O) v86r) fun a B=>?_
     refine aA (aB ⟨gp0 A,tv⟩ fun C=>?_)
     refine W1 4 kr O ?_
     have A:=(A.get 1 O).imp (dK (l:=(([]:List Opn):List Opn)) (n:=0) O (by decide) O)
     have A:=r3 A
     obtain⟨k27,k27a,k27d,k27h⟩:=(A.get 2 O).lend
     obtain⟨v88,v88r,f27⟩:=aH.part (aF.ro k27d k27a) aJ none (some (.i64,b3)) O O G
     have f27:=dO w v88r v86r f27
     refine dN (wk0 O) O O B k27h O aJ O O 0 O O f27 J ?_
     intro v87 a w B A
     have A:=Hp.back k27a k27d A
     have A:=r3 A
     refine aA (aB ⟨gp0 A,tv⟩ fun C=>?_)
     refine W1 10 kr O ?_
     refine dL (wk0 O) O O B A O aJ O O 1 O O (l2:=[E]) O (fun j u H=>by have:=Hp.cN 2 O 0 _ (aS O) w A j u H;simpa using this) I ?_
     intro v89 a w B A
     have A:=r3 A
     refine aA (aB ⟨gp0 A,tv⟩ fun C=>?_)
     refine W1 14 kr O ?_
     obtain⟨k28,k28a,k28d,k28h⟩:=(A.get 0 O).lend
     obtain⟨v91,v91r,f28⟩:=aH.part (aF.ro k28d k28a) aJ (some (.i64,b3)) none O O D
     have f28:=dO w v91r v74r f28
     refine dN (wk0 O) O O B k28h O aJ O O 0 O O f28 F ?_
     intro v90 a w B A
     have A:=Hp.back k28a k28d A
     have A:=r3 A
     refine aA (aB ⟨gp0 A,tv⟩ fun C=>?_)
     refine Ts [15] B C O O kr fun a B C=>?_
     exact aZ kr ⟨_,_,B.cut ⟨O,O,O,tv⟩,(((A.get 1 O).get 2 O).get 2 O)⟩
    ·
     refine bW O ?_
     obtain⟨v92,v92r,v92f⟩:=aF.viewF A 0 O aJ none (some (.i64,b3)) O O G
     refine V B A O (v:=v92) (fM O B O none (some (.i64,b3)) (by exact trivial) (by exact O) v92r) fun a B=>?_
     refine aA (aB ⟨gp0 A,tv⟩ fun C=>?_)
     refine dY [0,9,13] kr O ?_
     refine uE.2 ⟨?_,uE.2 ⟨?_,uE.2 ⟨?_,fun _ h=>absurd h (by simp)⟩⟩⟩
     ·
      refine bW O ?_
      refine dR (wk0 O) O O B A O [] trivial [] 46 (fun w=>by simp[Instr.buildSlice,Instr.fill,Value.cells,go_sem]) ?_
      intro a w b20 B A
      have A:=r2 A
      refine aA (aB ⟨gp0 A,tv⟩ fun C=>?_)
      refine dY [4,9,13] kr O ?_
      refine uE.2 ⟨?_,uE.2 ⟨?_,uE.2 ⟨?_,fun _ h=>absurd h (by simp)⟩⟩⟩
      ·
       refine bW O ?_
       have A:=(A.get 0 O).imp (dK (l:=(([]:List Opn):List Opn)) (n:=0) O (by decide) O)
       have A:=r2 A
       obtain⟨k29,k29a,k29d,k29h⟩:=(A.get 1 O).lend
       obtain⟨v94,v94r,f29⟩:=aH.part (aF.ro k29d k29a) aJ none (some (.i64,b3)) O O G
       have f29:=dO w v94r v92r f29
       refine dN (wk0 O) O O B k29h O aJ O O 0 O O f29 J ?_
       intro v93 a w B A
       have A:=Hp.back k29a k29d A
       have A:=r2 A
       refine aA (aB ⟨gp0 A,tv⟩ fun C=>?_)
       refine dY [9,13] kr O ?_
       refine uE.2 ⟨?_,uE.2 ⟨?_,fun _ h=>absurd h (by simp)⟩⟩
       ·
        refine bW O ?_
        refine dR (wk0 O) O O B A O [(0,(.agg #[(Iv E.a),(Iv E.b)]))] ⟨⟨O,O⟩,tv⟩ [(Iv E.a),(Iv E.b)] 46 (fun w=>by simp[Instr.buildSlice,Instr.fill,Value.cells,go_sem]) ?_
        intro a w b21 B A
        have A:=r3 A
        refine aA (aB ⟨gp0 A,tv⟩ fun C=>?_)
        refine dY [10,13] kr O ?_
        refine uE.2 ⟨?_,uE.2 ⟨?_,fun _ h=>absurd h (by simp)⟩⟩
        ·
         refine bW O ?_
         refine dL (wk0 O) O O B A O aJ O O 2 O O (l2:=[E]) O (fun j u H=>by have:=Hp.cN 0 O 0 _ (aS O) w A j u H;simpa using this) I ?_
         intro v95 a w B A
         have A:=r3 A
         refine aA (aB ⟨gp0 A,tv⟩ fun C=>?_)
         refine W1 13 kr O ?_
         obtain⟨v96,v96r,v96f⟩:=aF.viewF A 1 O aJ (some (.i64,b3)) none O O D
         refine V B A O (v:=v96) (fM O B O (some (.i64,b3)) none (by exact O) (by exact trivial) v96r) fun a B=>?_
         refine aA (aB ⟨gp0 A,tv⟩ fun C=>?_)
         refine W1 14 kr O ?_
         obtain⟨k30,k30a,k30d,k30h⟩:=(A.get 1 O).lend
         obtain⟨v98,v98r,f30⟩:=aH.part (aF.ro k30d k30a) aJ (some (.i64,b3)) none O O D
         have f30:=dO w v98r v96r f30
         refine dN (wk0 O) O O B k30h O aJ O O 1 O O f30 F ?_
         intro v97 a w B A
         have A:=Hp.back k30a k30d A
         have A:=r3 A
         refine aA (aB ⟨gp0 A,tv⟩ fun C=>?_)
         refine Ts [15] B C O O kr fun a B C=>?_
         exact aZ kr ⟨_,_,B.cut ⟨O,O,O,tv⟩,A⟩
        refine bW O ?_
        obtain⟨v99,v99r,v99f⟩:=aF.viewF A 1 O aJ (some (.i64,b3)) none O O D
        refine V B A O (v:=v99) (fM O B O (some (.i64,b3)) none (by exact O) (by exact trivial) v99r) fun a B=>?_
        refine aA (aB ⟨gp0 A,tv⟩ fun C=>?_)
        refine W1 10 kr O ?_
        refine dL (wk0 O) O O B A O aJ O O 2 O O (l2:=[E]) O (fun j u H=>by have:=Hp.cN 0 O 0 _ (aS O) w A j u H;simpa using this) I ?_
        intro v100 a w B A
        have A:=r3 A
        refine aA (aB ⟨gp0 A,tv⟩ fun C=>?_)
        refine W1 14 kr O ?_
        obtain⟨k31,k31a,k31d,k31h⟩:=(A.get 1 O).lend
        obtain⟨v102,v102r,f31⟩:=aH.part (aF.ro k31d k31a) aJ (some (.i64,b3)) none O O D
        have f31:=dO w v102r v99r f31
        refine dN (wk0 O) O O B k31h O aJ O O 1 O O f31 F ?_
        intro v101 a w B A
        have A:=Hp.back k31a k31d A
        have A:=r3 A
        refine aA (aB ⟨gp0 A,tv⟩ fun C=>?_)
        refine Ts [15] B C O O kr fun a B C=>?_
        exact aZ kr ⟨_,_,B.cut ⟨O,O,O,tv⟩,A⟩
       refine bW O ?_
       obtain⟨v103,v103r,v103f⟩:=aF.viewF A 0 O aJ (some (.i64,b3)) none O O D
       refine V B A O (v:=v103) (fM O B O (some (.i64,b3)) none (by exact O) (by exact trivial) v103r) fun a B=>?_
       refine aA (aB ⟨gp0 A,tv⟩ fun C=>?_)
       refine W1 9 kr O ?_
       refine dR (wk0 O) O O B A O [(0,(.agg #[(Iv E.a),(Iv E.b)]))] ⟨⟨O,O⟩,tv⟩ [(Iv E.a),(Iv E.b)] 46 (fun w=>by simp[Instr.buildSlice,Instr.fill,Value.cells,go_sem]) ?_
       intro a w b22 B A
       have A:=r3 A
       refine aA (aB ⟨gp0 A,tv⟩ fun C=>?_)
       refine W1 10 kr O ?_
       refine dL (wk0 O) O O B A O aJ O O 2 O O (l2:=[E]) O (fun j u H=>by have:=Hp.cN 0 O 0 _ (aS O) w A j u H;simpa using this) I ?_
       intro v104 a w B A
       have A:=r3 A
       refine aA (aB ⟨gp0 A,tv⟩ fun C=>?_)
       refine W1 14 kr O ?_
       obtain⟨k32,k32a,k32d,k32h⟩:=(A.get 1 O).lend
       obtain⟨v106,v106r,f32⟩:=aH.part (aF.ro k32d k32a) aJ (some (.i64,b3)) none O O D
       have f32:=dO w v106r v103r f32
       refine dN (wk0 O) O O B k32h O aJ O O 1 O O f32 F ?_
       intro v105 a w B A
       have A:=Hp.back k32a k32d A
       have A:=r3 A
       refine aA (aB ⟨gp0 A,tv⟩ fun C=>?_)
       refine Ts [15] B C O O kr fun a B C=>?_
       exact aZ kr ⟨_,_,B.cut ⟨O,O,O,tv⟩,A⟩
      ·
       refine bW O ?_
       refine dR (wk0 O) O O B A O [(0,(.agg #[(Iv E.a),(Iv E.b)]))] ⟨⟨O,O⟩,tv⟩ [(Iv E.a),(Iv E.b)] 46 (fun w=>by simp[Instr.buildSlice,Instr.fill,Value.cells,go_sem]) ?_
       intro a w b23 B A
       have A:=r3 A
       refine aA (aB ⟨gp0 A,tv⟩ fun C=>?_)
       refine dY [4,13] kr O ?_
       refine uE.2 ⟨?_,uE.2 ⟨?_,fun _ h=>absurd h (by simp)⟩⟩
       ·
        refine bW O ?_
        have A:=(A.get 1 O).imp (dK (l:=(([]:List Opn):List Opn)) (n:=0) O (by decide) O)
        have A:=r3 A
        obtain⟨k33,k33a,k33d,k33h⟩:=(A.get 2 O).lend
        obtain⟨v108,v108r,f33⟩:=aH.part (aF.ro k33d k33a) aJ none (some (.i64,b3)) O O G
        have f33:=dO w v108r v92r f33
        refine dN (wk0 O) O O B k33h O aJ O O 0 O O f33 J ?_
        intro v107 a w B A
        have A:=Hp.back k33a k33d A
        have A:=r3 A
        refine aA (aB ⟨gp0 A,tv⟩ fun C=>?_)
        refine dY [10,13] kr O ?_
        refine uE.2 ⟨?_,uE.2 ⟨?_,fun _ h=>absurd h (by simp)⟩⟩
        ·
         refine bW O ?_
         refine dL (wk0 O) O O B A O aJ O O 1 O O (l2:=[E]) O (fun j u H=>by have:=Hp.cN 2 O 0 _ (aS O) w A j u H;simpa using this) I ?_
         intro v109 a w B A
         have A:=r3 A
         refine aA (aB ⟨gp0 A,tv⟩ fun C=>?_)
         refine W1 13 kr O ?_
         obtain⟨v110,v110r,v110f⟩:=aF.viewF A 0 O aJ (some (.i64,b3)) none O O D
         refine V B A O (v:=v110) (fM O B O (some (.i64,b3)) none (by exact O) (by exact trivial) v110r) fun a B=>?_
         refine aA (aB ⟨gp0 A,tv⟩ fun C=>?_)
         refine W1 14 kr O ?_
         obtain⟨k34,k34a,k34d,k34h⟩:=(A.get 0 O).lend
         obtain⟨v112,v112r,f34⟩:=aH.part (aF.ro k34d k34a) aJ (some (.i64,b3)) none O O D
         have f34:=dO w v112r v110r f34
         refine dN (wk0 O) O O B k34h O aJ O O 0 O O f34 F ?_
         intro v111 a w B A
         have A:=Hp.back k34a k34d A
         have A:=r3 A
         refine aA (aB ⟨gp0 A,tv⟩ fun C=>?_)
         refine Ts [15] B C O O kr fun a B C=>?_
         exact aZ kr ⟨_,_,B.cut ⟨O,O,O,tv⟩,(((A.get 1 O).get 2 O).get 2 O)⟩
        refine bW O ?_
        obtain⟨v113,v113r,v113f⟩:=aF.viewF A 0 O aJ (some (.i64,b3)) none O O D
        refine V B A O (v:=v113) (fM O B O (some (.i64,b3)) none (by exact O) (by exact trivial) v113r) fun a B=>?_
        refine aA (aB ⟨gp0 A,tv⟩ fun C=>?_)
        refine W1 10 kr O ?_
        refine dL (wk0 O) O O B A O aJ O O 1 O O (l2:=[E]) O (fun j u H=>by have:=Hp.cN 2 O 0 _ (aS O) w A j u H;simpa using this) I ?_
        intro v114 a w B A
        have A:=r3 A
        refine aA (aB ⟨gp0 A,tv⟩ fun C=>?_)
        refine W1 14 kr O ?_
        obtain⟨k35,k35a,k35d,k35h⟩:=(A.get 0 O).lend
        obtain⟨v116,v116r,f35⟩:=aH.part (aF.ro k35d k35a) aJ (some (.i64,b3)) none O O D
        have f35:=dO w v116r v113r f35
        refine dN (wk0 O) O O B k35h O aJ O O 0 O O f35 F ?_
        intro v115 a w B A
        have A:=Hp.back k35a k35d A
        have A:=r3 A
        refine aA (aB ⟨gp0 A,tv⟩ fun C=>?_)
        refine Ts [15] B C O O kr fun a B C=>?_
        exact aZ kr ⟨_,_,B.cut ⟨O,O,O,tv⟩,(((A.get 1 O).get 2 O).get 2 O)⟩
       refine bW O ?_
       obtain⟨v117,v117r,v117f⟩:=aF.viewF A 2 O aJ (some (.i64,b3)) none O O D
       refine V B A O (v:=v117) (fM O B O (some (.i64,b3)) none (by exact O) (by exact trivial) v117r) fun a B=>?_
       refine aA (aB ⟨gp0 A,tv⟩ fun C=>?_)
       refine W1 4 kr O ?_
       have A:=(A.get 1 O).imp (dK (l:=(([]:List Opn):List Opn)) (n:=0) O (by decide) O)
       have A:=r3 A
       obtain⟨k36,k36a,k36d,k36h⟩:=(A.get 2 O).lend
       obtain⟨v119,v119r,f36⟩:=aH.part (aF.ro k36d k36a) aJ none (some (.i64,b3)) O O G
       have f36:=dO w v119r v92r f36
       refine dN (wk0 O) O O B k36h O aJ O O 0 O O f36 J ?_
       intro v118 a w B A
       have A:=Hp.back k36a k36d A
       have A:=r3 A
       refine aA (aB ⟨gp0 A,tv⟩ fun C=>?_)
       refine W1 10 kr O ?_
       refine dL (wk0 O) O O B A O aJ O O 1 O O (l2:=[E]) O (fun j u H=>by have:=Hp.cN 2 O 0 _ (aS O) w A j u H;simpa using this) I ?_
       intro v120 a w B A
       have A:=r3 A
       refine aA (aB ⟨gp0 A,tv⟩ fun C=>?_)
       refine W1 14 kr O ?_
       obtain⟨k37,k37a,k37d,k37h⟩:=(A.get 0 O).lend
       obtain⟨v122,v122r,f37⟩:=aH.part (aF.ro k37d k37a) aJ (some (.i64,b3)) none O O D
       have f37:=dO w v122r v117r f37
       refine dN (wk0 O) O O B k37h O aJ O O 0 O O f37 F ?_
       intro v121 a w B A
       have A:=Hp.back k37a k37d A
       have A:=r3 A
       refine aA (aB ⟨gp0 A,tv⟩ fun C=>?_)
       refine Ts [15] B C O O kr fun a B C=>?_
       exact aZ kr ⟨_,_,B.cut ⟨O,O,O,tv⟩,(((A.get 1 O).get 2 O).get 2 O)⟩
      refine bW O ?_
      obtain⟨v123,v123r,v123f⟩:=aF.viewF A 1 O aJ (some (.i64,b3)) none O O D
      refine V B A O (v:=v123) (fM O B O (some (.i64,b3)) none (by exact O) (by exact trivial) v123r) fun a B=>?_
      refine aA (aB ⟨gp0 A,tv⟩ fun C=>?_)
      refine dY [4,9] kr O ?_
      refine uE.2 ⟨?_,uE.2 ⟨?_,fun _ h=>absurd h (by simp)⟩⟩
      ·
       refine bW O ?_
       have A:=(A.get 0 O).imp (dK (l:=(([]:List Opn):List Opn)) (n:=0) O (by decide) O)
       have A:=r2 A
       obtain⟨k38,k38a,k38d,k38h⟩:=(A.get 1 O).lend
       obtain⟨v125,v125r,f38⟩:=aH.part (aF.ro k38d k38a) aJ none (some (.i64,b3)) O O G
       have f38:=dO w v125r v92r f38
       refine dN (wk0 O) O O B k38h O aJ O O 0 O O f38 J ?_
       intro v124 a w B A
       have A:=Hp.back k38a k38d A
       have A:=r2 A
       refine aA (aB ⟨gp0 A,tv⟩ fun C=>?_)
       refine W1 9 kr O ?_
       refine dR (wk0 O) O O B A O [(0,(.agg #[(Iv E.a),(Iv E.b)]))] ⟨⟨O,O⟩,tv⟩ [(Iv E.a),(Iv E.b)] 46 (fun w=>by simp[Instr.buildSlice,Instr.fill,Value.cells,go_sem]) ?_
       intro a w b24 B A
       have A:=r3 A
       refine aA (aB ⟨gp0 A,tv⟩ fun C=>?_)
       refine W1 10 kr O ?_
       refine dL (wk0 O) O O B A O aJ O O 2 O O (l2:=[E]) O (fun j u H=>by have:=Hp.cN 0 O 0 _ (aS O) w A j u H;simpa using this) I ?_
       intro v126 a w B A
       have A:=r3 A
       refine aA (aB ⟨gp0 A,tv⟩ fun C=>?_)
       refine W1 14 kr O ?_
       obtain⟨k39,k39a,k39d,k39h⟩:=(A.get 1 O).lend
       obtain⟨v128,v128r,f39⟩:=aH.part (aF.ro k39d k39a) aJ (some (.i64,b3)) none O O D
       have f39:=dO w v128r v123r f39
       refine dN (wk0 O) O O B k39h O aJ O O 1 O O f39 F ?_
       intro v127 a w B A
       have A:=Hp.back k39a k39d A
       have A:=r3 A
       refine aA (aB ⟨gp0 A,tv⟩ fun C=>?_)
       refine Ts [15] B C O O kr fun a B C=>?_
       exact aZ kr ⟨_,_,B.cut ⟨O,O,O,tv⟩,A⟩
      refine bW O ?_
      refine dR (wk0 O) O O B A O [(0,(.agg #[(Iv E.a),(Iv E.b)]))] ⟨⟨O,O⟩,tv⟩ [(Iv E.a),(Iv E.b)] 46 (fun w=>by simp[Instr.buildSlice,Instr.fill,Value.cells,go_sem]) ?_
      intro a w b25 B A
      have A:=r3 A
      refine aA (aB ⟨gp0 A,tv⟩ fun C=>?_)
      refine W1 4 kr O ?_
      have A:=(A.get 1 O).imp (dK (l:=(([]:List Opn):List Opn)) (n:=0) O (by decide) O)
      have A:=r3 A
      obtain⟨k40,k40a,k40d,k40h⟩:=(A.get 2 O).lend
      obtain⟨v130,v130r,f40⟩:=aH.part (aF.ro k40d k40a) aJ none (some (.i64,b3)) O O G
      have f40:=dO w v130r v92r f40
      refine dN (wk0 O) O O B k40h O aJ O O 0 O O f40 J ?_
      intro v129 a w B A
      have A:=Hp.back k40a k40d A
      have A:=r3 A
      refine aA (aB ⟨gp0 A,tv⟩ fun C=>?_)
      refine W1 10 kr O ?_
      refine dL (wk0 O) O O B A O aJ O O 1 O O (l2:=[E]) O (fun j u H=>by have:=Hp.cN 2 O 0 _ (aS O) w A j u H;simpa using this) I ?_
      intro v131 a w B A
      have A:=r3 A
      refine aA (aB ⟨gp0 A,tv⟩ fun C=>?_)
      refine W1 14 kr O ?_
      obtain⟨k41,k41a,k41d,k41h⟩:=(A.get 0 O).lend
      obtain⟨v133,v133r,f41⟩:=aH.part (aF.ro k41d k41a) aJ (some (.i64,b3)) none O O D
      have f41:=dO w v133r v123r f41
      refine dN (wk0 O) O O B k41h O aJ O O 0 O O f41 F ?_
      intro v132 a w B A
      have A:=Hp.back k41a k41d A
      have A:=r3 A
      refine aA (aB ⟨gp0 A,tv⟩ fun C=>?_)
      refine Ts [15] B C O O kr fun a B C=>?_
      exact aZ kr ⟨_,_,B.cut ⟨O,O,O,tv⟩,(((A.get 1 O).get 2 O).get 2 O)⟩
     ·
      refine bW O ?_
      refine dR (wk0 O) O O B A O [(0,(.agg #[(Iv E.a),(Iv E.b)]))] ⟨⟨O,O⟩,tv⟩ [(Iv E.a),(Iv E.b)] 46 (fun w=>by simp[Instr.buildSlice,Instr.fill,Value.cells,go_sem]) ?_
      intro a w b26 B A
      have A:=r2 A
      refine aA (aB ⟨gp0 A,tv⟩ fun C=>?_)
      refine dY [0,13] kr O ?_
      refine uE.2 ⟨?_,uE.2 ⟨?_,fun _ h=>absurd h (by simp)⟩⟩
      ·
       refine bW O ?_
       refine dR (wk0 O) O O B A O [] trivial [] 46 (fun w=>by simp[Instr.buildSlice,Instr.fill,Value.cells,go_sem]) ?_
       intro a w b27 B A
       have A:=r3 A
       refine aA (aB ⟨gp0 A,tv⟩ fun C=>?_)
       refine dY [4,13] kr O ?_
       refine uE.2 ⟨?_,uE.2 ⟨?_,fun _ h=>absurd h (by simp)⟩⟩
       ·
        refine bW O ?_
        have A:=(A.get 0 O).imp (dK (l:=(([]:List Opn):List Opn)) (n:=0) O (by decide) O)
        have A:=r3 A
        obtain⟨k42,k42a,k42d,k42h⟩:=(A.get 2 O).lend
        obtain⟨v135,v135r,f42⟩:=aH.part (aF.ro k42d k42a) aJ none (some (.i64,b3)) O O G
        have f42:=dO w v135r v92r f42
        refine dN (wk0 O) O O B k42h O aJ O O 0 O O f42 J ?_
        intro v134 a w B A
        have A:=Hp.back k42a k42d A
        have A:=r3 A
        refine aA (aB ⟨gp0 A,tv⟩ fun C=>?_)
        refine dY [10,13] kr O ?_
        refine uE.2 ⟨?_,uE.2 ⟨?_,fun _ h=>absurd h (by simp)⟩⟩
        ·
         refine bW O ?_
         refine dL (wk0 O) O O B A O aJ O O 1 O O (l2:=[E]) O (fun j u H=>by have:=Hp.cN 2 O 0 _ (aS O) w A j u H;simpa using this) I ?_
         intro v136 a w B A
         have A:=r3 A
         refine aA (aB ⟨gp0 A,tv⟩ fun C=>?_)
         refine W1 13 kr O ?_
         obtain⟨v137,v137r,v137f⟩:=aF.viewF A 0 O aJ (some (.i64,b3)) none O O D
         refine V B A O (v:=v137) (fM O B O (some (.i64,b3)) none (by exact O) (by exact trivial) v137r) fun a B=>?_
         refine aA (aB ⟨gp0 A,tv⟩ fun C=>?_)
         refine W1 14 kr O ?_
         obtain⟨k43,k43a,k43d,k43h⟩:=(A.get 0 O).lend
         obtain⟨v139,v139r,f43⟩:=aH.part (aF.ro k43d k43a) aJ (some (.i64,b3)) none O O D
         have f43:=dO w v139r v137r f43
         refine dN (wk0 O) O O B k43h O aJ O O 0 O O f43 F ?_
         intro v138 a w B A
         have A:=Hp.back k43a k43d A
         have A:=r3 A
         refine aA (aB ⟨gp0 A,tv⟩ fun C=>?_)
         refine Ts [15] B C O O kr fun a B C=>?_
         exact aZ kr ⟨_,_,B.cut ⟨O,O,O,tv⟩,(((A.get 1 O).get 2 O).get 2 O)⟩
        refine bW O ?_
        obtain⟨v140,v140r,v140f⟩:=aF.viewF A 0 O aJ (some (.i64,b3)) none O O D
        refine V B A O (v:=v140) (fM O B O (some (.i64,b3)) none (by exact O) (by exact trivial) v140r) fun a B=>?_
        refine aA (aB ⟨gp0 A,tv⟩ fun C=>?_)
        refine W1 10 kr O ?_
        refine dL (wk0 O) O O B A O aJ O O 1 O O (l2:=[E]) O (fun j u H=>by have:=Hp.cN 2 O 0 _ (aS O) w A j u H;simpa using this) I ?_
        intro v141 a w B A
        have A:=r3 A
        refine aA (aB ⟨gp0 A,tv⟩ fun C=>?_)
        refine W1 14 kr O ?_
        obtain⟨k44,k44a,k44d,k44h⟩:=(A.get 0 O).lend
        obtain⟨v143,v143r,f44⟩:=aH.part (aF.ro k44d k44a) aJ (some (.i64,b3)) none O O D
        have f44:=dO w v143r v140r f44
        refine dN (wk0 O) O O B k44h O aJ O O 0 O O f44 F ?_
        intro v142 a w B A
        have A:=Hp.back k44a k44d A
        have A:=r3 A
        refine aA (aB ⟨gp0 A,tv⟩ fun C=>?_)
        refine Ts [15] B C O O kr fun a B C=>?_
        exact aZ kr ⟨_,_,B.cut ⟨O,O,O,tv⟩,(((A.get 1 O).get 2 O).get 2 O)⟩
       refine bW O ?_
       obtain⟨v144,v144r,v144f⟩:=aF.viewF A 2 O aJ (some (.i64,b3)) none O O D
       refine V B A O (v:=v144) (fM O B O (some (.i64,b3)) none (by exact O) (by exact trivial) v144r) fun a B=>?_
       refine aA (aB ⟨gp0 A,tv⟩ fun C=>?_)
       refine W1 4 kr O ?_
       have A:=(A.get 0 O).imp (dK (l:=(([]:List Opn):List Opn)) (n:=0) O (by decide) O)
       have A:=r3 A
       obtain⟨k45,k45a,k45d,k45h⟩:=(A.get 2 O).lend
       obtain⟨v146,v146r,f45⟩:=aH.part (aF.ro k45d k45a) aJ none (some (.i64,b3)) O O G
       have f45:=dO w v146r v92r f45
       refine dN (wk0 O) O O B k45h O aJ O O 0 O O f45 J ?_
       intro v145 a w B A
       have A:=Hp.back k45a k45d A
       have A:=r3 A
       refine aA (aB ⟨gp0 A,tv⟩ fun C=>?_)
       refine W1 10 kr O ?_
       refine dL (wk0 O) O O B A O aJ O O 1 O O (l2:=[E]) O (fun j u H=>by have:=Hp.cN 2 O 0 _ (aS O) w A j u H;simpa using this) I ?_
       intro v147 a w B A
       have A:=r3 A
       refine aA (aB ⟨gp0 A,tv⟩ fun C=>?_)
       refine W1 14 kr O ?_
       obtain⟨k46,k46a,k46d,k46h⟩:=(A.get 0 O).lend
       obtain⟨v149,v149r,f46⟩:=aH.part (aF.ro k46d k46a) aJ (some (.i64,b3)) none O O D
       have f46:=dO w v149r v144r f46
       refine dN (wk0 O) O O B k46h O aJ O O 0 O O f46 F ?_
       intro v148 a w B A
       have A:=Hp.back k46a k46d A
       have A:=r3 A
       refine aA (aB ⟨gp0 A,tv⟩ fun C=>?_)
       refine Ts [15] B C O O kr fun a B C=>?_
       exact aZ kr ⟨_,_,B.cut ⟨O,O,O,tv⟩,(((A.get 1 O).get 2 O).get 2 O)⟩
      refine bW O ?_
      obtain⟨v150,v150r,v150f⟩:=aF.viewF A 1 O aJ (some (.i64,b3)) none O O D
      refine V B A O (v:=v150) (fM O B O (some (.i64,b3)) none (by exact O) (by exact trivial) v150r) fun a B=>?_
      refine aA (aB ⟨gp0 A,tv⟩ fun C=>?_)
      refine W1 0 kr O ?_
      refine dR (wk0 O) O O B A O [] trivial [] 46 (fun w=>by simp[Instr.buildSlice,Instr.fill,Value.cells,go_sem]) ?_
      intro a w b28 B A
      have A:=r3 A
      refine aA (aB ⟨gp0 A,tv⟩ fun C=>?_)
      refine W1 4 kr O ?_
      have A:=(A.get 0 O).imp (dK (l:=(([]:List Opn):List Opn)) (n:=0) O (by decide) O)
      have A:=r3 A
      obtain⟨k47,k47a,k47d,k47h⟩:=(A.get 2 O).lend
      obtain⟨v152,v152r,f47⟩:=aH.part (aF.ro k47d k47a) aJ none (some (.i64,b3)) O O G
      have f47:=dO w v152r v92r f47
      refine dN (wk0 O) O O B k47h O aJ O O 0 O O f47 J ?_
      intro v151 a w B A
      have A:=Hp.back k47a k47d A
      have A:=r3 A
      refine aA (aB ⟨gp0 A,tv⟩ fun C=>?_)
      refine W1 10 kr O ?_
      refine dL (wk0 O) O O B A O aJ O O 1 O O (l2:=[E]) O (fun j u H=>by have:=Hp.cN 2 O 0 _ (aS O) w A j u H;simpa using this) I ?_
      intro v153 a w B A
      have A:=r3 A
      refine aA (aB ⟨gp0 A,tv⟩ fun C=>?_)
      refine W1 14 kr O ?_
      obtain⟨k48,k48a,k48d,k48h⟩:=(A.get 0 O).lend
      obtain⟨v155,v155r,f48⟩:=aH.part (aF.ro k48d k48a) aJ (some (.i64,b3)) none O O D
      have f48:=dO w v155r v150r f48
      refine dN (wk0 O) O O B k48h O aJ O O 0 O O f48 F ?_
      intro v154 a w B A
      have A:=Hp.back k48a k48d A
      have A:=r3 A
      refine aA (aB ⟨gp0 A,tv⟩ fun C=>?_)
      refine Ts [15] B C O O kr fun a B C=>?_
      exact aZ kr ⟨_,_,B.cut ⟨O,O,O,tv⟩,(((A.get 1 O).get 2 O).get 2 O)⟩
     refine bW O ?_
     obtain⟨v156,v156r,v156f⟩:=aF.viewF A 0 O aJ (some (.i64,b3)) none O O D
     refine V B A O (v:=v156) (fM O B O (some (.i64,b3)) none (by exact O) (by exact trivial) v156r) fun a B=>?_
     refine aA (aB ⟨gp0 A,tv⟩ fun C=>?_)
     refine dY [0,9] kr O ?_
     refine uE.2 ⟨?_,uE.2 ⟨?_,fun _ h=>absurd h (by simp)⟩⟩
     ·
      refine bW O ?_
      refine dR (wk0 O) O O B A O [] trivial [] 46 (fun w=>by simp[Instr.buildSlice,Instr.fill,Value.cells,go_sem]) ?_
      intro a w b29 B A
      have A:=r2 A
      refine aA (aB ⟨gp0 A,tv⟩ fun C=>?_)
      refine dY [4,9] kr O ?_
      refine uE.2 ⟨?_,uE.2 ⟨?_,fun _ h=>absurd h (by simp)⟩⟩
      ·
       refine bW O ?_
       have A:=(A.get 0 O).imp (dK (l:=(([]:List Opn):List Opn)) (n:=0) O (by decide) O)
       have A:=r2 A
       obtain⟨k49,k49a,k49d,k49h⟩:=(A.get 1 O).lend
       obtain⟨v158,v158r,f49⟩:=aH.part (aF.ro k49d k49a) aJ none (some (.i64,b3)) O O G
       have f49:=dO w v158r v92r f49
       refine dN (wk0 O) O O B k49h O aJ O O 0 O O f49 J ?_
       intro v157 a w B A
       have A:=Hp.back k49a k49d A
       have A:=r2 A
       refine aA (aB ⟨gp0 A,tv⟩ fun C=>?_)
       refine W1 9 kr O ?_
       refine dR (wk0 O) O O B A O [(0,(.agg #[(Iv E.a),(Iv E.b)]))] ⟨⟨O,O⟩,tv⟩ [(Iv E.a),(Iv E.b)] 46 (fun w=>by simp[Instr.buildSlice,Instr.fill,Value.cells,go_sem]) ?_
       intro a w b30 B A
       have A:=r3 A
       refine aA (aB ⟨gp0 A,tv⟩ fun C=>?_)
       refine W1 10 kr O ?_
       refine dL (wk0 O) O O B A O aJ O O 2 O O (l2:=[E]) O (fun j u H=>by have:=Hp.cN 0 O 0 _ (aS O) w A j u H;simpa using this) I ?_
       intro v159 a w B A
       have A:=r3 A
       refine aA (aB ⟨gp0 A,tv⟩ fun C=>?_)
       refine W1 14 kr O ?_
       obtain⟨k50,k50a,k50d,k50h⟩:=(A.get 1 O).lend
       obtain⟨v161,v161r,f50⟩:=aH.part (aF.ro k50d k50a) aJ (some (.i64,b3)) none O O D
       have f50:=dO w v161r v156r f50
       refine dN (wk0 O) O O B k50h O aJ O O 1 O O f50 F ?_
       intro v160 a w B A
       have A:=Hp.back k50a k50d A
       have A:=r3 A
       refine aA (aB ⟨gp0 A,tv⟩ fun C=>?_)
       refine Ts [15] B C O O kr fun a B C=>?_
       exact aZ kr ⟨_,_,B.cut ⟨O,O,O,tv⟩,A⟩
      refine bW O ?_
      refine dR (wk0 O) O O B A O [(0,(.agg #[(Iv E.a),(Iv E.b)]))] ⟨⟨O,O⟩,tv⟩ [(Iv E.a),(Iv E.b)] 46 (fun w=>by simp[Instr.buildSlice,Instr.fill,Value.cells,go_sem]) ?_
      intro a w b31 B A
      have A:=r3 A
      refine aA (aB ⟨gp0 A,tv⟩ fun C=>?_)
      refine W1 4 kr O ?_
      have A:=(A.get 1 O).imp (dK (l:=(([]:List Opn):List Opn)) (n:=0) O (by decide) O)
      have A:=r3 A
      obtain⟨k51,k51a,k51d,k51h⟩:=(A.get 2 O).lend
      obtain⟨v163,v163r,f51⟩:=aH.part (aF.ro k51d k51a) aJ none (some (.i64,b3)) O O G
      have f51:=dO w v163r v92r f51
      refine dN (wk0 O) O O B k51h O aJ O O 0 O O f51 J ?_
      intro v162 a w B A
      have A:=Hp.back k51a k51d A
      have A:=r3 A
      refine aA (aB ⟨gp0 A,tv⟩ fun C=>?_)
      refine W1 10 kr O ?_
      refine dL (wk0 O) O O B A O aJ O O 1 O O (l2:=[E]) O (fun j u H=>by have:=Hp.cN 2 O 0 _ (aS O) w A j u H;simpa using this) I ?_
      intro v164 a w B A
      have A:=r3 A
      refine aA (aB ⟨gp0 A,tv⟩ fun C=>?_)
      refine W1 14 kr O ?_
      obtain⟨k52,k52a,k52d,k52h⟩:=(A.get 0 O).lend
      obtain⟨v166,v166r,f52⟩:=aH.part (aF.ro k52d k52a) aJ (some (.i64,b3)) none O O D
      have f52:=dO w v166r v156r f52
      refine dN (wk0 O) O O B k52h O aJ O O 0 O O f52 F ?_
      intro v165 a w B A
      have A:=Hp.back k52a k52d A
      have A:=r3 A
      refine aA (aB ⟨gp0 A,tv⟩ fun C=>?_)
      refine Ts [15] B C O O kr fun a B C=>?_
      exact aZ kr ⟨_,_,B.cut ⟨O,O,O,tv⟩,(((A.get 1 O).get 2 O).get 2 O)⟩
     refine bW O ?_
     refine dR (wk0 O) O O B A O [(0,(.agg #[(Iv E.a),(Iv E.b)]))] ⟨⟨O,O⟩,tv⟩ [(Iv E.a),(Iv E.b)] 46 (fun w=>by simp[Instr.buildSlice,Instr.fill,Value.cells,go_sem]) ?_
     intro a w b32 B A
     have A:=r2 A
     refine aA (aB ⟨gp0 A,tv⟩ fun C=>?_)
     refine W1 0 kr O ?_
     refine dR (wk0 O) O O B A O [] trivial [] 46 (fun w=>by simp[Instr.buildSlice,Instr.fill,Value.cells,go_sem]) ?_
     intro a w b33 B A
     have A:=r3 A
     refine aA (aB ⟨gp0 A,tv⟩ fun C=>?_)
     refine W1 4 kr O ?_
     have A:=(A.get 0 O).imp (dK (l:=(([]:List Opn):List Opn)) (n:=0) O (by decide) O)
     have A:=r3 A
     obtain⟨k53,k53a,k53d,k53h⟩:=(A.get 2 O).lend
     obtain⟨v168,v168r,f53⟩:=aH.part (aF.ro k53d k53a) aJ none (some (.i64,b3)) O O G
     have f53:=dO w v168r v92r f53
     refine dN (wk0 O) O O B k53h O aJ O O 0 O O f53 J ?_
     intro v167 a w B A
     have A:=Hp.back k53a k53d A
     have A:=r3 A
     refine aA (aB ⟨gp0 A,tv⟩ fun C=>?_)
     refine W1 10 kr O ?_
     refine dL (wk0 O) O O B A O aJ O O 1 O O (l2:=[E]) O (fun j u H=>by have:=Hp.cN 2 O 0 _ (aS O) w A j u H;simpa using this) I ?_
     intro v169 a w B A
     have A:=r3 A
     refine aA (aB ⟨gp0 A,tv⟩ fun C=>?_)
     refine W1 14 kr O ?_
     obtain⟨k54,k54a,k54d,k54h⟩:=(A.get 0 O).lend
     obtain⟨v171,v171r,f54⟩:=aH.part (aF.ro k54d k54a) aJ (some (.i64,b3)) none O O D
     have f54:=dO w v171r v156r f54
     refine dN (wk0 O) O O B k54h O aJ O O 0 O O f54 F ?_
     intro v170 a w B A
     have A:=Hp.back k54a k54d A
     have A:=r3 A
     refine aA (aB ⟨gp0 A,tv⟩ fun C=>?_)
     refine Ts [15] B C O O kr fun a B C=>?_
     exact aZ kr ⟨_,_,B.cut ⟨O,O,O,tv⟩,(((A.get 1 O).get 2 O).get 2 O)⟩
    ·
     refine bW O ?_
     refine dR (wk0 O) O O B A O [(0,(.agg #[(Iv E.a),(Iv E.b)]))] ⟨⟨O,O⟩,tv⟩ [(Iv E.a),(Iv E.b)] 46 (fun w=>by simp[Instr.buildSlice,Instr.fill,Value.cells,go_sem]) ?_
     intro a w b34 B A
     have A:=r2 A
     refine aA (aB ⟨gp0 A,tv⟩ fun C=>?_)
     refine dY [0,3,13] kr O ?_
     refine uE.2 ⟨?_,uE.2 ⟨?_,uE.2 ⟨?_,fun _ h=>absurd h (by simp)⟩⟩⟩
     ·
      refine bW O ?_
      refine dR (wk0 O) O O B A O [] trivial [] 46 (fun w=>by simp[Instr.buildSlice,Instr.fill,Value.cells,go_sem]) ?_
      intro a w b35 B A
      have A:=r3 A
      refine aA (aB ⟨gp0 A,tv⟩ fun C=>?_)
      refine dY [3,13] kr O ?_
      refine uE.2 ⟨?_,uE.2 ⟨?_,fun _ h=>absurd h (by simp)⟩⟩
      ·
       refine bW O ?_
       obtain⟨v172,v172r,v172f⟩:=aF.viewF A 2 O aJ none (some (.i64,b3)) O O G
       refine V B A O (v:=v172) (fM O B O none (some (.i64,b3)) (by exact trivial) (by exact O) v172r) fun a B=>?_
       refine aA (aB ⟨gp0 A,tv⟩ fun C=>?_)
       refine dY [4,13] kr O ?_
       refine uE.2 ⟨?_,uE.2 ⟨?_,fun _ h=>absurd h (by simp)⟩⟩
       ·
        refine bW O ?_
        have A:=(A.get 0 O).imp (dK (l:=(([]:List Opn):List Opn)) (n:=0) O (by decide) O)
        have A:=r3 A
        obtain⟨k55,k55a,k55d,k55h⟩:=(A.get 2 O).lend
        obtain⟨v174,v174r,f55⟩:=aH.part (aF.ro k55d k55a) aJ none (some (.i64,b3)) O O G
        have f55:=dO w v174r v172r f55
        refine dN (wk0 O) O O B k55h O aJ O O 0 O O f55 J ?_
        intro v173 a w B A
        have A:=Hp.back k55a k55d A
        have A:=r3 A
        refine aA (aB ⟨gp0 A,tv⟩ fun C=>?_)
        refine dY [10,13] kr O ?_
        refine uE.2 ⟨?_,uE.2 ⟨?_,fun _ h=>absurd h (by simp)⟩⟩
        ·
         refine bW O ?_
         refine dL (wk0 O) O O B A O aJ O O 1 O O (l2:=[E]) O (fun j u H=>by have:=Hp.cN 2 O 0 _ (aS O) w A j u H;simpa using this) I ?_
         intro v175 a w B A
         have A:=r3 A
         refine aA (aB ⟨gp0 A,tv⟩ fun C=>?_)
         refine W1 13 kr O ?_
         obtain⟨v176,v176r,v176f⟩:=aF.viewF A 0 O aJ (some (.i64,b3)) none O O D
         refine V B A O (v:=v176) (fM O B O (some (.i64,b3)) none (by exact O) (by exact trivial) v176r) fun a B=>?_
         refine aA (aB ⟨gp0 A,tv⟩ fun C=>?_)
         refine W1 14 kr O ?_
         obtain⟨k56,k56a,k56d,k56h⟩:=(A.get 0 O).lend
         obtain⟨v178,v178r,f56⟩:=aH.part (aF.ro k56d k56a) aJ (some (.i64,b3)) none O O D
         have f56:=dO w v178r v176r f56
         refine dN (wk0 O) O O B k56h O aJ O O 0 O O f56 F ?_
         intro v177 a w B A
         have A:=Hp.back k56a k56d A
         have A:=r3 A
         refine aA (aB ⟨gp0 A,tv⟩ fun C=>?_)
         refine Ts [15] B C O O kr fun a B C=>?_
         exact aZ kr ⟨_,_,B.cut ⟨O,O,O,tv⟩,(((A.get 1 O).get 2 O).get 2 O)⟩
        refine bW O ?_
        obtain⟨v179,v179r,v179f⟩:=aF.viewF A 0 O aJ (some (.i64,b3)) none O O D
        refine V B A O (v:=v179) (fM O B O (some (.i64,b3)) none (by exact O) (by exact trivial) v179r) fun a B=>?_
        refine aA (aB ⟨gp0 A,tv⟩ fun C=>?_)
        refine W1 10 kr O ?_
        refine dL (wk0 O) O O B A O aJ O O 1 O O (l2:=[E]) O (fun j u H=>by have:=Hp.cN 2 O 0 _ (aS O) w A j u H;simpa using this) I ?_
        intro v180 a w B A
        have A:=r3 A
        refine aA (aB ⟨gp0 A,tv⟩ fun C=>?_)
        refine W1 14 kr O ?_
        obtain⟨k57,k57a,k57d,k57h⟩:=(A.get 0 O).lend
        obtain⟨v182,v182r,f57⟩:=aH.part (aF.ro k57d k57a) aJ (some (.i64,b3)) none O O D
        have f57:=dO w v182r v179r f57
        refine dN (wk0 O) O O B k57h O aJ O O 0 O O f57 F ?_
        intro v181 a w B A
        have A:=Hp.back k57a k57d A
        have A:=r3 A
        refine aA (aB ⟨gp0 A,tv⟩ fun C=>?_)
        refine Ts [15] B C O O kr fun a B C=>?_
        exact aZ kr ⟨_,_,B.cut ⟨O,O,O,tv⟩,(((A.get 1 O).get 2 O).get 2 O)⟩
       refine bW O ?_
       obtain⟨v183,v183r,v183f⟩:=aF.viewF A 2 O aJ (some (.i64,b3)) none O O D
       refine V B A O (v:=v183) (fM O B O (some (.i64,b3)) none (by exact O) (by exact trivial) v183r) fun a B=>?_
       refine aA (aB ⟨gp0 A,tv⟩ fun C=>?_)
       refine W1 4 kr O ?_
       have A:=(A.get 0 O).imp (dK (l:=(([]:List Opn):List Opn)) (n:=0) O (by decide) O)
       have A:=r3 A
       obtain⟨k58,k58a,k58d,k58h⟩:=(A.get 2 O).lend
       obtain⟨v185,v185r,f58⟩:=aH.part (aF.ro k58d k58a) aJ none (some (.i64,b3)) O O G
       have f58:=dO w v185r v172r f58
       refine dN (wk0 O) O O B k58h O aJ O O 0 O O f58 J ?_
       intro v184 a w B A
       have A:=Hp.back k58a k58d A
       have A:=r3 A
       refine aA (aB ⟨gp0 A,tv⟩ fun C=>?_)
       refine W1 10 kr O ?_
       refine dL (wk0 O) O O B A O aJ O O 1 O O (l2:=[E]) O (fun j u H=>by have:=Hp.cN 2 O 0 _ (aS O) w A j u H;simpa using this) I ?_
       intro v186 a w B A
       have A:=r3 A
       refine aA (aB ⟨gp0 A,tv⟩ fun C=>?_)
       refine W1 14 kr O ?_
       obtain⟨k59,k59a,k59d,k59h⟩:=(A.get 0 O).lend
       obtain⟨v188,v188r,f59⟩:=aH.part (aF.ro k59d k59a) aJ (some (.i64,b3)) none O O D
       have f59:=dO w v188r v183r f59
       refine dN (wk0 O) O O B k59h O aJ O O 0 O O f59 F ?_
       intro v187 a w B A
       have A:=Hp.back k59a k59d A
       have A:=r3 A
       refine aA (aB ⟨gp0 A,tv⟩ fun C=>?_)
       refine Ts [15] B C O O kr fun a B C=>?_
       exact aZ kr ⟨_,_,B.cut ⟨O,O,O,tv⟩,(((A.get 1 O).get 2 O).get 2 O)⟩
      refine bW O ?_
      obtain⟨v189,v189r,v189f⟩:=aF.viewF A 2 O aJ (some (.i64,b3)) none O O D
      refine V B A O (v:=v189) (fM O B O (some (.i64,b3)) none (by exact O) (by exact trivial) v189r) fun a B=>?_
      refine aA (aB ⟨gp0 A,tv⟩ fun C=>?_)
      refine W1 3 kr O ?_
      obtain⟨v190,v190r,v190f⟩:=aF.viewF A 2 O aJ none (some (.i64,b3)) O O G
      refine V B A O (v:=v190) (fM O B O none (some (.i64,b3)) (by exact trivial) (by exact O) v190r) fun a B=>?_
      refine aA (aB ⟨gp0 A,tv⟩ fun C=>?_)
      refine W1 4 kr O ?_
      have A:=(A.get 0 O).imp (dK (l:=(([]:List Opn):List Opn)) (n:=0) O (by decide) O)
      have A:=r3 A
      obtain⟨k60,k60a,k60d,k60h⟩:=(A.get 2 O).lend
      obtain⟨v192,v192r,f60⟩:=aH.part (aF.ro k60d k60a) aJ none (some (.i64,b3)) O O G
      have f60:=dO w v192r v190r f60
      refine dN (wk0 O) O O B k60h O aJ O O 0 O O f60 J ?_
      intro v191 a w B A
      have A:=Hp.back k60a k60d A
      have A:=r3 A
      refine aA (aB ⟨gp0 A,tv⟩ fun C=>?_)
      refine W1 10 kr O ?_
      refine dL (wk0 O) O O B A O aJ O O 1 O O (l2:=[E]) O (fun j u H=>by have:=Hp.cN 2 O 0 _ (aS O) w A j u H;simpa using this) I ?_
      intro v193 a w B A
      have A:=r3 A
      refine aA (aB ⟨gp0 A,tv⟩ fun C=>?_)
      refine W1 14 kr O ?_
      obtain⟨k61,k61a,k61d,k61h⟩:=(A.get 0 O).lend
      obtain⟨v195,v195r,f61⟩:=aH.part (aF.ro k61d k61a) aJ (some (.i64,b3)) none O O D
      have f61:=dO w v195r v189r f61
      refine dN (wk0 O) O O B k61h O aJ O O 0 O O f61 F ?_
      intro v194 a w B A
      have A:=Hp.back k61a k61d A
      have A:=r3 A
      refine aA (aB ⟨gp0 A,tv⟩ fun C=>?_)
      refine Ts [15] B C O O kr fun a B C=>?_
      exact aZ kr ⟨_,_,B.cut ⟨O,O,O,tv⟩,(((A.get 1 O).get 2 O).get 2 O)⟩
     ·
      refine bW O ?_
      obtain⟨v196,v196r,v196f⟩:=aF.viewF A 1 O aJ none (some (.i64,b3)) O O G
      refine V B A O (v:=v196) (fM O B O none (some (.i64,b3)) (by exact trivial) (by exact O) v196r) fun a B=>?_
      refine aA (aB ⟨gp0 A,tv⟩ fun C=>?_)
      refine dY [0,13] kr O ?_
      refine uE.2 ⟨?_,uE.2 ⟨?_,fun _ h=>absurd h (by simp)⟩⟩
      ·
       refine bW O ?_
       refine dR (wk0 O) O O B A O [] trivial [] 46 (fun w=>by simp[Instr.buildSlice,Instr.fill,Value.cells,go_sem]) ?_
       intro a w b36 B A
       have A:=r3 A
       refine aA (aB ⟨gp0 A,tv⟩ fun C=>?_)
       refine dY [4,13] kr O ?_
       refine uE.2 ⟨?_,uE.2 ⟨?_,fun _ h=>absurd h (by simp)⟩⟩
       ·
        refine bW O ?_
        have A:=(A.get 0 O).imp (dK (l:=(([]:List Opn):List Opn)) (n:=0) O (by decide) O)
        have A:=r3 A
        obtain⟨k62,k62a,k62d,k62h⟩:=(A.get 2 O).lend
        obtain⟨v198,v198r,f62⟩:=aH.part (aF.ro k62d k62a) aJ none (some (.i64,b3)) O O G
        have f62:=dO w v198r v196r f62
        refine dN (wk0 O) O O B k62h O aJ O O 0 O O f62 J ?_
        intro v197 a w B A
        have A:=Hp.back k62a k62d A
        have A:=r3 A
        refine aA (aB ⟨gp0 A,tv⟩ fun C=>?_)
        refine dY [10,13] kr O ?_
        refine uE.2 ⟨?_,uE.2 ⟨?_,fun _ h=>absurd h (by simp)⟩⟩
        ·
         refine bW O ?_
         refine dL (wk0 O) O O B A O aJ O O 1 O O (l2:=[E]) O (fun j u H=>by have:=Hp.cN 2 O 0 _ (aS O) w A j u H;simpa using this) I ?_
         intro v199 a w B A
         have A:=r3 A
         refine aA (aB ⟨gp0 A,tv⟩ fun C=>?_)
         refine W1 13 kr O ?_
         obtain⟨v200,v200r,v200f⟩:=aF.viewF A 0 O aJ (some (.i64,b3)) none O O D
         refine V B A O (v:=v200) (fM O B O (some (.i64,b3)) none (by exact O) (by exact trivial) v200r) fun a B=>?_
         refine aA (aB ⟨gp0 A,tv⟩ fun C=>?_)
         refine W1 14 kr O ?_
         obtain⟨k63,k63a,k63d,k63h⟩:=(A.get 0 O).lend
         obtain⟨v202,v202r,f63⟩:=aH.part (aF.ro k63d k63a) aJ (some (.i64,b3)) none O O D
         have f63:=dO w v202r v200r f63
         refine dN (wk0 O) O O B k63h O aJ O O 0 O O f63 F ?_
         intro v201 a w B A
         have A:=Hp.back k63a k63d A
         have A:=r3 A
         refine aA (aB ⟨gp0 A,tv⟩ fun C=>?_)
         refine Ts [15] B C O O kr fun a B C=>?_
         exact aZ kr ⟨_,_,B.cut ⟨O,O,O,tv⟩,(((A.get 1 O).get 2 O).get 2 O)⟩
        refine bW O ?_
        obtain⟨v203,v203r,v203f⟩:=aF.viewF A 0 O aJ (some (.i64,b3)) none O O D
        refine V B A O (v:=v203) (fM O B O (some (.i64,b3)) none (by exact O) (by exact trivial) v203r) fun a B=>?_
        refine aA (aB ⟨gp0 A,tv⟩ fun C=>?_)
        refine W1 10 kr O ?_
        refine dL (wk0 O) O O B A O aJ O O 1 O O (l2:=[E]) O (fun j u H=>by have:=Hp.cN 2 O 0 _ (aS O) w A j u H;simpa using this) I ?_
        intro v204 a w B A
        have A:=r3 A
        refine aA (aB ⟨gp0 A,tv⟩ fun C=>?_)
        refine W1 14 kr O ?_
        obtain⟨k64,k64a,k64d,k64h⟩:=(A.get 0 O).lend
        obtain⟨v206,v206r,f64⟩:=aH.part (aF.ro k64d k64a) aJ (some (.i64,b3)) none O O D
        have f64:=dO w v206r v203r f64
        refine dN (wk0 O) O O B k64h O aJ O O 0 O O f64 F ?_
        intro v205 a w B A
        have A:=Hp.back k64a k64d A
        have A:=r3 A
        refine aA (aB ⟨gp0 A,tv⟩ fun C=>?_)
        refine Ts [15] B C O O kr fun a B C=>?_
        exact aZ kr ⟨_,_,B.cut ⟨O,O,O,tv⟩,(((A.get 1 O).get 2 O).get 2 O)⟩
       refine bW O ?_
       obtain⟨v207,v207r,v207f⟩:=aF.viewF A 2 O aJ (some (.i64,b3)) none O O D
       refine V B A O (v:=v207) (fM O B O (some (.i64,b3)) none (by exact O) (by exact trivial) v207r) fun a B=>?_
       refine aA (aB ⟨gp0 A,tv⟩ fun C=>?_)
       refine W1 4 kr O ?_
       have A:=(A.get 0 O).imp (dK (l:=(([]:List Opn):List Opn)) (n:=0) O (by decide) O)
       have A:=r3 A
       obtain⟨k65,k65a,k65d,k65h⟩:=(A.get 2 O).lend
       obtain⟨v209,v209r,f65⟩:=aH.part (aF.ro k65d k65a) aJ none (some (.i64,b3)) O O G
       have f65:=dO w v209r v196r f65
       refine dN (wk0 O) O O B k65h O aJ O O 0 O O f65 J ?_
       intro v208 a w B A
       have A:=Hp.back k65a k65d A
       have A:=r3 A
       refine aA (aB ⟨gp0 A,tv⟩ fun C=>?_)
       refine W1 10 kr O ?_
       refine dL (wk0 O) O O B A O aJ O O 1 O O (l2:=[E]) O (fun j u H=>by have:=Hp.cN 2 O 0 _ (aS O) w A j u H;simpa using this) I ?_
       intro v210 a w B A
       have A:=r3 A
       refine aA (aB ⟨gp0 A,tv⟩ fun C=>?_)
       refine W1 14 kr O ?_
       obtain⟨k66,k66a,k66d,k66h⟩:=(A.get 0 O).lend
       obtain⟨v212,v212r,f66⟩:=aH.part (aF.ro k66d k66a) aJ (some (.i64,b3)) none O O D
       have f66:=dO w v212r v207r f66
       refine dN (wk0 O) O O B k66h O aJ O O 0 O O f66 F ?_
       intro v211 a w B A
       have A:=Hp.back k66a k66d A
       have A:=r3 A
       refine aA (aB ⟨gp0 A,tv⟩ fun C=>?_)
       refine Ts [15] B C O O kr fun a B C=>?_
       exact aZ kr ⟨_,_,B.cut ⟨O,O,O,tv⟩,(((A.get 1 O).get 2 O).get 2 O)⟩
      refine bW O ?_
      obtain⟨v213,v213r,v213f⟩:=aF.viewF A 1 O aJ (some (.i64,b3)) none O O D
      refine V B A O (v:=v213) (fM O B O (some (.i64,b3)) none (by exact O) (by exact trivial) v213r) fun a B=>?_
      refine aA (aB ⟨gp0 A,tv⟩ fun C=>?_)
      refine W1 0 kr O ?_
      refine dR (wk0 O) O O B A O [] trivial [] 46 (fun w=>by simp[Instr.buildSlice,Instr.fill,Value.cells,go_sem]) ?_
      intro a w b37 B A
      have A:=r3 A
      refine aA (aB ⟨gp0 A,tv⟩ fun C=>?_)
      refine W1 4 kr O ?_
      have A:=(A.get 0 O).imp (dK (l:=(([]:List Opn):List Opn)) (n:=0) O (by decide) O)
      have A:=r3 A
      obtain⟨k67,k67a,k67d,k67h⟩:=(A.get 2 O).lend
      obtain⟨v215,v215r,f67⟩:=aH.part (aF.ro k67d k67a) aJ none (some (.i64,b3)) O O G
      have f67:=dO w v215r v196r f67
      refine dN (wk0 O) O O B k67h O aJ O O 0 O O f67 J ?_
      intro v214 a w B A
      have A:=Hp.back k67a k67d A
      have A:=r3 A
      refine aA (aB ⟨gp0 A,tv⟩ fun C=>?_)
      refine W1 10 kr O ?_
      refine dL (wk0 O) O O B A O aJ O O 1 O O (l2:=[E]) O (fun j u H=>by have:=Hp.cN 2 O 0 _ (aS O) w A j u H;simpa using this) I ?_
      intro v216 a w B A
      have A:=r3 A
      refine aA (aB ⟨gp0 A,tv⟩ fun C=>?_)
      refine W1 14 kr O ?_
      obtain⟨k68,k68a,k68d,k68h⟩:=(A.get 0 O).lend
      obtain⟨v218,v218r,f68⟩:=aH.part (aF.ro k68d k68a) aJ (some (.i64,b3)) none O O D
      have f68:=dO w v218r v213r f68
      refine dN (wk0 O) O O B k68h O aJ O O 0 O O f68 F ?_
      intro v217 a w B A
      have A:=Hp.back k68a k68d A
      have A:=r3 A
      refine aA (aB ⟨gp0 A,tv⟩ fun C=>?_)
      refine Ts [15] B C O O kr fun a B C=>?_
      exact aZ kr ⟨_,_,B.cut ⟨O,O,O,tv⟩,(((A.get 1 O).get 2 O).get 2 O)⟩
     refine bW O ?_
     obtain⟨v219,v219r,v219f⟩:=aF.viewF A 1 O aJ (some (.i64,b3)) none O O D
     refine V B A O (v:=v219) (fM O B O (some (.i64,b3)) none (by exact O) (by exact trivial) v219r) fun a B=>?_
     refine aA (aB ⟨gp0 A,tv⟩ fun C=>?_)
     refine dY [0,3] kr O ?_
     refine uE.2 ⟨?_,uE.2 ⟨?_,fun _ h=>absurd h (by simp)⟩⟩
     ·
      refine bW O ?_
      refine dR (wk0 O) O O B A O [] trivial [] 46 (fun w=>by simp[Instr.buildSlice,Instr.fill,Value.cells,go_sem]) ?_
      intro a w b38 B A
      have A:=r3 A
      refine aA (aB ⟨gp0 A,tv⟩ fun C=>?_)
      refine W1 3 kr O ?_
      obtain⟨v220,v220r,v220f⟩:=aF.viewF A 2 O aJ none (some (.i64,b3)) O O G
      refine V B A O (v:=v220) (fM O B O none (some (.i64,b3)) (by exact trivial) (by exact O) v220r) fun a B=>?_
      refine aA (aB ⟨gp0 A,tv⟩ fun C=>?_)
      refine W1 4 kr O ?_
      have A:=(A.get 0 O).imp (dK (l:=(([]:List Opn):List Opn)) (n:=0) O (by decide) O)
      have A:=r3 A
      obtain⟨k69,k69a,k69d,k69h⟩:=(A.get 2 O).lend
      obtain⟨v222,v222r,f69⟩:=aH.part (aF.ro k69d k69a) aJ none (some (.i64,b3)) O O G
      have f69:=dO w v222r v220r f69
      refine dN (wk0 O) O O B k69h O aJ O O 0 O O f69 J ?_
      intro v221 a w B A
      have A:=Hp.back k69a k69d A
      have A:=r3 A
      refine aA (aB ⟨gp0 A,tv⟩ fun C=>?_)
      refine W1 10 kr O ?_
      refine dL (wk0 O) O O B A O aJ O O 1 O O (l2:=[E]) O (fun j u H=>by have:=Hp.cN 2 O 0 _ (aS O) w A j u H;simpa using this) I ?_
      intro v223 a w B A
      have A:=r3 A
      refine aA (aB ⟨gp0 A,tv⟩ fun C=>?_)
      refine W1 14 kr O ?_
      obtain⟨k70,k70a,k70d,k70h⟩:=(A.get 0 O).lend
      obtain⟨v225,v225r,f70⟩:=aH.part (aF.ro k70d k70a) aJ (some (.i64,b3)) none O O D
      have f70:=dO w v225r v219r f70
      refine dN (wk0 O) O O B k70h O aJ O O 0 O O f70 F ?_
      intro v224 a w B A
      have A:=Hp.back k70a k70d A
      have A:=r3 A
      refine aA (aB ⟨gp0 A,tv⟩ fun C=>?_)
      refine Ts [15] B C O O kr fun a B C=>?_
      exact aZ kr ⟨_,_,B.cut ⟨O,O,O,tv⟩,(((A.get 1 O).get 2 O).get 2 O)⟩
     refine bW O ?_
     obtain⟨v226,v226r,v226f⟩:=aF.viewF A 1 O aJ none (some (.i64,b3)) O O G
     refine V B A O (v:=v226) (fM O B O none (some (.i64,b3)) (by exact trivial) (by exact O) v226r) fun a B=>?_
     refine aA (aB ⟨gp0 A,tv⟩ fun C=>?_)
     refine W1 0 kr O ?_
     refine dR (wk0 O) O O B A O [] trivial [] 46 (fun w=>by simp[Instr.buildSlice,Instr.fill,Value.cells,go_sem]) ?_
     intro a w b39 B A
     have A:=r3 A
     refine aA (aB ⟨gp0 A,tv⟩ fun C=>?_)
     refine W1 4 kr O ?_
     have A:=(A.get 0 O).imp (dK (l:=(([]:List Opn):List Opn)) (n:=0) O (by decide) O)
     have A:=r3 A
     obtain⟨k71,k71a,k71d,k71h⟩:=(A.get 2 O).lend
     obtain⟨v228,v228r,f71⟩:=aH.part (aF.ro k71d k71a) aJ none (some (.i64,b3)) O O G
     have f71:=dO w v228r v226r f71
     refine dN (wk0 O) O O B k71h O aJ O O 0 O O f71 J ?_
     intro v227 a w B A
     have A:=Hp.back k71a k71d A
     have A:=r3 A
     refine aA (aB ⟨gp0 A,tv⟩ fun C=>?_)
     refine W1 10 kr O ?_
     refine dL (wk0 O) O O B A O aJ O O 1 O O (l2:=[E]) O (fun j u H=>by have:=Hp.cN 2 O 0 _ (aS O) w A j u H;simpa using this) I ?_
     intro v229 a w B A
     have A:=r3 A
     refine aA (aB ⟨gp0 A,tv⟩ fun C=>?_)
     refine W1 14 kr O ?_
     obtain⟨k72,k72a,k72d,k72h⟩:=(A.get 0 O).lend
     obtain⟨v231,v231r,f72⟩:=aH.part (aF.ro k72d k72a) aJ (some (.i64,b3)) none O O D
     have f72:=dO w v231r v219r f72
     refine dN (wk0 O) O O B k72h O aJ O O 0 O O f72 F ?_
     intro v230 a w B A
     have A:=Hp.back k72a k72d A
     have A:=r3 A
     refine aA (aB ⟨gp0 A,tv⟩ fun C=>?_)
     refine Ts [15] B C O O kr fun a B C=>?_
     exact aZ kr ⟨_,_,B.cut ⟨O,O,O,tv⟩,(((A.get 1 O).get 2 O).get 2 O)⟩
    refine bW O ?_
    obtain⟨v232,v232r,v232f⟩:=aF.viewF A 0 O aJ (some (.i64,b3)) none O O D
    refine V B A O (v:=v232) (fM O B O (some (.i64,b3)) none (by exact O) (by exact trivial) v232r) fun a B=>?_
    refine aA (aB ⟨gp0 A,tv⟩ fun C=>?_)
    refine dY [0,3,9] kr O ?_
    refine uE.2 ⟨?_,uE.2 ⟨?_,uE.2 ⟨?_,fun _ h=>absurd h (by simp)⟩⟩⟩
    ·
     refine bW O ?_
     refine dR (wk0 O) O O B A O [] trivial [] 46 (fun w=>by simp[Instr.buildSlice,Instr.fill,Value.cells,go_sem]) ?_
     intro a w b40 B A
     have A:=r2 A
     refine aA (aB ⟨gp0 A,tv⟩ fun C=>?_)
     refine dY [3,9] kr O ?_
     refine uE.2 ⟨?_,uE.2 ⟨?_,fun _ h=>absurd h (by simp)⟩⟩
     ·
      refine bW O ?_
      obtain⟨v233,v233r,v233f⟩:=aF.viewF A 1 O aJ none (some (.i64,b3)) O O G
      refine V B A O (v:=v233) (fM O B O none (some (.i64,b3)) (by exact trivial) (by exact O) v233r) fun a B=>?_
      refine aA (aB ⟨gp0 A,tv⟩ fun C=>?_)
      refine dY [4,9] kr O ?_
      refine uE.2 ⟨?_,uE.2 ⟨?_,fun _ h=>absurd h (by simp)⟩⟩
      ·
       refine bW O ?_
       have A:=(A.get 0 O).imp (dK (l:=(([]:List Opn):List Opn)) (n:=0) O (by decide) O)
       have A:=r2 A
       obtain⟨k73,k73a,k73d,k73h⟩:=(A.get 1 O).lend
       obtain⟨v235,v235r,f73⟩:=aH.part (aF.ro k73d k73a) aJ none (some (.i64,b3)) O O G
       have f73:=dO w v235r v233r f73
       refine dN (wk0 O) O O B k73h O aJ O O 0 O O f73 J ?_
       intro v234 a w B A
       have A:=Hp.back k73a k73d A
       have A:=r2 A
       refine aA (aB ⟨gp0 A,tv⟩ fun C=>?_)
       refine W1 9 kr O ?_
       refine dR (wk0 O) O O B A O [(0,(.agg #[(Iv E.a),(Iv E.b)]))] ⟨⟨O,O⟩,tv⟩ [(Iv E.a),(Iv E.b)] 46 (fun w=>by simp[Instr.buildSlice,Instr.fill,Value.cells,go_sem]) ?_
       intro a w b41 B A
       have A:=r3 A
       refine aA (aB ⟨gp0 A,tv⟩ fun C=>?_)
       refine W1 10 kr O ?_
       refine dL (wk0 O) O O B A O aJ O O 2 O O (l2:=[E]) O (fun j u H=>by have:=Hp.cN 0 O 0 _ (aS O) w A j u H;simpa using this) I ?_
       intro v236 a w B A
       have A:=r3 A
       refine aA (aB ⟨gp0 A,tv⟩ fun C=>?_)
       refine W1 14 kr O ?_
       obtain⟨k74,k74a,k74d,k74h⟩:=(A.get 1 O).lend
       obtain⟨v238,v238r,f74⟩:=aH.part (aF.ro k74d k74a) aJ (some (.i64,b3)) none O O D
       have f74:=dO w v238r v232r f74
       refine dN (wk0 O) O O B k74h O aJ O O 1 O O f74 F ?_
       intro v237 a w B A
       have A:=Hp.back k74a k74d A
       have A:=r3 A
       refine aA (aB ⟨gp0 A,tv⟩ fun C=>?_)
       refine Ts [15] B C O O kr fun a B C=>?_
       exact aZ kr ⟨_,_,B.cut ⟨O,O,O,tv⟩,A⟩
      refine bW O ?_
      refine dR (wk0 O) O O B A O [(0,(.agg #[(Iv E.a),(Iv E.b)]))] ⟨⟨O,O⟩,tv⟩ [(Iv E.a),(Iv E.b)] 46 (fun w=>by simp[Instr.buildSlice,Instr.fill,Value.cells,go_sem]) ?_
      intro a w b42 B A
      have A:=r3 A
      refine aA (aB ⟨gp0 A,tv⟩ fun C=>?_)
      refine W1 4 kr O ?_
      have A:=(A.get 1 O).imp (dK (l:=(([]:List Opn):List Opn)) (n:=0) O (by decide) O)
      have A:=r3 A
      obtain⟨k75,k75a,k75d,k75h⟩:=(A.get 2 O).lend
      obtain⟨v240,v240r,f75⟩:=aH.part (aF.ro k75d k75a) aJ none (some (.i64,b3)) O O G
      have f75:=dO w v240r v233r f75
      refine dN (wk0 O) O O B k75h O aJ O O 0 O O f75 J ?_
      intro v239 a w B A
      have A:=Hp.back k75a k75d A
      have A:=r3 A
      refine aA (aB ⟨gp0 A,tv⟩ fun C=>?_)
      refine W1 10 kr O ?_
      refine dL (wk0 O) O O B A O aJ O O 1 O O (l2:=[E]) O (fun j u H=>by have:=Hp.cN 2 O 0 _ (aS O) w A j u H;simpa using this) I ?_
      intro v241 a w B A
      have A:=r3 A
      refine aA (aB ⟨gp0 A,tv⟩ fun C=>?_)
      refine W1 14 kr O ?_
      obtain⟨k76,k76a,k76d,k76h⟩:=(A.get 0 O).lend
      obtain⟨v243,v243r,f76⟩:=aH.part (aF.ro k76d k76a) aJ (some (.i64,b3)) none O O D
      have f76:=dO w v243r v232r f76
      refine dN (wk0 O) O O B k76h O aJ O O 0 O O f76 F ?_
      intro v242 a w B A
      have A:=Hp.back k76a k76d A
      have A:=r3 A
      refine aA (aB ⟨gp0 A,tv⟩ fun C=>?_)
      refine Ts [15] B C O O kr fun a B C=>?_
      exact aZ kr ⟨_,_,B.cut ⟨O,O,O,tv⟩,(((A.get 1 O).get 2 O).get 2 O)⟩
     refine bW O ?_
     refine dR (wk0 O) O O B A O [(0,(.agg #[(Iv E.a),(Iv E.b)]))] ⟨⟨O,O⟩,tv⟩ [(Iv E.a),(Iv E.b)] 46 (fun w=>by simp[Instr.buildSlice,Instr.fill,Value.cells,go_sem]) ?_
     intro a w b43 B A
     have A:=r3 A
     refine aA (aB ⟨gp0 A,tv⟩ fun C=>?_)
     refine W1 3 kr O ?_
     obtain⟨v244,v244r,v244f⟩:=aF.viewF A 2 O aJ none (some (.i64,b3)) O O G
     refine V B A O (v:=v244) (fM O B O none (some (.i64,b3)) (by exact trivial) (by exact O) v244r) fun a B=>?_
     refine aA (aB ⟨gp0 A,tv⟩ fun C=>?_)
     refine W1 4 kr O ?_
     have A:=(A.get 1 O).imp (dK (l:=(([]:List Opn):List Opn)) (n:=0) O (by decide) O)
     have A:=r3 A
     obtain⟨k77,k77a,k77d,k77h⟩:=(A.get 2 O).lend
     obtain⟨v246,v246r,f77⟩:=aH.part (aF.ro k77d k77a) aJ none (some (.i64,b3)) O O G
     have f77:=dO w v246r v244r f77
     refine dN (wk0 O) O O B k77h O aJ O O 0 O O f77 J ?_
     intro v245 a w B A
     have A:=Hp.back k77a k77d A
     have A:=r3 A
     refine aA (aB ⟨gp0 A,tv⟩ fun C=>?_)
     refine W1 10 kr O ?_
     refine dL (wk0 O) O O B A O aJ O O 1 O O (l2:=[E]) O (fun j u H=>by have:=Hp.cN 2 O 0 _ (aS O) w A j u H;simpa using this) I ?_
     intro v247 a w B A
     have A:=r3 A
     refine aA (aB ⟨gp0 A,tv⟩ fun C=>?_)
     refine W1 14 kr O ?_
     obtain⟨k78,k78a,k78d,k78h⟩:=(A.get 0 O).lend
     obtain⟨v249,v249r,f78⟩:=aH.part (aF.ro k78d k78a) aJ (some (.i64,b3)) none O O D
     have f78:=dO w v249r v232r f78
     refine dN (wk0 O) O O B k78h O aJ O O 0 O O f78 F ?_
     intro v248 a w B A
     have A:=Hp.back k78a k78d A
     have A:=r3 A
     refine aA (aB ⟨gp0 A,tv⟩ fun C=>?_)
     refine Ts [15] B C O O kr fun a B C=>?_
     exact aZ kr ⟨_,_,B.cut ⟨O,O,O,tv⟩,(((A.get 1 O).get 2 O).get 2 O)⟩
    ·
     refine bW O ?_
     obtain⟨v250,v250r,v250f⟩:=aF.viewF A 0 O aJ none (some (.i64,b3)) O O G
     refine V B A O (v:=v250) (fM O B O none (some (.i64,b3)) (by exact trivial) (by exact O) v250r) fun a B=>?_
     refine aA (aB ⟨gp0 A,tv⟩ fun C=>?_)
     refine dY [0,9] kr O ?_
     refine uE.2 ⟨?_,uE.2 ⟨?_,fun _ h=>absurd h (by simp)⟩⟩
     ·
      refine bW O ?_
      refine dR (wk0 O) O O B A O [] trivial [] 46 (fun w=>by simp[Instr.buildSlice,Instr.fill,Value.cells,go_sem]) ?_
      intro a w b44 B A
      have A:=r2 A
      refine aA (aB ⟨gp0 A,tv⟩ fun C=>?_)
      refine dY [4,9] kr O ?_
      refine uE.2 ⟨?_,uE.2 ⟨?_,fun _ h=>absurd h (by simp)⟩⟩
      ·
       refine bW O ?_
       have A:=(A.get 0 O).imp (dK (l:=(([]:List Opn):List Opn)) (n:=0) O (by decide) O)
       have A:=r2 A
       obtain⟨k79,k79a,k79d,k79h⟩:=(A.get 1 O).lend
       obtain⟨v252,v252r,f79⟩:=aH.part (aF.ro k79d k79a) aJ none (some (.i64,b3)) O O G
       have f79:=dO w v252r v250r f79
       refine dN (wk0 O) O O B k79h O aJ O O 0 O O f79 J ?_
       intro v251 a w B A
       have A:=Hp.back k79a k79d A
       have A:=r2 A
       refine aA (aB ⟨gp0 A,tv⟩ fun C=>?_)
       refine W1 9 kr O ?_
       refine dR (wk0 O) O O B A O [(0,(.agg #[(Iv E.a),(Iv E.b)]))] ⟨⟨O,O⟩,tv⟩ [(Iv E.a),(Iv E.b)] 46 (fun w=>by simp[Instr.buildSlice,Instr.fill,Value.cells,go_sem]) ?_
       intro a w b45 B A
       have A:=r3 A
       refine aA (aB ⟨gp0 A,tv⟩ fun C=>?_)
       refine W1 10 kr O ?_
       refine dL (wk0 O) O O B A O aJ O O 2 O O (l2:=[E]) O (fun j u H=>by have:=Hp.cN 0 O 0 _ (aS O) w A j u H;simpa using this) I ?_
       intro v253 a w B A
       have A:=r3 A
       refine aA (aB ⟨gp0 A,tv⟩ fun C=>?_)
       refine W1 14 kr O ?_
       obtain⟨k80,k80a,k80d,k80h⟩:=(A.get 1 O).lend
       obtain⟨v255,v255r,f80⟩:=aH.part (aF.ro k80d k80a) aJ (some (.i64,b3)) none O O D
       have f80:=dO w v255r v232r f80
       refine dN (wk0 O) O O B k80h O aJ O O 1 O O f80 F ?_
       intro v254 a w B A
       have A:=Hp.back k80a k80d A
       have A:=r3 A
       refine aA (aB ⟨gp0 A,tv⟩ fun C=>?_)
       refine Ts [15] B C O O kr fun a B C=>?_
       exact aZ kr ⟨_,_,B.cut ⟨O,O,O,tv⟩,A⟩
      refine bW O ?_
      refine dR (wk0 O) O O B A O [(0,(.agg #[(Iv E.a),(Iv E.b)]))] ⟨⟨O,O⟩,tv⟩ [(Iv E.a),(Iv E.b)] 46 (fun w=>by simp[Instr.buildSlice,Instr.fill,Value.cells,go_sem]) ?_
      intro a w b46 B A
      have A:=r3 A
      refine aA (aB ⟨gp0 A,tv⟩ fun C=>?_)
      refine W1 4 kr O ?_
      have A:=(A.get 1 O).imp (dK (l:=(([]:List Opn):List Opn)) (n:=0) O (by decide) O)
      have A:=r3 A
      obtain⟨k81,k81a,k81d,k81h⟩:=(A.get 2 O).lend
      obtain⟨v257,v257r,f81⟩:=aH.part (aF.ro k81d k81a) aJ none (some (.i64,b3)) O O G
      have f81:=dO w v257r v250r f81
      refine dN (wk0 O) O O B k81h O aJ O O 0 O O f81 J ?_
      intro v256 a w B A
      have A:=Hp.back k81a k81d A
      have A:=r3 A
      refine aA (aB ⟨gp0 A,tv⟩ fun C=>?_)
      refine W1 10 kr O ?_
      refine dL (wk0 O) O O B A O aJ O O 1 O O (l2:=[E]) O (fun j u H=>by have:=Hp.cN 2 O 0 _ (aS O) w A j u H;simpa using this) I ?_
      intro v258 a w B A
      have A:=r3 A
      refine aA (aB ⟨gp0 A,tv⟩ fun C=>?_)
      refine W1 14 kr O ?_
      obtain⟨k82,k82a,k82d,k82h⟩:=(A.get 0 O).lend
      obtain⟨v260,v260r,f82⟩:=aH.part (aF.ro k82d k82a) aJ (some (.i64,b3)) none O O D
      have f82:=dO w v260r v232r f82
      refine dN (wk0 O) O O B k82h O aJ O O 0 O O f82 F ?_
      intro v259 a w B A
      have A:=Hp.back k82a k82d A
      have A:=r3 A
      refine aA (aB ⟨gp0 A,tv⟩ fun C=>?_)
      refine Ts [15] B C O O kr fun a B C=>?_
      exact aZ kr ⟨_,_,B.cut ⟨O,O,O,tv⟩,(((A.get 1 O).get 2 O).get 2 O)⟩
     refine bW O ?_
     refine dR (wk0 O) O O B A O [(0,(.agg #[(Iv E.a),(Iv E.b)]))] ⟨⟨O,O⟩,tv⟩ [(Iv E.a),(Iv E.b)] 46 (fun w=>by simp[Instr.buildSlice,Instr.fill,Value.cells,go_sem]) ?_
     intro a w b47 B A
     have A:=r2 A
     refine aA (aB ⟨gp0 A,tv⟩ fun C=>?_)
     refine W1 0 kr O ?_
     refine dR (wk0 O) O O B A O [] trivial [] 46 (fun w=>by simp[Instr.buildSlice,Instr.fill,Value.cells,go_sem]) ?_
     intro a w b48 B A
     have A:=r3 A
     refine aA (aB ⟨gp0 A,tv⟩ fun C=>?_)
     refine W1 4 kr O ?_
     have A:=(A.get 0 O).imp (dK (l:=(([]:List Opn):List Opn)) (n:=0) O (by decide) O)
     have A:=r3 A
     obtain⟨k83,k83a,k83d,k83h⟩:=(A.get 2 O).lend
     obtain⟨v262,v262r,f83⟩:=aH.part (aF.ro k83d k83a) aJ none (some (.i64,b3)) O O G
     have f83:=dO w v262r v250r f83
     refine dN (wk0 O) O O B k83h O aJ O O 0 O O f83 J ?_
     intro v261 a w B A
     have A:=Hp.back k83a k83d A
     have A:=r3 A
     refine aA (aB ⟨gp0 A,tv⟩ fun C=>?_)
     refine W1 10 kr O ?_
     refine dL (wk0 O) O O B A O aJ O O 1 O O (l2:=[E]) O (fun j u H=>by have:=Hp.cN 2 O 0 _ (aS O) w A j u H;simpa using this) I ?_
     intro v263 a w B A
     have A:=r3 A
     refine aA (aB ⟨gp0 A,tv⟩ fun C=>?_)
     refine W1 14 kr O ?_
     obtain⟨k84,k84a,k84d,k84h⟩:=(A.get 0 O).lend
     obtain⟨v265,v265r,f84⟩:=aH.part (aF.ro k84d k84a) aJ (some (.i64,b3)) none O O D
     have f84:=dO w v265r v232r f84
     refine dN (wk0 O) O O B k84h O aJ O O 0 O O f84 F ?_
     intro v264 a w B A
     have A:=Hp.back k84a k84d A
     have A:=r3 A
     refine aA (aB ⟨gp0 A,tv⟩ fun C=>?_)
     refine Ts [15] B C O O kr fun a B C=>?_
     exact aZ kr ⟨_,_,B.cut ⟨O,O,O,tv⟩,(((A.get 1 O).get 2 O).get 2 O)⟩
    refine bW O ?_
    refine dR (wk0 O) O O B A O [(0,(.agg #[(Iv E.a),(Iv E.b)]))] ⟨⟨O,O⟩,tv⟩ [(Iv E.a),(Iv E.b)] 46 (fun w=>by simp[Instr.buildSlice,Instr.fill,Value.cells,go_sem]) ?_
    intro a w b49 B A
    have A:=r2 A
    refine aA (aB ⟨gp0 A,tv⟩ fun C=>?_)
    refine dY [0,3] kr O ?_
    refine uE.2 ⟨?_,uE.2 ⟨?_,fun _ h=>absurd h (by simp)⟩⟩
    ·
     refine bW O ?_
     refine dR (wk0 O) O O B A O [] trivial [] 46 (fun w=>by simp[Instr.buildSlice,Instr.fill,Value.cells,go_sem]) ?_
     intro a w b50 B A
     have A:=r3 A
     refine aA (aB ⟨gp0 A,tv⟩ fun C=>?_)
     refine W1 3 kr O ?_
     obtain⟨v266,v266r,v266f⟩:=aF.viewF A 2 O aJ none (some (.i64,b3)) O O G
     refine V B A O (v:=v266) (fM O B O none (some (.i64,b3)) (by exact trivial) (by exact O) v266r) fun a B=>?_
     refine aA (aB ⟨gp0 A,tv⟩ fun C=>?_)
     refine W1 4 kr O ?_
     have A:=(A.get 0 O).imp (dK (l:=(([]:List Opn):List Opn)) (n:=0) O (by decide) O)
     have A:=r3 A
     obtain⟨k85,k85a,k85d,k85h⟩:=(A.get 2 O).lend
     obtain⟨v268,v268r,f85⟩:=aH.part (aF.ro k85d k85a) aJ none (some (.i64,b3)) O O G
     have f85:=dO w v268r v266r f85
     refine dN (wk0 O) O O B k85h O aJ O O 0 O O f85 J ?_
     intro v267 a w B A
     have A:=Hp.back k85a k85d A
     have A:=r3 A
     refine aA (aB ⟨gp0 A,tv⟩ fun C=>?_)
     refine W1 10 kr O ?_
     refine dL (wk0 O) O O B A O aJ O O 1 O O (l2:=[E]) O (fun j u H=>by have:=Hp.cN 2 O 0 _ (aS O) w A j u H;simpa using this) I ?_
     intro v269 a w B A
     have A:=r3 A
     refine aA (aB ⟨gp0 A,tv⟩ fun C=>?_)
     refine W1 14 kr O ?_
     obtain⟨k86,k86a,k86d,k86h⟩:=(A.get 0 O).lend
     obtain⟨v271,v271r,f86⟩:=aH.part (aF.ro k86d k86a) aJ (some (.i64,b3)) none O O D
     have f86:=dO w v271r v232r f86
     refine dN (wk0 O) O O B k86h O aJ O O 0 O O f86 F ?_
     intro v270 a w B A
     have A:=Hp.back k86a k86d A
     have A:=r3 A
     refine aA (aB ⟨gp0 A,tv⟩ fun C=>?_)
     refine Ts [15] B C O O kr fun a B C=>?_
     exact aZ kr ⟨_,_,B.cut ⟨O,O,O,tv⟩,(((A.get 1 O).get 2 O).get 2 O)⟩
    refine bW O ?_
    obtain⟨v272,v272r,v272f⟩:=aF.viewF A 1 O aJ none (some (.i64,b3)) O O G
    refine V B A O (v:=v272) (fM O B O none (some (.i64,b3)) (by exact trivial) (by exact O) v272r) fun a B=>?_
    refine aA (aB ⟨gp0 A,tv⟩ fun C=>?_)
    refine W1 0 kr O ?_
    refine dR (wk0 O) O O B A O [] trivial [] 46 (fun w=>by simp[Instr.buildSlice,Instr.fill,Value.cells,go_sem]) ?_
    intro a w b51 B A
    have A:=r3 A
    refine aA (aB ⟨gp0 A,tv⟩ fun C=>?_)
    refine W1 4 kr O ?_
    have A:=(A.get 0 O).imp (dK (l:=(([]:List Opn):List Opn)) (n:=0) O (by decide) O)
    have A:=r3 A
    obtain⟨k87,k87a,k87d,k87h⟩:=(A.get 2 O).lend
    obtain⟨v274,v274r,f87⟩:=aH.part (aF.ro k87d k87a) aJ none (some (.i64,b3)) O O G
    have f87:=dO w v274r v272r f87
    refine dN (wk0 O) O O B k87h O aJ O O 0 O O f87 J ?_
    intro v273 a w B A
    have A:=Hp.back k87a k87d A
    have A:=r3 A
    refine aA (aB ⟨gp0 A,tv⟩ fun C=>?_)
    refine W1 10 kr O ?_
    refine dL (wk0 O) O O B A O aJ O O 1 O O (l2:=[E]) O (fun j u H=>by have:=Hp.cN 2 O 0 _ (aS O) w A j u H;simpa using this) I ?_
    intro v275 a w B A
    have A:=r3 A
    refine aA (aB ⟨gp0 A,tv⟩ fun C=>?_)
    refine W1 14 kr O ?_
    obtain⟨k88,k88a,k88d,k88h⟩:=(A.get 0 O).lend
    obtain⟨v277,v277r,f88⟩:=aH.part (aF.ro k88d k88a) aJ (some (.i64,b3)) none O O D
    have f88:=dO w v277r v232r f88
    refine dN (wk0 O) O O B k88h O aJ O O 0 O O f88 F ?_
    intro v276 a w B A
    have A:=Hp.back k88a k88d A
    have A:=r3 A
    refine aA (aB ⟨gp0 A,tv⟩ fun C=>?_)
    refine Ts [15] B C O O kr fun a B C=>?_
    exact aZ kr ⟨_,_,B.cut ⟨O,O,O,tv⟩,(((A.get 1 O).get 2 O).get 2 O)⟩
   rintro a w ⟨y8,y7,B,A⟩
   refine aC (S B 1 O fun a B=>?_)
   obtain⟨y,Y,M⟩:=bnd M
   refine V B A O (bI O B O O (aO Y)) fun a B=>S B 1 O fun a B=>aA ?_
   have A:=(A.get 0 O).drop
   have A:=r2 A
   exact⟨_,(oj M).symm,_,B.cut ⟨O,O,O,tv⟩,(A.drop)⟩
  replace M:=(ie W).symm.trans M
  refine eU ?_
  refine⟨_,(oj M).symm,fun hbb=>?_⟩
  subst hbb
  exact⟨_,B.cut ⟨O,tv⟩,A⟩
 rintro a w ⟨w2,B,A⟩
 refine aG (aC ?_)
 refine S B 2 O fun a B=>aA (dF ?_)
 obtain rfl:=oj c
 exact iK B O O ⟨_,O,_,O,A⟩
theorem U6 {Z:World} {ρ:PH} {L:List bP} {w:World} (p0:(List Opn)) (vp0:Value) (hp0:aH ρ vp0 p0) (p1:(List Opn)) (vp1:Value) (hp1:aH ρ vp1 p1) (B:Hp Z ρ (L) w) (r:(List Opn)) (T:lX p0 p1=some r):
  Calls Tryz.prog 30 #[vp0,vp1] w (Ret fun v w'=>∃(vr1:Value),v=vr1∧Hp Z ρ (aF 46 vr1 r::L) w'):=by
 refine enter (N:=123) Tryz.func30 O O [(0,vp0),(1,vp1)] O (bC ⟨O,O,tv⟩) fun a A=>?_
 unfold lX at T
 refine aG (aC ?_)
 refine S A 1 O fun a A=>aA (aG ?_)
 refine aC ?_
 refine dR (wk0 O) O O A B O [] trivial [] 46 (fun w=>by simp[Instr.buildSlice,Instr.fill,Value.cells,go_sem]) ?_
 intro a w b1 A B
 have B:=r1 B
 refine S A 1 O fun a A=>aA (aG ?_)
 refine aG (aC ?_)
 refine S A 1 O fun a A=>aA ?_
 have B:=(B.get 0 O).imp (dK (l:=(([]:List Opn):List Opn)) (n:=0) O (by decide) O)
 have B:=r1 B
 obtain⟨b2,hc1,T⟩:=bnd T
 refine dQ (fun a w=>∃(w2:Value),Env 123 [(0,vp0),(1,vp1),(5,w2)] a∧Hp Z ρ (aF 46 w2 b2::L) w) ?_ ?_
 ·refine fK hc1 (fun s a w=>∃(w2:Value),Env 123 [(0,vp0),(1,vp1),(5,w2),(6,(Iv s.1))] a∧Hp Z ρ (aF 46 w2 s.2::L) w) ?_ ?_
  ·exact⟨_,A.cut ⟨O,O,O,O,tv⟩,B⟩
  rintro⟨aT,aU⟩ st a w ⟨w2,A,B⟩ E
  dsimp only at A B E
  unfold lZ at E
  refine aG (aG ?_)
  refine aC (S A 2 O fun a A=>?_)
  refine V A B O (dB O A O (aH.len hp0 aJ)) fun a A=>S A 1 O fun a A=>aA ?_
  refine dJ A O (fun e=>?_) (fun e=>?_)
  ·replace E:=(it e).symm.trans E
   refine bD (aG ?_)
   refine dS (aG ?_)
   refine aC (S A 2 O fun a A=>?_)
   obtain⟨x1,ex1,E⟩:=bnd E
   obtain⟨b3,b3o,b3c,b3r,b3k,b3f⟩:=aH.at hp0 aJ ex1
   obtain rfl:b3c=Enc.enc x1:=b3k
   have b3f:AtP ρ b3 b3o [(Iv x1.a),(Iv x1.b)]:=b3f
   refine V A B O (aP O A O O b3r) fun a A=>V A B O (xf A eQ O O) fun a A=>V A B O (aK O A O (fun w H=>bF aY (b3f.c 0 O w H))) fun a A=>S A 1 O fun a A=>aA ?_
   refine dJ A O (fun d=>?_) (fun d=>?_)
   ·replace E:=(it d).symm.trans E
    refine aG (aC ?_)
    refine S A 1 O fun a A=>aA (aG ?_)
    refine aG (aC ?_)
    refine S A 1 O fun a A=>aA ?_
    obtain⟨b4,hc4,E⟩:=bnd E
    refine dQ (fun a w=>Env 123 [(0,vp0),(1,vp1),(5,w2),(6,(Iv aT)),(7,(Iv b4))] a∧Hp Z ρ (aF 46 w2 aU::L) w) ?_ ?_
    ·refine fK hc4 (fun s a w=>Env 123 [(0,vp0),(1,vp1),(5,w2),(6,(Iv aT)),(7,(Iv s.1)),(8,(Iv s.2))] a∧Hp Z ρ (aF 46 w2 aU::L) w) ?_ ?_
     ·exact⟨A.cut ⟨O,O,O,O,O,O,tv⟩,B⟩
     rintro⟨bK,eG⟩ st a w ⟨A,B⟩ G
     dsimp only at A B G
     unfold jB at G
     refine aG (aG ?_)
     refine aC (S A 2 O fun a A=>?_)
     refine V A B O (dB O A O (aH.len hp1 aJ)) fun a A=>S A 1 O fun a A=>aA ?_
     refine dJ A O (fun Y=>?_) (fun Y=>?_)
     ·replace G:=(it Y).symm.trans G
      refine bD (aG ?_)
      refine dS (aG ?_)
      refine kJ kr kr B ?_
      refine Sq A 2 O fun a A=>?_
      obtain⟨x2,ex2,G⟩:=bnd G
      obtain⟨b5,b5o,b5c,b5r,b5k,b5f⟩:=aH.at hp0 aJ ex2
      obtain rfl:b5c=Enc.enc x2:=b5k
      have b5f:AtP ρ b5 b5o [(Iv x2.a),(Iv x2.b)]:=b5f
      refine Vq A O (aP O A O O b5r) fun a A=>Vq A O (xf A eP O O) fun a A=>Vq A O (aK O A O (fun w H=>bF aY (b5f.c 1 O w H))) fun a A=>Sq A 2 O fun a A=>?_
      obtain⟨m1,hg1,G⟩:=bnd G
      refine q_cut [_,_,_,_,_,_,_,_,_,_,_,_] (fun a=>Env 123 [(49,(.bool m1)),(0,vp0),(1,vp1),(5,w2),(6,(Iv aT)),(7,(Iv bK)),(8,(Iv eG))] a) ?_ ?_
      ·rcases uW (decide (0≤x2.b)) with D|D
       ·
        replace hg1:=(it D).symm.trans hg1
        refine Gq A D O (iJ O A O) fun a A=>Gq A D O (iJ O A O) fun a A=>?_
        obtain⟨x3,ex3,hg1⟩:=bnd hg1
        obtain⟨b6,b6o,b6c,b6r,b6k,b6f⟩:=aH.at hp1 aJ ex3
        obtain rfl:b6c=Enc.enc x3:=b6k
        have b6f:AtP ρ b6 b6o [(Iv x3.a),(Iv x3.b)]:=b6f
        refine Gq A D O (aP O A O O b6r) fun a A=>Gq A D O (xf A eQ O O) fun a A=>Gq A D O (aK O A O (fun w H=>bF aY (b6f.c 0 O w H))) fun a A=>Gq A D O (iJ O A O) fun a A=>Gq A D O (iJ O A O) fun a A=>?_
        obtain⟨x4,ex4,hg1⟩:=bnd hg1
        obtain⟨b7,b7o,b7c,b7r,b7k,b7f⟩:=aH.at hp0 aJ ex4
        obtain rfl:b7c=Enc.enc x4:=b7k
        have b7f:AtP ρ b7 b7o [(Iv x4.a),(Iv x4.b)]:=b7f
        refine Gq A D O (aP O A O O b7r) fun a A=>Gq A D O (xf A eP O O) fun a A=>Gq A D O (aK O A O (fun w H=>bF aY (b7f.c 1 O w H))) fun a A=>Gq A D O (ex_eql O A O O) fun a A=>Vq A O (v:=(.bool (decide (x3.a=x4.b)))) (jG O A O D O) fun a A=>?_
        obtain rfl:=oj hg1
        exact jY (A.cut ⟨O,O,O,O,O,O,O,tv⟩)
       replace hg1:=(ie D).symm.trans hg1
       refine Gkq A D O fun a A=>Gkq A D O fun a A=>Gkq A D O fun a A=>Gkq A D O fun a A=>Gkq A D O fun a A=>Gkq A D O fun a A=>Gkq A D O fun a A=>Gkq A D O fun a A=>Gkq A D O fun a A=>Gkq A D O fun a A=>Gkq A D O fun a A=>?_
       refine Vq A O (v:=(.bool false)) (iR O A O D O) fun a A=>?_
       obtain rfl:=oj hg1
       exact jY (A.cut ⟨O,O,O,O,O,O,O,tv⟩)
      intro a A
      refine jY fun w B=>?_
      have B:=r1 B
      refine dJ A O (fun X=>?_) (fun X=>?_)
      ·replace G:=(it X).symm.trans G
       refine aC (S A 2 O fun a A=>?_)
       obtain⟨x5,ex5,G⟩:=bnd G
       obtain⟨b8,b8o,b8c,b8r,b8k,b8f⟩:=aH.at hp1 aJ ex5
       obtain rfl:b8c=Enc.enc x5:=b8k
       have b8f:AtP ρ b8 b8o [(Iv x5.a),(Iv x5.b)]:=b8f
       refine V A B O (aP O A O O b8r) fun a A=>V A B O (xf A eP O O) fun a A=>V A B O (aK O A O (fun w H=>bF aY (b8f.c 1 O w H))) fun a A=>S A 1 O fun a A=>aA (aC ?_)
       refine S A 1 O fun a A=>?_
       obtain⟨x6,ex6,G⟩:=bnd G
       refine V A B O (bI O A O O (aO ex6)) fun a A=>S A 1 O fun a A=>aA ?_
       exact⟨_,(oj G).symm,A.cut ⟨O,O,O,O,O,O,tv⟩,B⟩
      replace G:=(ie X).symm.trans G
      refine bD (aC ?_)
      refine S A 1 O fun a A=>?_
      obtain⟨x7,ex7,G⟩:=bnd G
      refine V A B O (bI O A O O (aO ex7)) fun a A=>S A 1 O fun a A=>aA ?_
      exact⟨_,(oj G).symm,A.cut ⟨O,O,O,O,O,O,tv⟩,B⟩
     replace G:=(ie Y).symm.trans G
     refine eU ?_
     refine⟨_,(oj G).symm,fun hbb=>?_⟩
     subst hbb
     exact⟨A.cut ⟨O,O,O,O,O,tv⟩,B⟩
    rintro a w ⟨A,B⟩
    refine aC (S A 3 O fun a A=>?_)
    obtain⟨R,ex8,E⟩:=bnd E
    obtain⟨b9,b9o,b9c,b9r,b9k,b9f⟩:=aH.at hp0 aJ ex8
    obtain rfl:b9c=Enc.enc R:=b9k
    have b9f:AtP ρ b9 b9o [(Iv R.a),(Iv R.b)]:=b9f
    refine V A B O (aP O A O O b9r) fun a A=>V A B O (xf A eQ O O) fun a A=>V A B O (aK O A O (fun w H=>bF aY (b9f.c 0 O w H))) fun a A=>S A 1 O fun a A=>V A B O (v:=(.agg #[(Iv R.a),(Iv b4)])) (mJ O A [(0,(Iv R.a)),(1,(Iv b4))] (by exact⟨⟨O,O⟩,⟨O,O⟩,tv⟩) (fun w=>by simp[Instr.build,Instr.fill,Value.cells,go_sem])) fun a A=>?_
    refine dR (wk0 O) O O A B O [(0,(.agg #[(Iv R.a),(Iv b4)]))] ⟨⟨O,O⟩,tv⟩ [(Iv R.a),(Iv b4)] 46 (fun w=>by simp[Instr.buildSlice,Instr.fill,Value.cells,go_sem]) ?_
    intro a w b10 A B
    have B:=r2 B
    obtain⟨x9,ex9,E⟩:=bnd E
    refine dL (wk0 O) O O A B O aJ O O 1 O O (l2:=[(Opn.mk R.a b4)]) O (fun j u hj=>by have:=Hp.cN 0 O 0 _ (aS O) w B j u hj;simpa using this) ex9 ?_
    intro v1 a w A B
    have B:=r2 B
    refine S A 1 O fun a A=>aA ?_
    have A:=A.cut (E':=[(0,vp0),(1,vp1),(5,v1),(6,(Iv aT))]) ⟨O,O,O,O,tv⟩
    refine aC (S A 1 O fun a A=>?_)
    obtain⟨x10,ex10,E⟩:=bnd E
    refine V A B O (bI O A O O (aO ex10)) fun a A=>S A 1 O fun a A=>aA ?_
    exact⟨_,(oj E).symm,_,A.cut ⟨O,O,O,O,tv⟩,(B.drop)⟩
   replace E:=(ie d).symm.trans E
   refine bD (aC ?_)
   refine S A 1 O fun a A=>?_
   obtain⟨x11,ex11,E⟩:=bnd E
   refine V A B O (bI O A O O (aO ex11)) fun a A=>S A 1 O fun a A=>aA ?_
   exact⟨_,(oj E).symm,_,A.cut ⟨O,O,O,O,tv⟩,B⟩
  replace E:=(ie e).symm.trans E
  refine eU ?_
  refine⟨_,(oj E).symm,fun hbb=>?_⟩
  subst hbb
  exact⟨_,A.cut ⟨O,O,O,tv⟩,B⟩
 rintro a w ⟨w2,A,B⟩
 refine aG (aG ?_)
 refine aC (S A 1 O fun a A=>?_)
 refine aA ?_
 obtain⟨b11,hc8,T⟩:=bnd T
 refine dQ (fun a w=>∃(w2:Value),Env 123 [(5,w2)] a∧Hp Z ρ (aF 46 w2 b11::L) w) ?_ ?_
 ·refine fK hc8 (fun s a w=>∃(w2:Value),Env 123 [(0,vp0),(1,vp1),(5,w2),(9,(Iv s.1))] a∧Hp Z ρ (aF 46 w2 s.2::L) w) ?_ ?_
  ·exact⟨_,A.cut ⟨O,O,O,O,tv⟩,B⟩
  rintro⟨fP,rO⟩ st a w ⟨w2,A,B⟩ C
  dsimp only at A B C
  unfold mD at C
  refine aG (aG ?_)
  refine aC (S A 2 O fun a A=>?_)
  refine V A B O (dB O A O (aH.len hp1 aJ)) fun a A=>S A 1 O fun a A=>aA ?_
  refine dJ A O (fun W=>?_) (fun W=>?_)
  ·replace C:=(it W).symm.trans C
   refine bD (aG ?_)
   refine dS (aG ?_)
   refine aC (S A 2 O fun a A=>?_)
   obtain⟨U,z,C⟩:=bnd C
   obtain⟨b12,b12o,b12c,b12r,b12k,b12f⟩:=aH.at hp1 aJ z
   obtain rfl:b12c=Enc.enc U:=b12k
   have b12f:AtP ρ b12 b12o [(Iv U.a),(Iv U.b)]:=b12f
   refine V A B O (aP O A O O b12r) fun a A=>V A B O (xf A eP O O) fun a A=>V A B O (aK O A O (fun w H=>bF aY (b12f.c 1 O w H))) fun a A=>S A 1 O fun a A=>aA ?_
   refine dJ A O (fun hc10=>?_) (fun hc10=>?_)
   ·replace C:=(it hc10).symm.trans C
    refine aG (aC ?_)
    refine S A 1 O fun a A=>aA (aG ?_)
    refine aG (aC ?_)
    refine S A 1 O fun a A=>aA ?_
    have A:=A.cut (E':=[(0,vp0),(1,vp1),(5,w2),(9,(Iv fP)),(10,(.bool false)),(11,(Iv 0))]) ⟨O,O,O,O,O,O,tv⟩
    obtain⟨b13,hc11,C⟩:=bnd C
    refine dQ (fun a w=>Env 123 [(0,vp0),(1,vp1),(5,w2),(9,(Iv fP)),(10,(.bool b13))] a∧Hp Z ρ (aF 46 w2 rO::L) w) ?_ ?_
    ·refine fK hc11 (fun s a w=>Env 123 [(0,vp0),(1,vp1),(5,w2),(9,(Iv fP)),(10,(.bool s.1)),(11,(Iv s.2))] a∧Hp Z ρ (aF 46 w2 rO::L) w) ?_ ?_
     ·exact⟨A.cut ⟨O,O,O,O,O,O,tv⟩,B⟩
     rintro⟨lK,lF⟩ st a w ⟨A,B⟩ F
     dsimp only at A B F
     unfold jC at F
     refine aG (aG ?_)
     refine aC (S A 2 O fun a A=>?_)
     refine V A B O (dB O A O (aH.len hp0 aJ)) fun a A=>S A 1 O fun a A=>aA ?_
     refine dJ A O (fun hc12=>?_) (fun hc12=>?_)
     ·replace F:=(it hc12).symm.trans F
      refine bD (aG ?_)
      refine dS (aG ?_)
      refine kJ kr kr B ?_
      refine Sq A 2 O fun a A=>?_
      obtain⟨Q,y,F⟩:=bnd F
      obtain⟨b14,b14o,b14c,b14r,b14k,b14f⟩:=aH.at hp0 aJ y
      obtain rfl:b14c=Enc.enc Q:=b14k
      have b14f:AtP ρ b14 b14o [(Iv Q.a),(Iv Q.b)]:=b14f
      refine Vq A O (aP O A O O b14r) fun a A=>Vq A O (xf A eQ O O) fun a A=>Vq A O (aK O A O (fun w H=>bF aY (b14f.c 0 O w H))) fun a A=>Sq A 2 O fun a A=>?_
      obtain⟨m2,hg2,F⟩:=bnd F
      refine q_cut [_,_,_,_,_,_,_] (fun a=>Env 123 [(96,(.bool m2)),(0,vp0),(1,vp1),(5,w2),(9,(Iv fP)),(10,(.bool lK)),(11,(Iv lF))] a) ?_ ?_
      ·rcases uW (decide (0≤Q.a)) with hc13|hc13
       ·
        replace hg2:=(it hc13).symm.trans hg2
        refine Gq A hc13 O (iJ O A O) fun a A=>Gq A hc13 O (iJ O A O) fun a A=>?_
        obtain⟨M,x,hg2⟩:=bnd hg2
        obtain⟨b15,b15o,b15c,b15r,b15k,b15f⟩:=aH.at hp0 aJ x
        obtain rfl:b15c=Enc.enc M:=b15k
        have b15f:AtP ρ b15 b15o [(Iv M.a),(Iv M.b)]:=b15f
        refine Gq A hc13 O (aP O A O O b15r) fun a A=>Gq A hc13 O (xf A eP O O) fun a A=>Gq A hc13 O (aK O A O (fun w H=>bF aY (b15f.c 1 O w H))) fun a A=>Gq A hc13 O (ex_geq O A O O) fun a A=>Vq A O (v:=(.bool (decide (0≤M.b)))) (jG O A O hc13 O) fun a A=>?_
        obtain rfl:=oj hg2
        exact jY (A.cut ⟨O,O,O,O,O,O,O,tv⟩)
       replace hg2:=(ie hc13).symm.trans hg2
       refine Gkq A hc13 O fun a A=>Gkq A hc13 O fun a A=>Gkq A hc13 O fun a A=>Gkq A hc13 O fun a A=>Gkq A hc13 O fun a A=>Gkq A hc13 O fun a A=>?_
       refine Vq A O (v:=(.bool false)) (iR O A O hc13 O) fun a A=>?_
       obtain rfl:=oj hg2
       exact jY (A.cut ⟨O,O,O,O,O,O,O,tv⟩)
      intro a A
      refine Sq A 1 O fun a A=>?_
      obtain⟨m3,hg3,F⟩:=bnd F
      refine q_cut [_,_,_,_,_,_,_,_,_,_,_,_] (fun a=>Env 123 [(109,(.bool m3)),(0,vp0),(1,vp1),(5,w2),(9,(Iv fP)),(10,(.bool lK)),(11,(Iv lF))] a) ?_ ?_
      ·rcases uW m2 with hc14|hc14
       ·
        replace hg3:=(it hc14).symm.trans hg3
        refine Gq A hc14 O (iJ O A O) fun a A=>Gq A hc14 O (iJ O A O) fun a A=>?_
        obtain⟨K,t,hg3⟩:=bnd hg3
        obtain⟨b16,b16o,b16c,b16r,b16k,b16f⟩:=aH.at hp0 aJ t
        obtain rfl:b16c=Enc.enc K:=b16k
        have b16f:AtP ρ b16 b16o [(Iv K.a),(Iv K.b)]:=b16f
        refine Gq A hc14 O (aP O A O O b16r) fun a A=>Gq A hc14 O (xf A eP O O) fun a A=>Gq A hc14 O (aK O A O (fun w H=>bF aY (b16f.c 1 O w H))) fun a A=>Gq A hc14 O (iJ O A O) fun a A=>Gq A hc14 O (iJ O A O) fun a A=>?_
        obtain⟨J,q,hg3⟩:=bnd hg3
        obtain⟨b17,b17o,b17c,b17r,b17k,b17f⟩:=aH.at hp1 aJ q
        obtain rfl:b17c=Enc.enc J:=b17k
        have b17f:AtP ρ b17 b17o [(Iv J.a),(Iv J.b)]:=b17f
        refine Gq A hc14 O (aP O A O O b17r) fun a A=>Gq A hc14 O (xf A eQ O O) fun a A=>Gq A hc14 O (aK O A O (fun w H=>bF aY (b17f.c 0 O w H))) fun a A=>Gq A hc14 O (ex_eql O A O O) fun a A=>Vq A O (v:=(.bool (decide (K.b=J.a)))) (jG O A O hc14 O) fun a A=>?_
        obtain rfl:=oj hg3
        exact jY (A.cut ⟨O,O,O,O,O,O,O,tv⟩)
       replace hg3:=(ie hc14).symm.trans hg3
       refine Gkq A hc14 O fun a A=>Gkq A hc14 O fun a A=>Gkq A hc14 O fun a A=>Gkq A hc14 O fun a A=>Gkq A hc14 O fun a A=>Gkq A hc14 O fun a A=>Gkq A hc14 O fun a A=>Gkq A hc14 O fun a A=>Gkq A hc14 O fun a A=>Gkq A hc14 O fun a A=>Gkq A hc14 O fun a A=>?_
       refine Vq A O (v:=(.bool false)) (iR O A O hc14 O) fun a A=>?_
       obtain rfl:=oj hg3
       exact jY (A.cut ⟨O,O,O,O,O,O,O,tv⟩)
      intro a A
      refine jY fun w B=>?_
      have B:=r1 B
      refine dJ A O (fun hc15=>?_) (fun hc15=>?_)
      ·replace F:=(it hc15).symm.trans F
       refine aC (S A 1 O fun a A=>?_)
       refine aA (aC ?_)
       refine S A 1 O fun a A=>?_
       obtain⟨x17,p,F⟩:=bnd F
       refine V A B O (bI O A O O (aO p)) fun a A=>S A 1 O fun a A=>aA ?_
       exact⟨_,(oj F).symm,A.cut ⟨O,O,O,O,O,O,tv⟩,B⟩
      replace F:=(ie hc15).symm.trans F
      refine bD (aC ?_)
      refine S A 1 O fun a A=>?_
      obtain⟨x18,o,F⟩:=bnd F
      refine V A B O (bI O A O O (aO o)) fun a A=>S A 1 O fun a A=>aA ?_
      exact⟨_,(oj F).symm,A.cut ⟨O,O,O,O,O,O,tv⟩,B⟩
     replace F:=(ie hc12).symm.trans F
     refine eU ?_
     refine⟨_,(oj F).symm,fun hbb=>?_⟩
     subst hbb
     exact⟨A.cut ⟨O,O,O,O,O,tv⟩,B⟩
    rintro a w ⟨A,B⟩
    refine aG (aC ?_)
    refine S A 2 O fun a A=>aA ?_
    refine dJ A O (fun hc16=>?_) (fun hc16=>?_)
    ·replace C:=(it hc16).symm.trans C
     refine aC (S A 3 O fun a A=>?_)
     obtain⟨I,m,C⟩:=bnd C
     obtain⟨b18,b18o,b18c,b18r,b18k,b18f⟩:=aH.at hp1 aJ m
     obtain rfl:b18c=Enc.enc I:=b18k
     have b18f:AtP ρ b18 b18o [(Iv I.a),(Iv I.b)]:=b18f
     refine V A B O (aP O A O O b18r) fun a A=>V A B O (xf A eP O O) fun a A=>V A B O (aK O A O (fun w H=>bF aY (b18f.c 1 O w H))) fun a A=>V A B O (v:=(.agg #[(Iv (-1)),(Iv I.b)])) (mJ O A [(0,(Iv (-1))),(1,(Iv I.b))] (by exact⟨⟨O,O⟩,⟨O,O⟩,tv⟩) (fun w=>by simp[Instr.build,Instr.fill,Value.cells,go_sem])) fun a A=>?_
     refine dR (wk0 O) O O A B O [(0,(.agg #[(Iv (-1)),(Iv I.b)]))] ⟨⟨O,O⟩,tv⟩ [(Iv (-1)),(Iv I.b)] 46 (fun w=>by simp[Instr.buildSlice,Instr.fill,Value.cells,go_sem]) ?_
     intro a w b19 A B
     have B:=r2 B
     obtain⟨x20,k,C⟩:=bnd C
     refine dL (wk0 O) O O A B O aJ O O 1 O O (l2:=[(Opn.mk (-1) I.b)]) O (fun j u hj=>by have:=Hp.cN 0 O 0 _ (aS O) w B j u hj;simpa using this) k ?_
     intro v2 a w A B
     have B:=r2 B
     refine S A 1 O fun a A=>aA ?_
     have A:=A.cut (E':=[(0,vp0),(1,vp1),(5,v2),(9,(Iv fP))]) ⟨O,O,O,O,tv⟩
     refine aC (S A 1 O fun a A=>?_)
     obtain⟨x21,i,C⟩:=bnd C
     refine V A B O (bI O A O O (aO i)) fun a A=>S A 1 O fun a A=>aA ?_
     exact⟨_,(oj C).symm,_,A.cut ⟨O,O,O,O,tv⟩,(B.drop)⟩
    replace C:=(ie hc16).symm.trans C
    refine bD (aC ?_)
    refine S A 1 O fun a A=>?_
    obtain⟨x22,h,C⟩:=bnd C
    refine V A B O (bI O A O O (aO h)) fun a A=>S A 1 O fun a A=>aA ?_
    exact⟨_,(oj C).symm,_,A.cut ⟨O,O,O,O,tv⟩,B⟩
   replace C:=(ie hc10).symm.trans C
   refine bD (aC ?_)
   refine S A 1 O fun a A=>?_
   obtain⟨x23,g,C⟩:=bnd C
   refine V A B O (bI O A O O (aO g)) fun a A=>S A 1 O fun a A=>aA ?_
   exact⟨_,(oj C).symm,_,A.cut ⟨O,O,O,O,tv⟩,B⟩
  replace C:=(ie W).symm.trans C
  refine eU ?_
  refine⟨_,(oj C).symm,fun hbb=>?_⟩
  subst hbb
  exact⟨_,A.cut ⟨O,tv⟩,B⟩
 rintro a w ⟨w2,A,B⟩
 refine aG (aC ?_)
 refine S A 1 O fun a A=>?_
 obtain⟨k1,k1a,k1d,k1h⟩:=(B.get 0 O).lend
 obtain⟨x24,f,T⟩:=bnd T
 refine s_call (wk0 O) O O A O [w2] ⟨O,tv⟩ ent57 (Y5 b11 w2 (aF.ro k1d k1a) k1h x24 f) Ret.ret ?_
 intro vr1 a w hR A
 obtain⟨u,rfl,B⟩:=Ret.of hR
 have B:=Hp.back k1a k1d B
 have B:=r2 B
 refine S A 1 O fun a A=>aA (dF ?_)
 obtain rfl:=oj T
 exact iK A O O ⟨_,O,_,O,(B.drop)⟩
theorem I4 {Z:World} {ρ:PH} {L:List bP} {w:World} (W:(List Opn)) (vp0:Value) (hp0:aH ρ vp0 W) (U:(List Opn)) (vp1:Value) (hp1:aH ρ vp1 U) (C:Hp Z ρ (L) w) (r:Bool) (D:kR W U=some r):
  Calls Tryz.prog 27 #[vp0,vp1] w (Ret fun v w'=>v=(.bool r)∧Hp Z ρ (L) w'):=by
 refine enter (N:=26) Tryz.func27 O O [(0,vp0),(1,vp1)] O (bC ⟨O,O,tv⟩) fun a A=>?_
 unfold kR at D
 refine aG (aC ?_)
 refine S A 1 O fun a A=>aA (aG ?_)
 refine aG (aC ?_)
 refine S A 1 O fun a A=>V A C O (dB O A O (aH.len hp0 aJ)) fun a A=>S A 1 O fun a A=>V A C O (dB O A O (aH.len hp1 aJ)) fun a A=>S A 1 O fun a A=>aA ?_
 refine dJ A O (fun I=>?_) (fun I=>?_)
 ·replace D:=(it I).symm.trans D
  refine aG (aC ?_)
  refine S A 1 O fun a A=>aA (dF ?_)
  obtain rfl:=oj D
  exact iK A O O ⟨_,O,O,C⟩
 replace D:=(ie I).symm.trans D
 refine bD (aG ?_)
 refine aG (aC ?_)
 refine S A 1 O fun a A=>aA ?_
 obtain⟨b1,M,D⟩:=bnd D
 refine dQ (fun a w=>∃s:Unit,b1= .brk s∧(Env 26 [] a∧Hp Z ρ (L) w)) ?_ ?_
 ·refine fK M (fun s a w=>Env 26 [(0,vp0),(1,vp1),(5,(Iv s))] a∧Hp Z ρ (L) w) ?_ ?_
  ·exact⟨A.cut ⟨O,O,O,tv⟩,C⟩
  rintro aT st a w ⟨A,C⟩ B
  unfold lD at B
  refine aG (aG ?_)
  refine aC (S A 2 O fun a A=>?_)
  refine V A C O (dB O A O (aH.len hp0 aJ)) fun a A=>S A 1 O fun a A=>aA ?_
  refine dJ A O (fun H=>?_) (fun H=>?_)
  ·replace B:=(it H).symm.trans B
   refine bD (aG ?_)
   refine dS (aG ?_)
   refine kJ kr kr C ?_
   refine Sq A 2 O fun a A=>?_
   obtain⟨F,T,B⟩:=bnd B
   obtain⟨b2,b2o,b2c,b2r,b2k,b2f⟩:=aH.at hp0 aJ T
   obtain rfl:b2c=Enc.enc F:=b2k
   have b2f:AtP ρ b2 b2o [(Iv F.a),(Iv F.b)]:=b2f
   refine Vq A O (aP O A O O b2r) fun a A=>Vq A O (aK O A O (fun w J=>aV (cs:=[(Iv F.a),(Iv F.b)]) fO (fun j u K=>cell_of J.le (b2f j u K)))) fun a A=>Sq A 2 O fun a A=>?_
   obtain⟨E,R,B⟩:=bnd B
   obtain⟨b3,b3o,b3c,b3r,b3k,b3f⟩:=aH.at hp1 aJ R
   obtain rfl:b3c=Enc.enc E:=b3k
   have b3f:AtP ρ b3 b3o [(Iv E.a),(Iv E.b)]:=b3f
   refine Vq A O (aP O A O O b3r) fun a A=>Vq A O (aK O A O (fun w J=>aV (cs:=[(Iv E.a),(Iv E.b)]) fO (fun j u K=>cell_of J.le (b3f j u K)))) fun a A=>Vq A O (v:=(.bool (!((decide (F.a=E.a))&&(decide (F.b=E.b)))))) (ex_stneq (eqst46 F.a F.b E.a E.b) O A O O) fun a A=>?_
   refine jY fun w C=>?_
   have C:=r0 C
   refine dJ A O (fun G=>?_) (fun G=>?_)
   ·replace B:=(it G).symm.trans B
    refine aG (aC ?_)
    refine S A 1 O fun a A=>aA (dF ?_)
    refine⟨_,(oj B).symm,fun hb=>?_⟩
    subst hb
    obtain rfl:=oj D
    exact iK A O O ⟨_,O,O,C⟩
   replace B:=(ie G).symm.trans B
   refine bD (aC ?_)
   refine S A 1 O fun a A=>?_
   obtain⟨x3,Q,B⟩:=bnd B
   refine V A C O (bI O A O O (aO Q)) fun a A=>S A 1 O fun a A=>aA ?_
   exact⟨_,(oj B).symm,A.cut ⟨O,O,O,tv⟩,C⟩
  replace B:=(ie H).symm.trans B
  refine eU ?_
  refine⟨_,(oj B).symm,fun hbb=>?_⟩
  exact⟨_,hbb.symm,A.cut trivial,C⟩
 rintro a w ⟨b1s,rfl,A,C⟩
 dsimp only at D
 refine aG (aC ?_)
 refine S A 1 O fun a A=>aA (dF ?_)
 obtain rfl:=oj D
 exact iK A O O ⟨_,O,O,C⟩
theorem aA9 {Z:World} {ρ:PH} {L:List bP} {w:World} (W:(List Chg)) (vp0:Value) (hp0:aH ρ vp0 W) (U:(List Chg)) (vp1:Value) (hp1:aH ρ vp1 U) (E:Hp Z ρ (L) w) (r:Bool) (F:uM W U=some r):
  Calls Tryz.prog 19 #[vp0,vp1] w (Ret fun v w'=>v=(.bool r)∧Hp Z ρ (L) w'):=by
 refine enter (N:=26) Tryz.func19 O O [(0,vp0),(1,vp1)] O (bC ⟨O,O,tv⟩) fun a A=>?_
 unfold uM at F
 refine aG (aC ?_)
 refine S A 1 O fun a A=>aA (aG ?_)
 refine aG (aC ?_)
 refine S A 1 O fun a A=>V A E O (dB O A O (aH.len hp0 wO)) fun a A=>S A 1 O fun a A=>V A E O (dB O A O (aH.len hp1 wO)) fun a A=>S A 1 O fun a A=>aA ?_
 refine dJ A O (fun I=>?_) (fun I=>?_)
 ·replace F:=(it I).symm.trans F
  refine aG (aC ?_)
  refine S A 1 O fun a A=>aA (dF ?_)
  obtain rfl:=oj F
  exact iK A O O ⟨_,O,O,E⟩
 replace F:=(ie I).symm.trans F
 refine bD (aG ?_)
 refine aG (aC ?_)
 refine S A 1 O fun a A=>aA ?_
 obtain⟨b1,M,F⟩:=bnd F
 refine dQ (fun a w=>∃s:Unit,b1= .brk s∧(Env 26 [] a∧Hp Z ρ (L) w)) ?_ ?_
 ·refine fK M (fun s a w=>Env 26 [(0,vp0),(1,vp1),(5,(Iv s))] a∧Hp Z ρ (L) w) ?_ ?_
  ·exact⟨A.cut ⟨O,O,O,tv⟩,E⟩
  rintro aT st a w ⟨A,E⟩ B
  unfold wE at B
  refine aG (aG ?_)
  refine aC (S A 2 O fun a A=>?_)
  refine V A E O (dB O A O (aH.len hp0 wO)) fun a A=>S A 1 O fun a A=>aA ?_
  refine dJ A O (fun H=>?_) (fun H=>?_)
  ·replace B:=(it H).symm.trans B
   refine bD (aG ?_)
   refine dS (aG ?_)
   refine kJ kr kr E ?_
   refine Sq A 2 O fun a A=>?_
   obtain⟨D,T,B⟩:=bnd B
   obtain⟨b2,b2o,b2c,b2r,b2k,b2f⟩:=aH.at hp0 wO T
   obtain rfl:b2c=Enc.enc D:=b2k
   have b2f:AtP ρ b2 b2o [(Iv D.op),(Iv D.node),(Iv D.index),(Iv D.count),(Iv D.kind),(.string D.text)]:=b2f
   refine Vq A O (aP O A O O b2r) fun a A=>Vq A O (aK O A O (fun w J=>aV (cs:=[(Iv D.op),(Iv D.node),(Iv D.index),(Iv D.count),(Iv D.kind),(.string D.text)]) yB (fun j u K=>cell_of J.le (b2f j u K)))) fun a A=>Sq A 2 O fun a A=>?_
   obtain⟨C,R,B⟩:=bnd B
   obtain⟨b3,b3o,b3c,b3r,b3k,b3f⟩:=aH.at hp1 wO R
   obtain rfl:b3c=Enc.enc C:=b3k
   have b3f:AtP ρ b3 b3o [(Iv C.op),(Iv C.node),(Iv C.index),(Iv C.count),(Iv C.kind),(.string C.text)]:=b3f
   refine Vq A O (aP O A O O b3r) fun a A=>Vq A O (aK O A O (fun w J=>aV (cs:=[(Iv C.op),(Iv C.node),(Iv C.index),(Iv C.count),(Iv C.kind),(.string C.text)]) yB (fun j u K=>cell_of J.le (b3f j u K)))) fun a A=>Vq A O (v:=(.bool (!((decide (D.op=C.op))&&(decide (D.node=C.node))&&(decide (D.index=C.index))&&(decide (D.count=C.count))&&(decide (D.kind=C.kind))&&(decide (D.text=C.text)))))) (ex_stneq (eqst58 D.op D.node D.index D.count D.kind D.text C.op C.node C.index C.count C.kind C.text) O A O O) fun a A=>?_
   refine jY fun w E=>?_
   have E:=r0 E
   refine dJ A O (fun G=>?_) (fun G=>?_)
   ·replace B:=(it G).symm.trans B
    refine aG (aC ?_)
    refine S A 1 O fun a A=>aA (dF ?_)
    refine⟨_,(oj B).symm,fun hb=>?_⟩
    subst hb
    obtain rfl:=oj F
    exact iK A O O ⟨_,O,O,E⟩
   replace B:=(ie G).symm.trans B
   refine bD (aC ?_)
   refine S A 1 O fun a A=>?_
   obtain⟨x3,Q,B⟩:=bnd B
   refine V A E O (bI O A O O (aO Q)) fun a A=>S A 1 O fun a A=>aA ?_
   exact⟨_,(oj B).symm,A.cut ⟨O,O,O,tv⟩,E⟩
  replace B:=(ie H).symm.trans B
  refine eU ?_
  refine⟨_,(oj B).symm,fun hbb=>?_⟩
  exact⟨_,hbb.symm,A.cut trivial,E⟩
 rintro a w ⟨b1s,rfl,A,E⟩
 dsimp only at F
 refine aG (aC ?_)
 refine S A 1 O fun a A=>aA (dF ?_)
 obtain rfl:=oj F
 exact iK A O O ⟨_,O,O,E⟩
end Go.Proofs.YtopnldfjcciieaaGreat

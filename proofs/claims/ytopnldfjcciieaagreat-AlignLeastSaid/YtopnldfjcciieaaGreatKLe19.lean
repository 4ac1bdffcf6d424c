/- slices.Replace over nodes, walked. (Printed by wip/c38/rep.py.) -/
import Derived.Test.YtopnldfjcciieaaGreatKLeT
import Derived.Test.YtopnldfjcciieaaGreatKLe18
import Derived.Test.YtopnldfjcciieaaGreatKLe5
import Derived.Test.YtopnldfjcciieaaGreatProg
import Derived.Test.YtopnldfjcciieaaGreatKLe6
import Derived.Test.YtopnldfjcciieaaGreatKLe4
set_option linter.unusedVariables false
set_option linter.unusedSimpArgs false
set_option maxRecDepth 100000
set_option maxHeartbeats 4000000
namespace Go.Proofs.YtopnldfjcciieaaGreat
open Go.RowKit
theorem aQ0 {Z:World} {ρ:PH} {L:List bQ} {w:World} (s vv:Value) (l vs:List NdH) (i j:Nat) (hi:i≤j) (F:j≤l.length) (hlim:l.length+vs.length≤4294967296) (D:Hp Z ρ (aC 24 s l::aC 24 vv vs::L) w):
  Calls Tryz.prog 97 #[s,(Iv (i:Int)),(Iv (j:Int)),vv] w (Ret fun v w'=>Hp Z ρ (aC 24 v (l.take i++vs++l.drop j)::aC 24 vv vs::L) w'):=by
 obtain⟨B,c2,rfl,hsrc⟩:=aC.src (D.get 1 O)
 refine enter (N:=224) Tryz.func97 O O [(0,s),(1,(Iv (i:Int))),(2,(Iv (j:Int))),(3,.slice B vs.length c2)] O (bH ⟨O,O,O,O,tv⟩) fun a C=>?_
 repeat (refine aG ?_)
 refine aA (S C 1 O fun a C=>?_)
 refine aB ?_
 repeat (refine aG ?_)
 refine aA (S C 3 O fun a C=>?_)
 obtain⟨v0,v0r⟩:=aC.view D 0 O kG (some (.i64,(i:Int))) (some (.i64,(j:Int))) (i:=(i:Int)) (j:=(j:Int)) O O (r:=(l.take j).drop i) (by unfold sub;rw[if_pos (by omega)];simp)
 refine V C D O (v:=v0) (rX O C O (some (.i64,(i:Int))) (some (.i64,(j:Int))) (by exact O) (by exact O) v0r) fun a C=>aB ?_
 repeat (refine aG ?_)
 refine aA (S C 3 O fun a C=>?_)
 refine aB ?_
 repeat (refine aG ?_)
 refine dK C O (fun K=>?_) (fun K=>?_)
 ·
  have h0:i=j:=by have:=of_decide_eq_true K;omega
  subst h0
  repeat (refine aG ?_)
  refine aA (S C 3 O fun a C=>?_)
  refine s_call (wk0 O) O O C O [s,(Iv (i:Int)),.slice B vs.length c2] ⟨O,O,O,tv⟩ ndEntI (c_insertN s _ l vs i (by omega) hlim D) Ret.ret ?_
  intro v1 a w T C
  have D:=Ret.of T
  refine S C 1 O fun a C=>aB ?_
  repeat (refine aG ?_)
  refine cZ ?_
  exact gY C O O ⟨_,O,D⟩
 have hij:i<j:=by have:=of_decide_eq_false K;omega
 refine bI ?_
 rcases D.openB with⟨A,rfl,rfl⟩|⟨g,off,cap,p,r,rfl,hpl,hlc,hcm,hr,D⟩
 ·simp only[List.length_nil] at F;omega
 replace hr:r.length=(cap-l.length)*5:=hr
 have hfl:flat l=flat (l.take i)++flat ((l.take j).drop i)++flat (l.drop j):=by
  have e:l.take i=(l.take j).take i:=by rw[List.take_take,Nat.min_eq_left (by omega)]
  rw[←vM,←vM,e,zR,zR]
 have hA5:(flat (l.take i)).length=i*5:=by rw[fl5,vQ];omega
 have hX5:(flat ((l.take j).drop i)).length=(j-i)*5:=by rw[fl5,List.length_drop,vQ];omega
 have hB5:(flat (l.drop j)).length=(l.length-j)*5:=by rw[fl5,List.length_drop]
 have hV5:=fl5 vs
 have hrl:(l.take i++vs++l.drop j).length=i+vs.length+(l.length-j):=by simp only[uW,vQ,List.length_drop];omega
 have hrf:flat (l.take i++vs++l.drop j)=flat (l.take i)++flat vs++flat (l.drop j):=by rw[vM,vM]
 rw[hfl] at D
 repeat (refine aG ?_)
 refine aA (S C 2 O fun a C=>?_)
 refine V C D O (bW O C O (fun w ty=>tC kG _ _ _ w ty)) fun a C=>S C 1 O fun a C=>aB ?_
 repeat (refine aG ?_)
 refine dK C O (fun J=>?_) (fun J=>?_)
 ·
  have h1:j=l.length:=by have:=of_decide_eq_true J;omega
  subst h1
  have hd0:l.drop l.length=[]:=List.drop_length
  rw[hd0] at D hrf hrl⊢
  simp only[flat_nil,List.append_nil] at D hrf hrl
  rw[Nat.sub_self,Nat.add_zero] at hrl
  repeat (refine aG ?_)
  refine aA (S C 2 O fun a C=>?_)
  obtain⟨A1,A1r,A1e,A1z⟩:=nP (P:=Tryz.prog) kG g (off) (l.length) (cap) none (some (.i64,(i:Int))) (i:=0) (j:=i) (by first|rfl|(dsimp only;omega)) (by first|rfl|(dsimp only;omega)) (by omega) (by omega)
  refine V C D O (v:= .slice A1 (i-0) (cap-0)) (rX O C O none (some (.i64,(i:Int))) (by exact trivial) (by exact O) A1r) fun a C=>?_
  obtain rfl:=A1z O
  refine S C 1 O fun a C=>?_
  rcases xV cap (i+vs.length) with hroom|hroom
  ·
   obtain⟨b,rfl,_⟩:=hsrc 0 ((flat vs)[0]'(by rw[fl5];omega)) (vB _)
   have hil:(l.take i).length=i:=by rw[vQ];omega
   have hp1:Hp Z ρ (aC 24 (.slice (some ⟨g,off,none⟩) i cap) (l.take i)::aC 24 (.slice (some b) vs.length c2) vs::L) w:=by
    have e:p++(flat (l.take i)++flat ((l.take l.length).drop i))++r=p++flat (l.take i)++(flat ((l.take l.length).drop i)++r):=by simp only[vD]
    rw[e] at D
    have hk:=Hp.shutB (α:=NdH) (l:=l.take i) (off:=off) (cap:=cap) D hpl (by omega) hcm (by show _=_*5;rw[hil,uW,hX5,hr];omega)
    rwa [hil] at hk
   have hq1:Hp Z ρ (Row 24 5 (.slice (some ⟨g,off,none⟩) i cap) i (flat (l.take i))::aC 24 (.slice (some b) vs.length c2) vs::L) w:=by
    have:=hp1
    unfold aC at this
    rw[hil] at this;exact this
   obtain⟨v',w',hrun,hp'⟩:=run_app (P:=Tryz.prog) kG (by decide) 22 hq1 b vs.length c2 (flat vs) (fl5 vs) (fun j u F=>by
    obtain⟨b',e,h⟩:=hsrc j u F
    rw[wA] at e;rw[e];exact h _ _ _ (hp1.get 1 rfl)) (one5 vs) (by unfold maxLen;omega) (by omega)
   refine F7 (wk0 O) O O C (v:=v') (w':=w') ?_ fun a C=>?_
   ·simp only[execOp,resolve,invoke,builtin,Sem.run_bind,Sem.run_pure,Result.andThen_ok,List.map_toArray,List.map_cons,List.map_nil]
    rw[C.eval (x:= .tmp 32) rfl,C.eval (x:= .tmp 33) rfl]
    simp only[Nat.sub_zero,hrun]
    rfl
   have D:Hp Z ρ (aC 24 v' (l.take i++vs)::aC 24 (.slice (some b) vs.length c2) vs::L) w':=by
    unfold aC
    rw[hrl,vM];exact hp'
   refine S C 1 O fun a C=>aB ?_
   repeat (refine aG ?_)
   refine aA (S C 1 O fun a C=>?_)
   refine V C D O (v:=(Iv ((i+vs.length:Nat):Int))) (bW O C O (by have:=aC.len D 0 O kG;rw[hrl] at this;exact this)) fun a C=>S C 1 O fun a C=>V C D O (bW O C O (fun w ty=>tC kG _ _ _ w ty)) fun a C=>S C 1 O fun a C=>aB ?_
   repeat (refine aG ?_)
   refine dK C O (fun Q=>absurd (of_decide_eq_true Q) (by omega)) (fun Q=>?_)
   refine bI ?_
   repeat (refine aG ?_)
   refine aA (S C 2 O fun a C=>?_)
   refine aB ?_
   repeat (refine aG ?_)
   refine cZ ?_
   refine gY C O O ⟨_,O,?_⟩
   rw[List.append_nil];exact D
  have hXr:vs.length*5≤(flat ((l.take l.length).drop i)++r).length:=by rw[uW,hX5,hr];omega
  obtain⟨q,r1,eq,hq⟩:=cut2 (flat ((l.take l.length).drop i)++r) hXr
  have eql:=congrArg List.length eq
  simp only[uW,hX5,hr,hq] at eql
  have D:Hp Z ρ (Pt g (.cells ((p++flat (l.take i))++q++r1).toArray 24 (0,0))::aC 24 (.slice B vs.length c2) vs::L) w:=by
   rw[vD _ q r1,←eq];simpa only[vD] using D
  refine s_appRoom (t2:=0) (wk0 O) O O C O kG D (cs:=flat vs) O O (by rw[uW,hA5,hpl];omega) (by omega) (by rw[hq,hV5]) hV5 (fun j u F=>by
   obtain⟨b,e,hh⟩:=hsrc j u F
   exact⟨b,e,hh _ _ _ (D.get 1 O)⟩) (by decide) (one5 vs) ?_
  intro a w C D
  have e1:i-0+vs.length=i+vs.length:=by omega
  have e2:cap-0=cap:=by omega
  rw[e1,e2] at C
  refine S C 1 O fun a C=>aB ?_
  repeat (refine aG ?_)
  refine aA (S C 1 O fun a C=>?_)
  refine V C D O (bW O C O (fun w ty=>tC kG _ _ _ w ty)) fun a C=>S C 1 O fun a C=>V C D O (bW O C O (fun w ty=>tC kG _ _ _ w ty)) fun a C=>S C 1 O fun a C=>aB ?_
  have fin:∀(w:World) (r':List Value),r'.length=r1.length→Hp Z ρ (Pt g (.cells ((p++flat (l.take i))++flat vs++r').toArray 24 (0,0))::aC 24 (.slice B vs.length c2) vs::L) w→Hp Z ρ (aC 24 (.slice (some ⟨g,off,none⟩) (i+vs.length) cap) (l.take i++vs++[])::aC 24 (.slice B vs.length c2) vs::L) w:=fun w r' hr' D=>by
   rw[List.append_nil]
   have e:p++flat (l.take i)++flat vs++r'=p++flat (l.take i++vs)++r':=by rw[hrf];simp only[vD]
   rw[e] at D
   have D:=Hp.shutB (α:=NdH) (l:=l.take i++vs) (off:=off) (cap:=cap) D hpl (by omega) hcm (by show _=_*5;rw[hrl,hr'];omega)
   rwa [hrl] at D
  repeat (refine aG ?_)
  refine dK C O (fun Q=>?_) (fun Q=>?_)
  ·
   have hlt:i+vs.length<l.length:=by have:=of_decide_eq_true Q;omega
   obtain⟨q1,r2,rfl,hq1⟩:=cut2 r1 (n:=(l.length-(i+vs.length))*5) (by omega)
   repeat (refine aG ?_)
   refine aA (S C 2 O fun a C=>?_)
   refine V C D O (bW O C O (fun w ty=>tC kG _ _ _ w ty)) fun a C=>?_
   obtain⟨A2,A2r,A2e,A2z⟩:=nP (P:=Tryz.prog) kG g (off) (l.length) (cap) (some (.i64,((i+vs.length:Nat):Int))) none (i:=i+vs.length) (j:=l.length) (by first|rfl|(dsimp only;omega)) (by first|rfl|(dsimp only;omega)) (by omega) (by omega)
   refine V C D O (v:= .slice A2 ((l.length)-(i+vs.length)) (cap-(i+vs.length))) (rX O C O (some (.i64,((i+vs.length:Nat):Int))) none (by exact O) (by exact trivial) A2r) fun a C=>?_
   rw[←vD] at D
   refine s_clearB (wk0 O) O C O kG ndZero D O (by rw[uW,uW,hA5,hV5,hpl,Nat.add_assoc,←Nat.add_mul];exact A2e) hq1 (by decide) kr ?_
   intro w q' hq' D
   rw[vD _ q' r2] at D
   refine aB ?_
   repeat (refine aG ?_)
   refine aA (S C 2 O fun a C=>?_)
   refine aB ?_
   repeat (refine aG ?_)
   refine cZ ?_
   exact gY C O O ⟨_,O,fin _ _ (by simp only[uW,hq']) D⟩
  refine bI ?_
  repeat (refine aG ?_)
  refine aA (S C 2 O fun a C=>?_)
  refine aB ?_
  repeat (refine aG ?_)
  refine cZ ?_
  exact gY C O O ⟨_,O,fin _ _ O D⟩
 have hjn:j<l.length:=by
  have:=of_decide_eq_false J;omega
 refine bI ?_
 obtain⟨tot,htot⟩:∃tot,tot=i+vs.length+(l.length-j):=⟨_,O⟩
 repeat (refine aG ?_)
 refine jU kr kr D ?_
 refine Sq C 2 O fun a C=>?_
 obtain⟨A1,A1r,A1e,A1z⟩:=nP (P:=Tryz.prog) kG g (off) (l.length) (cap) none (some (.i64,(i:Int))) (i:=0) (j:=i) (by first|rfl|(dsimp only;omega)) (by first|rfl|(dsimp only;omega)) (by omega) (by omega)
 refine Vq C O (v:= .slice A1 (i-0) (cap-0)) (rX O C O none (some (.i64,(i:Int))) (by exact trivial) (by exact O) A1r) fun a C=>Vq C O (bW O C O (fun w ty=>tC kG _ _ _ w ty)) fun a C=>Sq C 1 O fun a C=>Vq C O (bW O C O (fun w ty=>tC kG _ _ _ w ty)) fun a C=>Vq C O (v:=(Iv ((i+vs.length:Nat):Int))) (bF O C O O (by rw[IntKind.wrap_i64];omega)) fun a C=>Sq C 2 O fun a C=>?_
 obtain⟨A2,A2r,A2e,A2z⟩:=nP (P:=Tryz.prog) kG g (off) (l.length) (cap) (some (.i64,(j:Int))) none (i:=j) (j:=l.length) (by first|rfl|(dsimp only;omega)) (by first|rfl|(dsimp only;omega)) (by omega) (by omega)
 refine Vq C O (v:= .slice A2 ((l.length)-j) (cap-j)) (rX O C O (some (.i64,(j:Int))) none (by exact O) (by exact trivial) A2r) fun a C=>Vq C O (bW O C O (fun w ty=>tC kG _ _ _ w ty)) fun a C=>Vq C O (v:=(Iv (tot:Int))) (bF O C O O (by rw[IntKind.wrap_i64];omega)) fun a C=>Sq C 1 O fun a C=>?_
 refine jQ fun w D=>?_
 repeat (refine aG ?_)
 refine aA (S C 2 O fun a C=>?_)
 refine V C D O (v:=(Iv (cap:Int))) (ex_capN O C O (fun w ty=>by simp[Builtin.cap_,run_underlying kG.und,goInt])) fun a C=>S C 1 O fun a C=>aB ?_
 repeat (refine aG ?_)
 refine dK C O (fun I=>?_) (fun I=>?_)
 ·
  have hg:cap<tot:=by have:=of_decide_eq_true I;omega
  repeat (refine aG ?_)
  refine aA (S C 2 O fun a C=>?_)
  obtain⟨A3,A3r,A3e,A3z⟩:=nP (P:=Tryz.prog) kG g (off) (l.length) (cap) none (some (.i64,(i:Int))) (i:=0) (j:=i) (by first|rfl|(dsimp only;omega)) (by first|rfl|(dsimp only;omega)) (by omega) (by omega)
  refine V C D O (v:= .slice A3 (i-0) (cap-0)) (rX O C O none (some (.i64,(i:Int))) (by exact trivial) (by exact O) A3r) fun a C=>?_
  obtain rfl:=A3z O
  refine S C 2 O fun a C=>V C D O (v:=(Iv ((tot-i:Nat):Int))) (dQ O C O O (by rw[IntKind.wrap_i64];omega)) fun a C=>?_
  have D:Hp Z ρ (Pt g (.cells (p++flat (l.take i)++(flat ((l.take j).drop i)++flat (l.drop j)++r)).toArray 24 (0,0))::aC 24 (.slice B vs.length c2) vs::L) w:=by simpa only[vD] using D
  refine s_appZeros (wk0 O) O O C O kG Tryz.underlying3 D (by rw[hpl];rfl) O (by rw[hA5];rfl) (by omega) (by omega) (by decide) (by omega) (by decide) ?_
  intro a w h G zs hG1 hG2 hzl C D
  have e1:i-0+(tot-i)=tot:=by omega
  rw[e1] at C hG1
  replace hzl:zs.length=(G-i)*5:=hzl
  obtain⟨z1,z23,rfl,hz1⟩:=cut2 zs (n:=vs.length*5) (by omega)
  obtain⟨z2,z3,rfl,hz2⟩:=cut2 z23 (n:=(l.length-j)*5) (by simp only[uW] at hzl;omega)
  simp only[uW] at hzl
  refine S C 1 O fun a C=>aB ?_
  repeat (refine aG ?_)
  refine aA (S C 2 O fun a C=>?_)
  obtain⟨A4,A4r,A4e,A4z⟩:=nP (P:=Tryz.prog) kG h (0) (tot) (G) (some (.i64,(i:Int))) none (i:=i) (j:=tot) (by first|rfl|(dsimp only;omega)) (by first|rfl|(dsimp only;omega)) (by omega) (by omega)
  refine V C D O (v:= .slice A4 (tot-i) (G-i)) (rX O C O (some (.i64,(i:Int))) none (by exact O) (by exact trivial) A4r) fun a C=>S C 1 O fun a C=>?_
  rw[←vD] at D
  refine O5 (wk0 O) O O C O kG D (cs:=flat vs) O O (by rw[hA5];simpa using A4e) (by omega) (by rw[hV5,Nat.min_eq_left (by omega)]) (fun j u F=>by
   obtain⟨b,e,hh⟩:=hsrc j u F
   exact⟨b,e,hh _ _ _ (D.get 2 O)⟩) (by decide) (one5 vs) ?_
  intro a w C D
  refine aB ?_
  have D:Hp Z ρ (Pt h (.cells ((flat (l.take i)++flat vs)++z2++z3).toArray 24 (0,0))::Pt g (.cells (p++flat (l.take i)++(flat ((l.take j).drop i)++flat (l.drop j)++r)).toArray 24 (0,0))::aC 24 (.slice B vs.length c2) vs::L) w:=by
   simpa only[vD] using D
  repeat (refine aG ?_)
  have D:=D.drew
  refine gK ([([],At0 Z ρ)]:Facts) (fun a w=>Env 224 [(11,.slice (some ⟨h,0,none⟩) tot G)] a∧Hp Z ρ (Pt h (.cells ((flat (l.take i)++flat vs)++flat (l.drop j)++z3).toArray 24 (0,0))::Pt g (.cells (p++flat (l.take i)++(flat ((l.take j).drop i)++flat (l.drop j)++r)).toArray 24 (0,0))::aC 24 (.slice B vs.length c2) vs::L) w) kr ⟨fun _=>⟨_,D⟩,tv⟩ (fun E=>?_) ?_
  ·
   generalize w.drew=w at E D⊢
   refine Ts [0,1,2] C E O O kr fun a C E=>T0 3 C E O O O kr (fun _=>bW O C O (fun w ty=>tC kG _ _ _ w ty)) fun a C E=>T0 4 C E O O O kr (v:=(Iv ((i+vs.length:Nat):Int))) (fun _=>bF O C O O (by rw[IntKind.wrap_i64];omega)) fun a C E=>?_
   obtain⟨A5,A5r,A5e,A5z⟩:=nP (P:=Tryz.prog) kG h (0) (tot) (G) (some (.i64,((i+vs.length:Nat):Int))) none (i:=i+vs.length) (j:=tot) (by first|rfl|(dsimp only;omega)) (by first|rfl|(dsimp only;omega)) (by omega) (by omega)
   refine T0 5 C E O O O kr (v:= .slice A5 (tot-(i+vs.length)) (G-(i+vs.length))) (fun _=>rX O C O (some (.i64,((i+vs.length:Nat):Int))) none (by exact O) (by exact trivial) A5r) fun a C E=>Ts [6,7] C E O O kr fun a C E=>?_
   obtain⟨A6,A6r,A6e,A6z⟩:=nP (P:=Tryz.prog) kG g (off) (l.length) (cap) (some (.i64,(j:Int))) none (i:=j) (j:=l.length) (by first|rfl|(dsimp only;omega)) (by first|rfl|(dsimp only;omega)) (by omega) (by omega)
   refine T0 8 C E O O O kr (v:= .slice A6 ((l.length)-j) (cap-j)) (fun _=>rX O C O (some (.i64,(j:Int))) none (by exact O) (by exact trivial) A6r) fun a C E=>?_
   refine W1 9 kr O ?_
   refine O5 (wk0 O) O O C O kG D (cs:=flat (l.drop j)) O O (by rw[uW,hA5,hV5,←Nat.add_mul];simpa using A5e) (by omega) (by rw[hB5];congr 1;show _=min _ _;omega) (fun k u hk=>by
    refine⟨_,A6e.resolve_left (by omega),?_⟩
    have hkl:=(uR.1 hk).1
    rw[Addr.add_lit,cell_of_row w g _ _ _ (0,0) (D.look 1 rfl),List.getElem?_toArray,vE (by simp only[uW];omega),vD,vE (by simp only[uW];omega),vR (by simp only[uW];omega),←hk]
    congr 1;simp only[uW];omega) (by decide) (one5 _) ?_
   intro a w C D
   refine aB (aF ⟨gp0 D,tv⟩ fun E=>?_)
   exact bT kr ⟨C.cut ⟨O,tv⟩,D⟩
  rintro a w ⟨C,D⟩
  repeat (refine aG ?_)
  refine aA (S C 2 O fun a C=>?_)
  refine aB ?_
  repeat (refine aG ?_)
  refine cZ ?_
  refine gY C O O ⟨_,O,?_⟩
  rw[←hrf,←List.nil_append (flat _)] at D
  have D:=(Hp.shutB (α:=NdH) (l:=l.take i++vs++l.drop j) (off:=0) (cap:=G) D O (by omega) hG2 (by show _=_*5;rw[hrl];omega)).get 1 O |>.drop
  rw[hrl,←htot] at D
  exact D
 have hg:tot≤cap:=by have:=of_decide_eq_false I;omega
 refine bI ?_
 repeat (refine aG ?_)
 refine aA (S C 2 O fun a C=>?_)
 obtain⟨A3,A3r,A3e,A3z⟩:=nP (P:=Tryz.prog) kG g (off) (l.length) (cap) none (some (.i64,(tot:Int))) (i:=0) (j:=tot) (by first|rfl|(dsimp only;omega)) (by first|rfl|(dsimp only;omega)) (by omega) (by omega)
 refine V C D O (v:= .slice A3 (tot-0) (cap-0)) (rX O C O none (some (.i64,(tot:Int))) (by exact trivial) (by exact O) A3r) fun a C=>?_
 obtain rfl:=A3z O
 refine S C 1 O fun a C=>aB ?_
 rw[Nat.sub_zero,Nat.sub_zero] at C
 have shut:∀(w:World) (r':List Value),r'.length=(cap-tot)*5→Hp Z ρ (Pt g (.cells (p++flat (l.take i)++flat vs++flat (l.drop j)++r').toArray 24 (0,0))::aC 24 (.slice B vs.length c2) vs::L) w→Hp Z ρ (aC 24 (.slice (some ⟨g,off,none⟩) tot cap) (l.take i++vs++l.drop j)::aC 24 (.slice B vs.length c2) vs::L) w:=fun w r' hr' D=>by
  have e:p++flat (l.take i)++flat vs++flat (l.drop j)++r'=p++flat (l.take i++vs++l.drop j)++r':=by rw[hrf];simp only[vD]
  rw[e] at D
  have D:=Hp.shutB (α:=NdH) (l:=l.take i++vs++l.drop j) (off:=off) (cap:=cap) D hpl (by omega) hcm (by show _=_*5;rw[hrl];omega)
  rwa [hrl,←htot] at D
 repeat (refine aG ?_)
 refine aA (S C 2 O fun a C=>?_)
 refine V C D O (bW O C O (fun w ty=>tC kG _ _ _ w ty)) fun a C=>V C D O (v:=(Iv ((i+vs.length:Nat):Int))) (bF O C O O (by rw[IntKind.wrap_i64];omega)) fun a C=>S C 2 O fun a C=>aB ?_
 repeat (refine aG ?_)
 refine dK C O (fun H=>?_) (fun H=>?_)
 ·
  have hle:i+vs.length≤j:=by have:=of_decide_eq_true H;omega
  obtain⟨X1,X2,eX,hX1⟩:=cut2 (flat ((l.take j).drop i)) (n:=vs.length*5) (by omega)
  have hX2:X2.length=(j-i)*5-vs.length*5:=by have:=congrArg List.length eX;simp only[uW] at this;omega
  have D:Hp Z ρ (Pt g (.cells ((p++flat (l.take i))++X1++(X2++flat (l.drop j)++r)).toArray 24 (0,0))::aC 24 (.slice B vs.length c2) vs::L) w:=by
   rw[eX] at D;simpa only[vD] using D
  repeat (refine aG ?_)
  refine aA (S C 2 O fun a C=>?_)
  obtain⟨A4,A4r,A4e,A4z⟩:=nP (P:=Tryz.prog) kG g (off) (tot) (cap) (some (.i64,(i:Int))) none (i:=i) (j:=tot) (by first|rfl|(dsimp only;omega)) (by first|rfl|(dsimp only;omega)) (by omega) (by omega)
  refine V C D O (v:= .slice A4 (tot-i) (cap-i)) (rX O C O (some (.i64,(i:Int))) none (by exact O) (by exact trivial) A4r) fun a C=>S C 1 O fun a C=>?_
  refine O5 (wk0 O) O O C O kG D (cs:=flat vs) O O (by rw[uW,hA5,hpl];exact A4e) (by omega) (by rw[hV5,Nat.min_eq_left (by omega)]) (fun j u F=>by
   obtain⟨b,e,hh⟩:=hsrc j u F
   exact⟨b,e,hh _ _ _ (D.get 1 O)⟩) (by decide) (one5 vs) ?_
  intro a w C D
  refine aB ?_
  have hcells:∀(k:Nat) (u:Value),(flat (l.drop j))[k]?=some u→(p++flat (l.take i)++flat vs++(X2++flat (l.drop j)++r))[off+j*5+k]?=some u:=fun k u hk=>by
   have hkl:=(uR.1 hk).1
   rw[vE (by simp only[uW];omega),vD,vE (by simp only[uW];omega),vR (by simp only[uW];omega),←hk]
   congr 1;simp only[uW];omega
  obtain⟨q,r1,eq,hq⟩:=cut2 (X2++flat (l.drop j)++r) (n:=(l.length-j)*5) (by simp only[uW];omega)
  have eql:=congrArg List.length eq
  simp only[uW] at eql
  rw[eq] at D hcells
  rw[←vD] at D hcells
  repeat (refine aG ?_)
  have D:=D.drew
  refine gK ([([],At0 Z ρ)]:Facts) (fun a w=>Env 224 [(0,.slice (some ⟨g,off,none⟩) l.length cap),(10,(Iv (tot:Int))),(12,.slice (some ⟨g,off,none⟩) tot cap)] a∧Hp Z ρ (Pt g (.cells ((p++flat (l.take i)++flat vs)++flat (l.drop j)++r1).toArray 24 (0,0))::aC 24 (.slice B vs.length c2) vs::L) w) kr ⟨fun _=>⟨_,D⟩,tv⟩ (fun E=>?_) ?_
  ·
   generalize w.drew=w at E D⊢
   refine Ts [0,1,2] C E O O kr fun a C E=>T0 3 C E O O O kr (fun _=>bW O C O (fun w ty=>tC kG _ _ _ w ty)) fun a C E=>T0 4 C E O O O kr (v:=(Iv ((i+vs.length:Nat):Int))) (fun _=>bF O C O O (by rw[IntKind.wrap_i64];omega)) fun a C E=>?_
   obtain⟨A5,A5r,A5e,A5z⟩:=nP (P:=Tryz.prog) kG g (off) (tot) (cap) (some (.i64,((i+vs.length:Nat):Int))) none (i:=i+vs.length) (j:=tot) (by first|rfl|(dsimp only;omega)) (by first|rfl|(dsimp only;omega)) (by omega) (by omega)
   refine T0 5 C E O O O kr (v:= .slice A5 (tot-(i+vs.length)) (cap-(i+vs.length))) (fun _=>rX O C O (some (.i64,((i+vs.length:Nat):Int))) none (by exact O) (by exact trivial) A5r) fun a C E=>Ts [6,7] C E O O kr fun a C E=>?_
   obtain⟨A6,A6r,A6e,A6z⟩:=nP (P:=Tryz.prog) kG g (off) (l.length) (cap) (some (.i64,(j:Int))) none (i:=j) (j:=l.length) (by first|rfl|(dsimp only;omega)) (by first|rfl|(dsimp only;omega)) (by omega) (by omega)
   refine T0 8 C E O O O kr (v:= .slice A6 ((l.length)-j) (cap-j)) (fun _=>rX O C O (some (.i64,(j:Int))) none (by exact O) (by exact trivial) A6r) fun a C E=>?_
   refine W1 9 kr O ?_
   refine O5 (wk0 O) O O C O kG D (cs:=flat (l.drop j)) O O (by rw[uW,uW,hA5,hV5,hpl,Nat.add_assoc,←Nat.add_mul];exact A5e) (by omega) (by rw[hB5];congr 1;show _=min _ _;omega) (fun k u hk=>by
    refine⟨_,A6e.resolve_left (by omega),?_⟩
    rw[Addr.add_lit,cell_of_row w g _ _ _ (0,0) (D.look 0 rfl),List.getElem?_toArray]
    exact hcells k u hk) (by decide) (one5 _) ?_
   intro a w C D
   refine aB (aF ⟨gp0 D,tv⟩ fun E=>?_)
   exact bT kr ⟨C.cut ⟨O,O,O,tv⟩,D⟩
  rintro a w ⟨C,D⟩
  obtain⟨q1,r2,rfl,hq1⟩:=cut2 r1 (n:=(l.length-tot)*5) (by omega)
  simp only[uW] at eql
  rw[←vD] at D
  repeat (refine aG ?_)
  refine aA (S C 2 O fun a C=>?_)
  obtain⟨A7,A7r,A7e,A7z⟩:=nP (P:=Tryz.prog) kG g (off) (l.length) (cap) (some (.i64,(tot:Int))) none (i:=tot) (j:=l.length) (by first|rfl|(dsimp only;omega)) (by first|rfl|(dsimp only;omega)) (by omega) (by omega)
  refine V C D O (v:= .slice A7 ((l.length)-tot) (cap-tot)) (rX O C O (some (.i64,(tot:Int))) none (by exact O) (by exact trivial) A7r) fun a C=>?_
  refine s_clearB (wk0 O) O C O kG ndZero D O (by
   have e:(p++flat (l.take i)++flat vs++flat (l.drop j)).length=off+tot*5:=by simp only[uW];omega
   rw[e];exact A7e) hq1 (by decide) kr ?_
  intro w q' hq' D
  rw[vD _ q' r2] at D
  refine aB ?_
  repeat (refine aG ?_)
  refine aA (S C 2 O fun a C=>?_)
  refine aB ?_
  repeat (refine aG ?_)
  refine cZ ?_
  exact gY C O O ⟨_,O,shut _ _ (by simp only[uW];omega) D⟩
 have hlt:j<i+vs.length:=by have:=of_decide_eq_false H;omega
 refine bI ?_
 obtain⟨M,qr,eM,hM⟩:=cut2 (flat ((l.take j).drop i)++flat (l.drop j)++r) (n:=vs.length*5) (by simp only[uW];omega)
 obtain⟨q,r2,rfl,hq⟩:=cut2 qr (n:=(l.length-j)*5) (by have:=congrArg List.length eM;simp only[uW] at this;omega)
 have eMl:=congrArg List.length eM
 simp only[uW] at eMl
 have hcells:∀(k:Nat) (u:Value),(flat (l.drop j))[k]?=some u→(p++flat (l.take i)++M++q++r2)[off+j*5+k]?=some u:=fun k u hk=>by
  have hkl:=(uR.1 hk).1
  rw[vD,vD,←eM,vE (by simp only[uW];omega),vD,vE (by simp only[uW];omega),vR (by simp only[uW];omega),←hk]
  congr 1;simp only[uW];omega
 have D:Hp Z ρ (Pt g (.cells (p++flat (l.take i)++M++q++r2).toArray 24 (0,0))::aC 24 (.slice B vs.length c2) vs::L) w:=by
  have e:p++(flat (l.take i)++flat ((l.take j).drop i)++flat (l.drop j))++r=p++flat (l.take i)++M++q++r2:=by rw[vD _ M q,vD _ (M++q) r2,vD M q r2,←eM];simp only[vD]
  rw[←e];exact D
 repeat (refine aG ?_)
 refine aA (S C 3 O fun a C=>?_)
 refine V C D O (bW O C O (fun w ty=>tC kG _ _ _ w ty)) fun a C=>V C D O (v:=(Iv ((i+vs.length:Nat):Int))) (bF O C O O (by rw[IntKind.wrap_i64];omega)) fun a C=>?_
 obtain⟨A4,A4r,A4e,A4z⟩:=nP (P:=Tryz.prog) kG g (off) (tot) (cap) (some (.i64,((i+vs.length:Nat):Int))) none (i:=i+vs.length) (j:=tot) (by first|rfl|(dsimp only;omega)) (by first|rfl|(dsimp only;omega)) (by omega) (by omega)
 refine V C D O (v:= .slice A4 (tot-(i+vs.length)) (cap-(i+vs.length))) (rX O C O (some (.i64,((i+vs.length:Nat):Int))) none (by exact O) (by exact trivial) A4r) fun a C=>S C 1 O fun a C=>V C D O (v:= .bool false) (ex_ext O C [.slice A4 (tot-(i+vs.length)) (cap-(i+vs.length)),.slice B vs.length c2] (by exact⟨O,O,tv⟩) (fun w R=>by rw[run_callFunc_extern Tryz.func109 kr kr kr (e:=Extern.SlicesOverlaps.overlaps #[22,22] #[4]) kr,(run_ovl (α:=NdH) kG R A4e (by omega) (by intro h;have:=congrArg List.length h;simp only[uW,List.length_nil] at this;omega) (by omega)).1];rfl)) fun a C=>S C 1 O fun a C=>aB ?_
 repeat (refine aG ?_)
 refine dK C O (fun _=>?_) (fun Q=>by cases Q)
 repeat (refine aG ?_)
 have D:=D.drew
 refine gK ([([],At0 Z ρ)]:Facts) (fun a w=>Env 224 [(1,(Iv (i:Int))),(3,.slice B vs.length c2),(12,.slice (some ⟨g,off,none⟩) tot cap)] a∧Hp Z ρ (Pt g (.cells (p++flat (l.take i)++M++flat (l.drop j)++r2).toArray 24 (0,0))::aC 24 (.slice B vs.length c2) vs::L) w) kr ⟨fun _=>⟨_,D⟩,tv⟩ (fun E=>?_) ?_
 ·
  generalize w.drew=w at E D⊢
  refine Ts [0,1,2] C E O O kr fun a C E=>T0 3 C E O O O kr (fun _=>bW O C O (fun w ty=>tC kG _ _ _ w ty)) fun a C E=>T0 4 C E O O O kr (v:=(Iv ((i+vs.length:Nat):Int))) (fun _=>bF O C O O (by rw[IntKind.wrap_i64];omega)) fun a C E=>?_
  obtain⟨A5,A5r,A5e,A5z⟩:=nP (P:=Tryz.prog) kG g (off) (tot) (cap) (some (.i64,((i+vs.length:Nat):Int))) none (i:=i+vs.length) (j:=tot) (by first|rfl|(dsimp only;omega)) (by first|rfl|(dsimp only;omega)) (by omega) (by omega)
  refine T0 5 C E O O O kr (v:= .slice A5 (tot-(i+vs.length)) (cap-(i+vs.length))) (fun _=>rX O C O (some (.i64,((i+vs.length:Nat):Int))) none (by exact O) (by exact trivial) A5r) fun a C E=>Ts [6,7] C E O O kr fun a C E=>?_
  obtain⟨A6,A6r,A6e,A6z⟩:=nP (P:=Tryz.prog) kG g (off) (l.length) (cap) (some (.i64,(j:Int))) none (i:=j) (j:=l.length) (by first|rfl|(dsimp only;omega)) (by first|rfl|(dsimp only;omega)) (by omega) (by omega)
  refine T0 8 C E O O O kr (v:= .slice A6 ((l.length)-j) (cap-j)) (fun _=>rX O C O (some (.i64,(j:Int))) none (by exact O) (by exact trivial) A6r) fun a C E=>?_
  refine W1 9 kr O ?_
  refine O5 (wk0 O) O O C O kG D (cs:=flat (l.drop j)) O O (by rw[uW,uW,hA5,hM,hpl,Nat.add_assoc,←Nat.add_mul];exact A5e) (by omega) (by rw[hB5];congr 1;show _=min _ _;omega) (fun k u hk=>by
   refine⟨_,A6e.resolve_left (by omega),?_⟩
   rw[Addr.add_lit,cell_of_row w g _ _ _ (0,0) (D.look 0 rfl),List.getElem?_toArray]
   exact hcells k u hk) (by decide) (one5 _) ?_
  intro a w C D
  refine aB (aF ⟨gp0 D,tv⟩ fun E=>?_)
  exact bT kr ⟨C.cut ⟨O,O,O,tv⟩,D⟩
 rintro a w ⟨C,D⟩
 rw[vD _ (flat (l.drop j)) r2] at D
 repeat (refine aG ?_)
 refine aA (S C 2 O fun a C=>?_)
 obtain⟨A7,A7r,A7e,A7z⟩:=nP (P:=Tryz.prog) kG g (off) (tot) (cap) (some (.i64,(i:Int))) none (i:=i) (j:=tot) (by first|rfl|(dsimp only;omega)) (by first|rfl|(dsimp only;omega)) (by omega) (by omega)
 refine V C D O (v:= .slice A7 (tot-i) (cap-i)) (rX O C O (some (.i64,(i:Int))) none (by exact O) (by exact trivial) A7r) fun a C=>S C 1 O fun a C=>?_
 refine O5 (wk0 O) O O C O kG D (cs:=flat vs) O O (by rw[uW,hA5,hpl];exact A7e) (by omega) (by rw[hV5,Nat.min_eq_left (by omega)]) (fun j u F=>by
  obtain⟨b,e,hh⟩:=hsrc j u F
  exact⟨b,e,hh _ _ _ (D.get 1 O)⟩) (by decide) (one5 vs) ?_
 intro a w C D
 rw[←vD] at D
 refine aB ?_
 repeat (refine aG ?_)
 refine aA (S C 2 O fun a C=>?_)
 refine aB ?_
 repeat (refine aG ?_)
 refine cZ ?_
 exact gY C O O ⟨_,O,shut _ _ (by omega) D⟩
theorem c_cloneN {Z:World} {ρ:PH} {L:List bQ} {w:World} (C:List NdH) (vp0:Value) (hp0:aH ρ vp0 C) (hlim:C.length≤4294967296) (B:Hp Z ρ L w):
  Calls Tryz.prog 98 #[vp0] w (Ret fun v w'=>Hp Z ρ (aC 24 v C::L) w'):=by
 have F:app [] C=some C:=by unfold app;rw[if_pos (by simpa using hlim)];rfl
 refine enter (N:=8) Tryz.func98 O O [(0,vp0)] O (bH ⟨O,tv⟩) fun a A=>?_
 obtain⟨b,E,D⟩:=aH.nilq (P:=Tryz.prog) hp0 kG
 refine aG (aA ?_)
 refine S A 1 O fun a A=>aB (aG ?_)
 refine aG (aA ?_)
 refine S A 1 O fun a A=>V A B O (v:= .bool b) (wU O A O O fun w _=>E w _ _) fun a A=>aB ?_
 refine dK A O (fun hb=>?_) (fun hb=>?_)
 ·obtain rfl:=D hb
  refine aG (aA ?_)
  refine S A 1 O fun a A=>aB (cZ ?_)
  exact gY A O O ⟨_,O,B.emp (aC.nil (α:=NdH) 24)⟩
 refine bI (aG ?_)
 refine aA ?_
 refine fU (wk0 O) O O A B O [] trivial [] 24 (fun w=>by simp[Instr.buildSlice,Instr.fill,Value.cells,go_sem]) ?_
 intro a w b1 A B
 have B:=(B.get 0 O).imp (uJ (l:=([]:List NdH)) (n:=0) O (by decide) O)
 have B:Hp Z ρ (aC 24 (.slice (some ⟨b1,0,none⟩) 0 0) ([]:List NdH)::L) w:=id B
 refine S A 1 O fun a A=>?_
 refine s_apps (wk0 O) O O A B O kG O O 0 O O hp0 F ?_
 intro v1 a w A B
 have B:Hp Z ρ (aC 24 v1 C::L) w:=id B
 refine S A 1 O fun a A=>aB (cZ ?_)
 exact gY A O O ⟨_,O,B⟩
theorem ndEntC:∀args w,(callFunc 98 args).run Tryz.prog w= .ok (.enter 98 args) w:=enters Tryz.func98 kr O
theorem ndEntR:∀args w,(callFunc 97 args).run Tryz.prog w= .ok (.enter 97 args) w:=enters Tryz.func97 kr O
theorem c_cloneO {Z:World} {ρ:PH} {L:List bQ} {w:World} (A:List NdH) (vp0:Value) (hlim:A.length≤4294967296) (B:Hp Z ρ (aC 24 vp0 A::L) w):
  Calls Tryz.prog 98 #[vp0] w (Ret fun v w'=>Hp Z ρ (aC 24 v A::aC 24 vp0 A::L) w'):=by
 obtain⟨k,ka,kd,h⟩:=B.lend
 refine Calls.mono (c_cloneN A vp0 (aC.ro kd ka) hlim h) fun e w' he=>?_
 obtain⟨v,rfl,hh⟩:=he
 exact⟨_,O,(Hp.back ka kd hh).get 1 O⟩
theorem ndEntP:∀args w,(callFunc 53 args).run Tryz.prog w= .ok (.enter 53 args) w:=enters Tryz.func53 kr O
theorem copied_c {Z:World} {ρ:PH}:∀(m:Nat) (A:Node),SizeOf.sizeOf A≤m→∀(v:Value) (hv:aH ρ v A.kids),bK A≤4294967296→∀(L:List bQ) (w:World),Hp Z ρ L w→
  Calls Tryz.prog 53 #[uO A v] w (Ret fun r w'=>∃v1,r=uO A v1∧Hp Z ρ (lH 24 v1 A.kids::L) w'):=by
 intro m
 induction m with
 |zero=>intro A h;obtain⟨a,b,c,d,k⟩:=A;simp only[Node.mk.sizeOf_spec] at h;omega
 |succ m ih=>
  intro A hsz v hv hcN L w B
  have hcnt:=pG A
  have hkl:=wY A.kids
  refine enter (N:=22) Tryz.func53 O O [(0,uO A v)] O (bH ⟨O,tv⟩) fun a C=>?_
  repeat (refine aG ?_)
  refine aA ?_
  refine iH (wk0 O) O O C B O (v:=uO A v) O ?_
  intro a w b1 C B
  have B:Hp Z ρ (Pt b1 (.cells #[(Iv A.kind),(.string A.text),(Iv A.at_),(Iv A.fin),v] 24 (0,0))::L) w:=id B
  refine dF (wk0 O) O O C B O [(Iv 0),(.string ByteArray.empty),(Iv 0),(Iv 0),N0] (fun w=>by simp[Instr.alloc,go_sem]<;>rfl) ?_
  intro a w b2 C B
  have B:Hp Z ρ (Pt b2 (.cells #[(Iv 0),(.string ByteArray.empty),(Iv 0),(Iv 0),N0] 24 (0,0))::Pt b1 (.cells #[(Iv A.kind),(.string A.text),(Iv A.at_),(Iv A.fin),v] 24 (0,0))::L) w:=id B
  refine aB ?_
  repeat (refine aG ?_)
  refine aA (S C 1 O fun a C=>?_)
  refine aB ?_
  repeat (refine aG ?_)
  refine aA (V C B O (dJ O C O (tcF4 _ _)) fun a C=>?_)
  refine V C B O (xl C tcVS 1 O O O O) fun a C=>V C B O (bW O C O (aH.len hv tcSl)) fun a C=>S C 1 O fun a C=>aB ?_
  have B:=B.emp (aC.nil (α:=NdH) 24)
  have B:=(B.emp (KdA_emp (T:=24))).get 1 O
  repeat (refine aG ?_)
  refine dM (fun a w=>∃kv hs,Env 22 [(1,.pointer (some ⟨b1,0,none⟩)),(2,.pointer (some ⟨b2,0,none⟩)),(3,kv)] a∧Hp Z ρ (aC 24 kv hs::KdA 24 A.kids hs::Pt b2 (.cells #[(Iv 0),(.string ByteArray.empty),(Iv 0),(Iv 0),N0] 24 (0,0))::Pt b1 (.cells #[(Iv A.kind),(.string A.text),(Iv A.at_),(Iv A.fin),v] 24 (0,0))::L) w) ?_ ?_
  ·refine eQ (kidsLoop A.kids.length A.kids.length 0 (by omega)) (fun i a w=>∃kv hs,i≤A.kids.length∧Env 22 [(1,.pointer (some ⟨b1,0,none⟩)),(2,.pointer (some ⟨b2,0,none⟩)),(3,kv),(7,v),(8,(Iv (A.kids.length:Int))),(9,(Iv (i:Int)))] a∧Hp Z ρ (aC 24 kv hs::KdA 24 (A.kids.take i) hs::Pt b2 (.cells #[(Iv 0),(.string ByteArray.empty),(Iv 0),(Iv 0),N0] 24 (0,0))::Pt b1 (.cells #[(Iv A.kind),(.string A.text),(Iv A.at_),(Iv A.fin),v] 24 (0,0))::L) w) ?_ ?_
   ·exact⟨_,_,Nat.zero_le _,C.cut ⟨O,O,O,O,O,O,tv⟩,B⟩
   rintro i st a w ⟨kv,hs,hi,C,B⟩ D
   repeat (refine aG ?_)
   refine aA (S C 1 O fun a C=>?_)
   refine aB ?_
   repeat (refine aG ?_)
   refine dK C O (fun hb=>?_) (fun hb=>?_)
   ·
    have hlt:i<A.kids.length:=by simpa using hb
    obtain⟨x,F⟩:∃x,A.kids[i]?=some x:=⟨_,vB hlt⟩
    have h1:=zG F
    have h2:=aD3 A.kids (i+1)
    have hhl:hs.length=i:=by rw[B.kdLen 1 O,vQ];omega
    have ex:idx A.kids (i:Int)=some x:=by unfold idx;rw[if_pos (by omega)];simpa using F
    obtain⟨b3,b3o,b3c,b3r,b3k,b3f⟩:=aH.at hv tcSl ex
    obtain⟨vk,rfl,hk⟩:=NodeAt.opens b3k
    refine bI ?_
    repeat (refine aG ?_)
    refine dN ?_
    repeat (refine aG ?_)
    refine aA (V C B O (aO O C O O b3r) fun a C=>?_)
    refine V C B O (aK O C O (fun w E=>aX (cs:=[(Iv x.kind),(.string x.text),(Iv x.at_),(Iv x.fin),vk]) tcVN (fun j u G=>cell_of E.le (b3f j u G)))) fun a C=>?_
    refine dF (wk0 O) O O C B O [(Iv 0),(.string ByteArray.empty),(Iv 0),(Iv 0),N0] (fun w=>by simp[Instr.alloc,go_sem]<;>rfl) ?_
    intro a w b4 C B
    refine aV (wk0 O) O C B O O (v:=uO x vk) O 0 O (by exact tcVN.size_) O (by
     have h1:=aH.one hk
     intro u hu
     simp[Value.cells] at hu
     rcases hu with rfl|rfl|rfl|rfl|rfl<;>first|rfl|exact h1) [(Iv x.kind),(.string x.text),(Iv x.at_),(Iv x.fin),vk] (by simp[Value.cells]) ?_
    intro w B
    refine aB ?_
    repeat (refine aG ?_)
    refine aA (S C 1 O fun a C=>?_)
    refine V C B O (aK O C O (fun w E=>aX (cs:=[(Iv x.kind),(.string x.text),(Iv x.at_),(Iv x.fin),vk]) tcVN (Hp.cN 0 O 0 _ (aS O) w E))) fun a C=>?_
    have B:=B.drop
    refine s_call (wk0 O) O O C O [uO x vk] ⟨O,tv⟩ ndEntP (ih x (by have:=aD5 F;omega) vk hk (by omega) _ _ B) Ret.ret ?_
    intro v2 a w H C
    obtain⟨v1,rfl,B⟩:=Ret.of H
    obtain⟨s1,rfl⟩:=lH.sl B
    have hs1c:=Sl.cells s1
    refine fU (wk0 O) O O C B O [(0,uO x s1.v)] ⟨⟨O,O⟩,tv⟩ (Enc.enc (⟨x.kind,x.text,x.at_,x.fin,s1⟩:NdH)) 24 (fun w=>by simp only[Value.cells] at hs1c;simp[Instr.buildSlice,Instr.fill,Value.cells,hs1c,Enc.enc,go_sem]) ?_
    intro a w b5 C B
    refine gB (α:=NdH) (wk0 O) O O C B O kG O O 2 O O (l2:=[⟨x.kind,x.text,x.at_,x.fin,s1⟩]) O (fun j u G=>by have:=Hp.cN 0 O 0 _ (aS O) w B j u G;simpa using this) (r:=hs++[⟨x.kind,x.text,x.at_,x.fin,s1⟩]) (by unfold app;rw[if_pos (by simp;omega)]) ?_
    intro v' a w C B
    have B:Hp Z ρ (_::lH 24 s1.v x.kids::aC 24 v' (hs++[⟨x.kind,x.text,x.at_,x.fin,s1⟩])::KdA 24 (A.kids.take i) hs::Pt b2 (.cells #[(Iv 0),(.string ByteArray.empty),(Iv 0),(Iv 0),N0] 24 (0,0))::Pt b1 (.cells #[(Iv A.kind),(.string A.text),(Iv A.at_),(Iv A.fin),v] 24 (0,0))::L) w:=id B
    have B:=B.drop
    have B:Hp Z ρ (lH 24 (⟨x.kind,x.text,x.at_,x.fin,s1⟩:NdH).kids.v x.kids::aC 24 v' (hs++[⟨x.kind,x.text,x.at_,x.fin,s1⟩])::KdA 24 (A.kids.take i) hs::Pt b2 (.cells #[(Iv 0),(.string ByteArray.empty),(Iv 0),(Iv 0),N0] 24 (0,0))::Pt b1 (.cells #[(Iv A.kind),(.string A.text),(Iv A.at_),(Iv A.fin),v] 24 (0,0))::L) w:=id B
    have B:=(Hp.kd1 (Hp.ndI ⟨O,O,O,O⟩ B)).get 2 O
    have B:=(Hp.kdApp B).get 1 O
    refine S C 1 O fun a C=>aB ?_
    repeat (refine aG ?_)
    refine aA (V C B O (v:=(Iv ((i+1:Nat):Int))) (bF O C O O (by rw[IntKind.wrap_i64];omega)) fun a C=>?_)
    refine S C 1 O fun a C=>aB ?_
    refine⟨i+1,?_,v',hs++[⟨x.kind,x.text,x.at_,x.fin,s1⟩],by omega,C.cut ⟨O,O,O,O,O,O,tv⟩,?_⟩
    ·unfold P8 at D;rw[if_pos hlt] at D;exact(oj D).symm
    have e:A.kids.take (i+1)=A.kids.take i++[x]:=by
     obtain⟨h3,h4⟩:=uR.1 F
     rw[List.take_succ_eq_append_getElem h3,h4]
    rw[e];exact B
   have hge:¬i<A.kids.length:=by simpa using hb
   refine dZ ?_
   refine⟨(),?_,fun _=>⟨kv,hs,C.cut ⟨rfl,rfl,rfl,tv⟩,?_⟩⟩
   ·unfold P8 at D;rw[if_neg hge] at D;exact(oj D).symm
   rw[wN (by omega)] at B;exact B
  rintro a w ⟨kv,hs,C,B⟩
  obtain⟨s1,rfl⟩:=aC.toSl B 0 O
  have hs1c:=Sl.cells s1
  repeat (refine aG ?_)
  refine aA (S C 1 O fun a C=>?_)
  refine V C B O (dJ O C O (tcF4 _ _)) fun a C=>?_
  refine bV (wk0 O) O C B O O O 3 O tcVS.size_ (Sl.cells s1) (Sl.one s1) O [(Iv A.kind),(.string A.text),(Iv A.at_),(Iv A.fin),s1.v] O ?_
  intro w B
  have B:Hp Z ρ (aC 24 s1.v hs::KdA 24 A.kids hs::Pt b2 (.cells #[(Iv 0),(.string ByteArray.empty),(Iv 0),(Iv 0),N0] 24 (0,0))::Pt b1 (.cells [(Iv A.kind),(.string A.text),(Iv A.at_),(Iv A.fin),s1.v].toArray 24 (0,0))::L) w:=id B
  refine aB ?_
  repeat (refine aG ?_)
  refine aA (V C B O (aK O C O (fun w E=>aX (cs:=[(Iv A.kind),(.string A.text),(Iv A.at_),(Iv A.fin),s1.v]) tcVN (Hp.cN 3 O 0 _ (aS O) w E))) fun a C=>?_)
  refine aV (wk0 O) O C B O O (v:=uO A s1.v) O 2 O (by exact tcVN.size_) O (by
   have h1:=Sl.one s1
   intro u hu
   simp[Value.cells] at hu
   rcases hu with rfl|rfl|rfl|rfl|rfl<;>first|rfl|exact h1) [(Iv A.kind),(.string A.text),(Iv A.at_),(Iv A.fin),s1.v] (by simp[Value.cells]) ?_
  intro w B
  have B:Hp Z ρ (aC 24 s1.v hs::KdA 24 A.kids hs::Pt b2 (.cells [(Iv A.kind),(.string A.text),(Iv A.at_),(Iv A.fin),s1.v].toArray 24 (0,0))::Pt b1 (.cells [(Iv A.kind),(.string A.text),(Iv A.at_),(Iv A.fin),s1.v].toArray 24 (0,0))::L) w:=id B
  refine aB ?_
  repeat (refine aG ?_)
  refine cZ ?_
  exact retc1 C O O (aI6 (cs:=[(Iv A.kind),(.string A.text),(Iv A.at_),(Iv A.fin),s1.v]) tcVN (Hp.cN 2 O 0 _ (aS O) _ B)) ⟨_,O,_,O,((((B.get 3 O).drop).get 2 O).drop).forI⟩
def H9 (g o:Nat) (F:Value→Obj):Prop:=∀s:Sl,∃(cs:Array Value) (T:TypeId),F s.v= .cells cs T (0,0)∧cs[o]?=some s.v∧∀s':Sl,F s'.v= .cells (cs.setIfInBounds o s'.v) T (0,0)
theorem H9.ld {g o:Nat} {F:Value→Obj} (hF:H9 g o F) {Z:World} {ρ:PH} {L:List bQ} {w:World} {s:Sl} (A:Hp Z ρ L w) (i:Nat) (e:L[i]?=some (Pt g (F s.v))):(Instr.loadAt 22 (Pv g o)).run Tryz.prog w= .ok s.v w:=by
 obtain⟨cs,T,h1,h2,h3⟩:=hF s
 rw[h1] at e
 exact aZ tcVS (Hp.c i e o h2 w A)
theorem H9.one (b:Nat) (T:TypeId):H9 b 0 (fun v=> .cells #[v] T (0,0)):=fun s=>⟨#[s.v],T,O,O,fun s'=>by simp⟩
theorem H9.arr {g o:Nat} {c:Array Value} {T:TypeId} (h:o<c.size):H9 g o (fun v=> .cells (c.setIfInBounds o v) T (0,0)):=fun s=>⟨c.setIfInBounds o s.v,T,O,by simp[h],fun s'=>by simp⟩
theorem KdA_el {T:TypeId} {ρ k:PH} {ts:List Node} {l:List NdH} (d:ρ.dj k) (hk:KdA T ts l k) {i:Nat} {x:Node} (hi:ts[i]?=some x):∃h,l[i]?=some h∧NdW x h∧aH (ρ.un k) h.kids.v x.kids:=by
 obtain⟨h,e,hn⟩:=KdA_ro ts l d hk i x hi
 obtain⟨v,e2,hv⟩:=NodeAt.opens hn
 simp only[Enc.enc,List.cons.injEq,Value.int.injEq,Value.string.injEq,true_and,and_true] at e2
 obtain⟨h1,h2,h3,h4,h5⟩:=e2
 exact⟨h,e,⟨h1,h2,h3,h4⟩,h5▸hv⟩
theorem ndV_eq {n:Node} {h:NdH} (A:NdW n h):ndV h=uO n h.kids.v:=by
 obtain⟨h1,h2,h3,h4⟩:=A
 unfold ndV uO
 rw[h1,h2,h3,h4]
theorem cntL_take_drop {l:List Node} {i:Nat} {n:Node} (h:l[i]?=some n):gW (l.drop i)=bK n+gW (l.drop (i+1)):=by
 obtain⟨h1,h2⟩:=uR.1 h
 rw[List.drop_eq_getElem_cons h1,h2,D8]
def aD8 (ts:List Node) (p:Nat×Nat):Option (Step (Nat×Nat) Unit):=match ts[p.1]? with|none=>some (.done ())|some x=>if p.2<bK x then some (.done ()) else some (.next (p.1+1,p.2-bK x))
theorem atLoop (ts:List Node):∀(j i k:Nat),ts.length≤i+j→∃r,dY (aD8 ts) (i,k)=some r
 |0,i,k,h=>⟨(),sN (by unfold aD8;simp only;rw[List.getElem?_eq_none (by omega)])⟩
 |j+1,i,k,h=>by
  cases A:ts[i]? with
  |none=>exact⟨(),sN (by unfold aD8;simp only;rw[A])⟩
  |some x=>
   by_cases hk:k<bK x
   ·exact⟨(),sN (by unfold aD8;simp only;rw[A];simp only;rw[if_pos hk])⟩
   obtain⟨r,hr⟩:=atLoop ts j (i+1) (k-bK x) (by omega)
   exact⟨r,by rw[zX (show aD8 ts (i,k)=some (.next (i+1,k-bK x)) by unfold aD8;simp only;rw[A];simp only;rw[if_neg hk])];exact hr⟩
def AtPost (Z:World) (ρ:PH) (L:List bQ) (g o:Nat) (F:Value→Obj) (s:Sl) (ts:List Node) (q:Option (List Node×Nat×(List Node→List Node))) (r:Value) (w:World):Prop:=
 match q with
 |none=>r= .tuple #[.pointer none,.pointer none,.int .i64 0]∧Hp Z ρ (Pt g (F s.v)::lH 24 s.v ts::L) w
 |some (ts1,i,p)=>∃(g1 o1:Nat) (F1:Value→Obj) (s1:Sl) (l1:List NdH) (nb no:Nat) (C:List bQ),H9 g1 o1 F1∧(∃of0 cap,s1.v= .slice (some ⟨nb,of0,none⟩) l1.length cap∧no=of0+i*5)∧i<ts1.length∧
   r= .tuple #[.pointer (some ⟨nb,no,none⟩),.pointer (some ⟨g1,o1,none⟩),.int .i64 (i:Int)]∧
   (∀(s2:Sl) (ts2:List Node) (w2:World) (L2:List bQ),Hp Z ρ (Pt g1 (F1 s2.v)::lH 24 s2.v ts2::(C++L2)) w2→∃s3:Sl,Hp Z ρ (Pt g (F s3.v)::lH 24 s3.v (p ts2)::L2) w2)∧
   Hp Z ρ (Pt g1 (F1 s1.v)::aC 24 s1.v l1::KdA 24 ts1 l1::(C++L)) w
theorem ndEntA:∀args w,(callFunc 96 args).run Tryz.prog w= .ok (.enter 96 args) w:=enters Tryz.func96 kr O
theorem ndEntK:∀args w,(callFunc 64 args).run Tryz.prog w= .ok (.enter 64 args) w:=enters Tryz.func64 kr O
theorem at_c {Z:World} {ρ:PH}:∀(m:Nat) (ts:List Node),SizeOf.sizeOf ts≤m→∀(n g o:Nat) (F:Value→Obj) (hF:H9 g o F) (s:Sl) (L:List bQ) (w:World),n<9223372036854775808→gW ts≤4294967296→Hp Z ρ (Pt g (F s.v)::lH 24 s.v ts::L) w→
  Calls Tryz.prog 96 #[.pointer (some ⟨g,o,none⟩),(Iv (n:Int))] w (Ret (AtPost Z ρ L g o F s ts (atL [] ts n))):=by
 intro m
 induction m with
 |zero=>intro ts h;cases ts<;>simp at h
 |succ m ih=>
  intro ts hsz n g o F hF s L w hn hcN E
  obtain⟨l,E⟩:=(E.get 1 O).forO
  have E:Hp Z ρ (Pt g (F s.v)::aC 24 s.v l::KdA 24 ts l::L) w:=E.get 2 O
  have hll:=E.kdLen 2 O
  have htl:=wY ts
  refine enter (N:=49) Tryz.func96 O O [(0,.pointer (some ⟨g,o,none⟩)),(1,(Iv (n:Int)))] O (bH ⟨O,O,tv⟩) fun a B=>?_
  repeat (refine aG ?_)
  refine aA (S B 3 O fun a B=>?_)
  refine aB ?_
  repeat (refine aG ?_)
  refine aA (S B 2 O fun a B=>?_)
  refine V B E O (aK O B O (fun w I=>hF.ld I 0 O)) fun a B=>V B E O (v:=(Iv (ts.length:Int))) (bW O B O (by have:=aC.len E 1 O kG;rw[hll] at this;exact this)) fun a B=>S B 1 O fun a B=>aB ?_
  obtain⟨r0,hr0⟩:=atLoop ts ts.length 0 n (by omega)
  repeat (refine aG ?_)
  refine dM (fun a w=>atL [] ts n=none∧Env 49 [] a∧Hp Z ρ (Pt g (F s.v)::aC 24 s.v l::KdA 24 ts l::L) w) ?_ ?_
  ·refine eQ hr0 (fun p a w=>p.1≤ts.length∧atL (ts.take p.1) (ts.drop p.1) p.2=atL [] ts n∧p.2≤n∧Env 49 [(0,.pointer (some ⟨g,o,none⟩)),(1,(Iv (p.2:Int))),(13,(Iv (ts.length:Int))),(14,(Iv (p.1:Int)))] a∧Hp Z ρ (Pt g (F s.v)::aC 24 s.v l::KdA 24 ts l::L) w) ?_ ?_
   ·exact⟨Nat.zero_le _,by simp,zP _,B.cut ⟨O,O,O,O,tv⟩,E⟩
   rintro⟨i,k⟩ st a w ⟨hi,hat,hkn,B,E⟩ D
   simp only at hi hat hkn B
   repeat (refine aG ?_)
   refine aA (S B 1 O fun a B=>?_)
   refine aB ?_
   repeat (refine aG ?_)
   refine dK B O (fun hb=>?_) (fun hb=>?_)
   ·
    have hlt:i<ts.length:=by simpa using hb
    obtain⟨x,H⟩:∃x,ts[i]?=some x:=⟨_,vB hlt⟩
    have hdx:ts.drop i=x::ts.drop (i+1):=by
     obtain⟨h3,h4⟩:=uR.1 H
     rw[List.drop_eq_getElem_cons h3,h4]
    have hcx:=cntL_take_drop H
    have hcd:gW (ts.take i)+gW (ts.drop i)=gW ts:=by rw[←aR3,zR]
    obtain⟨kk,kka,kkd,hpk⟩:=(E.get 2 O).lend
    obtain⟨y,hy,hyw,hyr⟩:=KdA_el kkd kka H
    have hiy:idx l (i:Int)=some y:=by unfold idx;rw[if_pos (by omega)];simpa using hy
    obtain⟨nb,no,br,⟨of0,cap,bv,bo⟩,bf⟩:=aC.at E 1 O kG hiy
    simp only[xL] at bo
    have bo:no=of0+i*5:=bo
    refine bI ?_
    repeat (refine aG ?_)
    refine dN ?_
    repeat (refine aG ?_)
    refine aA (S B 2 O fun a B=>?_)
    refine aB ?_
    repeat (refine aG ?_)
    refine aA (S B 2 O fun a B=>?_)
    refine V B E O (aK O B O (fun w I=>hF.ld I 0 O)) fun a B=>S B 1 O fun a B=>V B E O (aO O B O O br) fun a B=>S B 1 O fun a B=>aB ?_
    repeat (refine aG ?_)
    refine aA (S B 2 O fun a B=>?_)
    refine V B E O (v:=uO x y.kids.v) (aK O B O (fun w I=>by rw[←ndV_eq hyw];exact aX (cs:=Enc.enc y) tcVN (fun j u M=>bf j u M _ _ w (I.get 1 O)))) fun a B=>?_
    refine s_call (wk0 O) O O B O [uO x y.kids.v] ⟨O,tv⟩ ndEntK (aN5 x y.kids.v hyr hpk (bK x:Int) (by unfold aD4;rw[if_pos (by omega)])) Ret.ret ?_
    intro v2 a w K B
    obtain⟨rfl,hpk⟩:=Ret.of K
    have E:Hp Z ρ (Pt g (F s.v)::aC 24 s.v l::KdA 24 ts l::L) w:=(Hp.back kka kkd hpk).get 2 O |>.get 2 O
    refine S B 1 O fun a B=>aB ?_
    repeat (refine aG ?_)
    refine dM (fun a w=>bK x≤k∧Env 49 [(0,.pointer (some ⟨g,o,none⟩)),(1,(Iv (k:Int))),(9,(Iv (bK x:Int))),(13,(Iv (ts.length:Int))),(14,(Iv (i:Int)))] a∧Hp Z ρ (Pt g (F s.v)::aC 24 s.v l::KdA 24 ts l::L) w) ?_ ?_
    ·
     repeat (refine aG ?_)
     refine aA (S B 3 O fun a B=>?_)
     refine aB ?_
     repeat (refine aG ?_)
     refine dK B O (fun hk0=>?_) (fun hk0=>?_)
     ·
      have hk0:k=0:=by have:=of_decide_eq_true hk0;omega
      subst hk0
      repeat (refine aG ?_)
      refine aA (S B 6 O fun a B=>?_)
      refine aB ?_
      repeat (refine aG ?_)
      refine cZ ?_
      have hcp:=(pG x)
      refine⟨(),?_,fun _=>?_⟩
      ·unfold aD8 at D;simp only[H] at D;rw[if_pos (by omega)] at D;exact(oj D).symm
      refine ret3 B O O O O ⟨_,O,?_⟩
      rw[hdx,aL0,if_pos rfl] at hat
      rw[←hat]
      have e1:ts.take i++x::ts.drop (i+1)=ts:=by rw[←hdx,zR]
      have e2:(ts.take i).length=i:=by rw[vQ];omega
      show AtPost _ _ _ _ _ _ _ _ (some (_,_,_)) _ _
      rw[e1,e2]
      exact⟨g,o,F,s,l,nb,no,[],hF,⟨of0,cap,bv,bo⟩,hlt,O,fun s2 ts2 w2 L2 h=>⟨s2,h⟩,E⟩
     have hkp:0<k:=by have:=of_decide_eq_false hk0;omega
     repeat (refine aG ?_)
     refine aA (S B 4 O fun a B=>?_)
     refine aB ?_
     repeat (refine aG ?_)
     refine dK B O (fun hk1=>?_) (fun hk1=>?_)
     ·
      have hk1:k<bK x:=by have:=of_decide_eq_true hk1;omega
      have hcx2:=pG x
      obtain⟨q,hq⟩:=atL_ok _ x.kids [] (k-1) (zP _) (by omega)
      obtain⟨t1,i1,J⟩:=q
      repeat (refine aG ?_)
      refine aA (S B 2 O fun a B=>?_)
      refine V B E O (dJ O B O (tcF4 _ _)) fun a B=>S B 1 O fun a B=>V B E O (v:=(Iv ((k-1:Nat):Int))) (dQ O B O O (by rw[IntKind.wrap_i64];omega)) fun a B=>?_
      rcases(E.get 1 rfl).openB with⟨A,e1,e2⟩|⟨gb,off,cap2,pr,rr,e1,hpl,hlc,hcm,hrr,hpb⟩
      ·rw[e2] at hll;simp at hll;omega
      replace hrr:rr.length=(cap2-l.length)*5:=hrr
      rw[bv] at e1
      simp only[Value.slice.injEq,wA,Addr.mk.injEq,and_true,true_and] at e1
      obtain⟨⟨rfl,rfl⟩,rfl⟩:=e1
      obtain⟨hyl,hyg⟩:=uR.1 hy
      have hfl:=fl5 l
      obtain⟨c0,G⟩:∃c0,c0=(pr++flat l++rr).toArray:=⟨_,O⟩
      have hc0s:c0.size=of0+cap*5:=by rw[G,List.size_toArray,uW,uW,hfl,hrr,hpl];omega
      have hset:∀s2:Sl,c0.setIfInBounds (no+4) s2.v=(pr++flat (l.set i ⟨y.kind,y.text,y.at_,y.fin,s2⟩)++rr).toArray:=fun s2=>by
       rw[G,List.setIfInBounds_toArray]
       congr 1
       have e3:no+4=pr.length+(i*5+4):=by omega
       rw[e3,vD,List.set_append,if_neg (by omega),Nat.add_sub_cancel_left,List.set_append,if_pos (by rw[hfl];omega),←vD]
       congr 2
       exact aR5 l i y ⟨y.kind,y.text,y.at_,y.fin,s2⟩ 4 s2.v hy O (by decide)
      have hself:c0.setIfInBounds (no+4) y.kids.v=c0:=by
       rw[hset,G]
       have e4:l.set i ⟨y.kind,y.text,y.at_,y.fin,y.kids⟩=l:=by
        have:(⟨y.kind,y.text,y.at_,y.fin,y.kids⟩:NdH)=y:=rfl
        rw[this,←hyg];exact List.set_getElem_self hyl
       rw[e4]
      have hF2:H9 nb (no+4) (fun v=> .cells (c0.setIfInBounds (no+4) v) 24 (0,0)):=H9.arr (by rw[hc0s];omega)
      have hts:ts=ts.take i++([x]++ts.drop (i+1)):=by rw[List.singleton_append,←hdx,zR]
      have etl:(ts.take i).length=i:=by rw[vQ];omega
      have hp1:Hp Z ρ (Pt nb (.cells (c0.setIfInBounds (no+4) y.kids.v) 24 (0,0))::lH 24 y.kids.v x.kids::([Pt g (F s.v),KdA 24 (ts.take i) (l.take i),KdA 24 (ts.drop (i+1)) (l.drop (i+1))]++L)) w:=by
       have h1:Hp Z ρ (KdA 24 (ts.take i++([x]++ts.drop (i+1))) l::Pt nb (.cells (pr++flat l++rr).toArray 24 (0,0))::Pt g (F s.v)::L) w:=by rw[←hts];exact(hpb.get 2 O)
       have h2:=h1.kdSplit
       rw[etl] at h2
       have h3:=(h2.get 1 O).kdSplit
       obtain⟨y',ey,h4⟩:=h3.kd1O
       have ey2:y'=y:=by
        have:=congrArg (fun z=>z[0]?) ey
        simp only[List.length_singleton,xD,yW,Nat.add_zero,hy] at this
        simpa using this.symm
       subst ey2
       have h5:=h4.ndO.2
       rw[hself,G]
       have e6:(l.drop i).drop [x].length=l.drop (i+1):=by rw[List.drop_drop];rfl
       rw[e6] at h5
       exact((((h5.get 1 O).get 2 O).get 4 O).get 3 O).get 4 O
      refine s_call (wk0 rfl) rfl rfl B rfl [.pointer (some ⟨nb,no+4,none⟩),(Iv ((k-1:Nat):Int))] ⟨rfl,rfl,tv⟩ ndEntA (ih x.kids (by have:=List.sizeOf_lt_of_mem (vL H);obtain⟨a,b,c,d,kk⟩:=x;simp only[Node.mk.sizeOf_spec] at this;show SizeOf.sizeOf kk≤m;omega) (k-1) nb (no+4) _ hF2 y.kids _ w (by omega) (by omega) hp1) Ret.ret ?_
      intro v3 a w K B
      have hP:=Ret.of K
      rw[hq] at hP
      obtain⟨g1,o1,F1,s1,l1,nb1,no1,C,hF1,hsl,hi1,rfl,hcl,E⟩:=hP
      refine S B 6 O fun a B=>aB ?_
      repeat (refine aG ?_)
      refine cZ ?_
      refine⟨(),?_,fun _=>?_⟩
      ·unfold aD8 at D;simp only[H] at D;rw[if_pos hk1] at D;exact(oj D).symm
      refine ret3 B O O O O ⟨_,O,?_⟩
      rw[hdx,aL0,if_neg (by omega),if_pos hk1,atN_eq,hq] at hat
      rw[←hat]
      refine⟨g1,o1,F1,s1,l1,nb1,no1,C++[Pt g (F s.v),KdA 24 (ts.take i) (l.take i),KdA 24 (ts.drop (i+1)) (l.drop (i+1))],hF1,hsl,hi1,O,?_,?_⟩
      ·intro s2 ts2 w2 L2 h2
       rw[vD] at h2
       obtain⟨s3,h3⟩:=hcl s2 ts2 w2 _ h2
       have h3:Hp Z ρ (Pt nb (.cells (c0.setIfInBounds (no+4) s3.v) 24 (0,0))::lH 24 s3.v (J ts2)::Pt g (F s.v)::KdA 24 (ts.take i) (l.take i)::KdA 24 (ts.drop (i+1)) (l.drop (i+1))::L2) w2:=h3
       rw[hset] at h3
       have h4:=Hp.shutB (α:=NdH) (l:=l.set i ⟨y.kind,y.text,y.at_,y.fin,s3⟩) (off:=of0) (cap:=cap) h3 hpl (by rw[List.length_set];omega) hcm (by rw[List.length_set];exact hrr)
       rw[List.length_set,←bv] at h4
       have h5:Hp Z ρ (lH 24 (⟨y.kind,y.text,y.at_,y.fin,s3⟩:NdH).kids.v (x.re (J ts2)).kids::_) w2:=h4.get 1 O
       have h6:=(Hp.ndI (n:=x.re (J ts2)) (x:=⟨y.kind,y.text,y.at_,y.fin,s3⟩) hyw h5).kd1
       have h7:=(h6.get 4 O).get 1 O
       have h8:=(Hp.kdApp h7).get 3 O
       have h9:=Hp.kdApp h8
       have e7:l.take i++([⟨y.kind,y.text,y.at_,y.fin,s3⟩]++l.drop (i+1))=l.set i ⟨y.kind,y.text,y.at_,y.fin,s3⟩:=by
        rw[List.set_eq_take_append_cons_drop,if_pos hyl];rfl
       rw[e7] at h9
       refine⟨s,?_⟩
       exact(Hp.forI (h9.get 1 O)).get 1 O
      rw[vD];exact E
     have hk1:bK x≤k:=by have:=of_decide_eq_false hk1;omega
     refine bI ?_
     exact⟨hk1,B.cut ⟨O,O,O,O,O,tv⟩,E⟩
    rintro a w ⟨hkx,B,E⟩
    repeat (refine aG ?_)
    refine aA (S B 2 O fun a B=>?_)
    refine V B E O (v:=(Iv ((k-bK x:Nat):Int))) (dQ O B O O (by rw[IntKind.wrap_i64];omega)) fun a B=>S B 1 O fun a B=>aB ?_
    repeat (refine aG ?_)
    refine aA (V B E O (v:=(Iv ((i+1:Nat):Int))) (bF O B O O (by rw[IntKind.wrap_i64];omega)) fun a B=>?_)
    refine S B 1 O fun a B=>aB ?_
    have hcp:=pG x
    refine⟨(i+1,k-bK x),?_,?_⟩
    ·unfold aD8 at D;simp only[H] at D;rw[if_neg (by omega)] at D;exact(oj D).symm
    refine⟨by show i+1≤_;omega,?_,by show k-bK x≤n;omega,B.cut ⟨O,O,O,O,tv⟩,E⟩
    show atL (ts.take (i+1)) (ts.drop (i+1)) (k-bK x)=_
    rw[←hat,hdx,aL0,if_neg (by omega),if_neg (by omega)]
    obtain⟨h3,h4⟩:=uR.1 H
    rw[List.take_succ_eq_append_getElem h3,h4]
   have hge:¬i<ts.length:=by simpa using hb
   refine dZ ?_
   refine⟨(),?_,fun _=>⟨?_,B.cut trivial,E⟩⟩
   ·unfold aD8 at D;simp only at D;rw[List.getElem?_eq_none (by omega)] at D;exact(oj D).symm
   rw[←hat,List.drop_of_length_le (by omega),atL_nil]
  rintro a w ⟨hat,B,E⟩
  repeat (refine aG ?_)
  refine aA (S B 3 O fun a B=>?_)
  refine aB ?_
  repeat (refine aG ?_)
  refine cZ ?_
  refine ret3 B O O O O ⟨_,O,?_⟩
  rw[hat]
  exact⟨O,(Hp.forI (E.get 1 O |>.get 2 O |>.get 1 O)).get 1 O⟩
end Go.Proofs.YtopnldfjcciieaaGreat
